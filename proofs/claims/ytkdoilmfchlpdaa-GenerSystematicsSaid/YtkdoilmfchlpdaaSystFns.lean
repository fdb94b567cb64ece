/- Systematic of whatever rows: the layer's and the document's. -/
import Derived.Test.YtkdoilmfchlpdaaZ8
import Derived.Test.YtkdoilmfchlpdaaSystLaw
import Derived.Test.YtkdoilmfchlpdaaSyst
import Derived.Test.YtkdoilmfchlpdaaZ6

namespace Go.Proofs.Ytkdoilmfchlpdaa.R
open Go.RowKit Go.Proofs.YtkdoilmfchlpdaaW.PrintWords Go.Proofs.YtkdoilmfchlpdaaW.PrintLast Go.Proofs.YtkdoilmfchlpdaaW.PrintMore Go.Proofs.Ytkdoilmfchlpdaa.A Go.Proofs.Ytkdoilmfchlpdaa.B Go.Proofs.Ytkdoilmfchlpdaa.RI GP
set_option linter.unusedVariables false
set_option linter.unusedSimpArgs false
theorem Copied_any {l : List (List Int)} (h1 : l.length ≤ 5864062014635) (h2 : ∀ x, x ∈ l → x.length < 140737488355328) : Ev (fun k => culletlaw11_copied.f k l) l := by
  unfold culletlaw11_copied.f
  simp only [if_pos (show (0 : Int) ≤ (l.length : Int) by omega), Int.toNat_natCast, if_pos (show l.length ≤ 11728124029610 by omega)]
  have st : ∀ i, i ≤ l.length → (l.take i ++ List.replicate (l.length - i) ([] : List Int)).length = l.length := fun i hi => by simp; omega
  have key := ev_up (r := l) (L := fun k i => culletlaw11_copied.l0 k l (l.take i ++ List.replicate (l.length - i) []) ((i : Nat) : Int)) (n := l.length) ?_ ?_ 0 (Nat.zero_le _)
  · exact key
  · refine Ev.step (fun k => culletlaw11_copied.l0.eq_2 _ _ _ k) ?_
    simp only [if_neg (show ¬ ((l.length : Nat) : Int) < (l.length : Int) by omega), Nat.sub_self, List.replicate_zero, List.append_nil, List.take_length]
    exact Ev.now _
  · intro i hi nx
    refine Ev.step (fun k => culletlaw11_copied.l0.eq_2 _ _ _ k) ?_
    have hm : l.getD i [] = l[i] := by rw [List.getD_eq_getElem?_getD, List.getElem?_eq_getElem hi]; rfl
    have hl := h2 _ (List.getElem_mem hi)
    have e : (l.take i ++ List.replicate (l.length - i) ([] : List Int)).set i l[i] = l.take (i + 1) ++ List.replicate (l.length - (i + 1)) [] := by
      apply List.ext_getElem?
      intro j
      rw [List.getElem?_set, st i (by omega)]
      by_cases c : i = j
      · subst c
        rw [if_pos rfl, if_pos hi, List.getElem?_append_left (by simp; omega), List.getElem?_take, if_pos (by omega), List.getElem?_eq_getElem hi]
      · rw [if_neg c]
        by_cases d : j < i
        · rw [List.getElem?_append_left (by simp; omega), List.getElem?_append_left (by simp; omega), List.getElem?_take, List.getElem?_take, if_pos d, if_pos (by omega)]
        · rw [List.getElem?_append_right (by simp; omega), List.getElem?_append_right (by simp; omega), List.getElem?_replicate, List.getElem?_replicate]
          simp only [List.length_take]
          by_cases g : j < l.length
          · rw [if_pos (by omega), if_pos (by omega)]
          · rw [if_neg (by omega), if_neg (by omega)]
    simp only [q_rdB, if_pos (show ((i : Nat) : Int) < (l.length : Int) by omega), Option.bind_some, if_pos (show (0 : Int) ≤ (i : Int) by omega), rdl, hm, List.length_nil, Nat.zero_add, if_pos hl, st i (by omega), List.nil_append, Int.toNat_natCast, e, wr_up (n := i) (by omega)]
    exact nx
theorem turned {n r : Nat} (hnr : n ≤ r) {M : Nat → Nat → G8} (hd : LA.det n M ≠ 0) : ∀ i d, i < r → d < n → LA.mm n M (inv8 n M) i d = trs (LA.gj n (trs M) n).1 i d := by
  have hd2 : LA.det n (trs M) ≠ 0 := by
    have := LA.det_transpose n M
    intro e; exact hd (this.symm.trans e)
  have hl := (LA.gj_full n (trs M)).2 hd2
  obtain ⟨X, hX⟩ := (LA.gj_of n r (trs M) n).1
  have hu := (LA.gj_red n r (trs M) n).unit hl
  have right : ∀ a d, a < n → d < n → LA.mm n M (trs X) a d = LA.one a d := fun a d ha hdn => by
    have e := hX d a hdn (by omega)
    rw [hu d a hdn ha] at e
    have e2 : LA.one d a = (LA.one a d : G8) := by
      unfold LA.one
      by_cases h : d = a
      · rw [if_pos h, if_pos h.symm]
      · rw [if_neg h, if_neg (fun z => h z.symm)]
    rw [← e2, e]
    exact LA.sm_congr (fun k _ => LA.Fld.mul_comm _ _)
  have inv := (inv8_is hd).1
  have eq : ∀ k d, k < n → d < n → inv8 n M k d = X d k := fun k d hk hdn => by
    have e1 : LA.mm n (LA.mm n (inv8 n M) M) (trs X) k d = LA.mm n LA.one (trs X) k d := LA.sm_congr (fun a ha => by rw [inv k a hk ha])
    have e2 : LA.mm n (inv8 n M) (LA.mm n M (trs X)) k d = LA.mm n (inv8 n M) LA.one k d := LA.sm_congr (fun a ha => by rw [right a d ha hdn])
    rw [LA.one_mm _ hk] at e1
    rw [LA.mm_one _ _ hdn] at e2
    have e3 := congrFun (congrFun (LA.mm_assoc n n (inv8 n M) M (trs X)) k) d
    rw [e1, e2] at e3
    exact e3.symm
  intro i d hi hdn
  show _ = (LA.gj n (trs M) n).1 d i
  rw [hX d i hdn hi]
  exact LA.sm_congr (fun k hk => by rw [eq k d hk hdn]; exact LA.Fld.mul_comm _ _)
theorem Systematic_both {l : List (List Int)} (hb : ∀ x, x ∈ l → ∀ y, y ∈ x → (Lit.int .u8 y).wf = true) :
    ∃ (r : List (List Int)) (e : Int), Ev (fun k => gener_Systematic.f k l) (r, e) ∧ culletref11_Systematic.f l = some (r, e) ∧ (r = [] ∨ ∃ m c A, m ≤ 256 ∧ c ≤ 512 ∧ r = mt m c A) := by
  have c1 := Check_any l
  unfold culletref11_Systematic.f
  by_cases hc : chk l = true
  · rw [if_pos hc]
    have hc' := chk_iff.1 hc
    obtain ⟨g1, g2, g3, g4, g5⟩ := hc'
    by_cases hn : wid l ≤ l.length
    · have hbt := byt_wf hb
      rw [if_pos hn, if_pos hbt]
      have hs := Syst_of g3 hn g2 (toM l)
      rw [← toM_eq hc hbt] at hs
      by_cases hd : LA.det (wid l) (toM l) = 0
      · rw [if_pos hd] at hs
        have hd2 : LA.det (wid l) (trs (toM l)) = 0 := (LA.det_transpose (wid l) (toM l)).trans hd
        have hne : ¬ (LA.gj (wid l) (trs (toM l)) (wid l)).2.1.length = wid l := fun h => (LA.gj_full _ _).1 h hd2
        rw [if_neg hne]
        refine ⟨_, _, ?_, rfl, .inl rfl⟩
        unfold gener_Systematic.f
        exact Ev.bind hs (Ev.now _)
      · rw [if_neg hd] at hs
        have hd2 : LA.det (wid l) (trs (toM l)) ≠ 0 := fun h => hd ((LA.det_transpose (wid l) (toM l)).symm.trans h)
        rw [if_pos ((LA.gj_full _ _).2 hd2)]
        refine ⟨_, _, ?_, rfl, .inr ⟨l.length, wid l, _, g2, g4, rfl⟩⟩
        rw [← mt_congr (fun i d hi hd' => turned hn hd i d hi hd')]
        unfold gener_Systematic.f
        exact Ev.bind hs (Ev.now _)
    · rw [if_neg hn]
      refine ⟨_, _, ?_, rfl, .inl rfl⟩
      rw [if_pos hc] at c1
      have r0 : (Go.Proofs.Ytkdoilmfchlpdaa.A.rd_L1 l 0).length = wid l := rfl
      have hs : Ev (fun k => gener_systematic.f k l) (([] : List (List Int)), (101 : Int)) := by
        unfold gener_systematic.f
        refine Ev.bind c1 ?_
        simp only [q_rdB, if_true, if_pos (show (0 : Int) < (l.length : Int) by omega), r0, if_pos (show (l.length : Int) < (wid l : Int) by omega)]
        exact Ev.now _
      unfold gener_Systematic.f
      exact Ev.bind hs (Ev.now _)
  · rw [if_neg hc]
    refine ⟨_, _, ?_, rfl, .inl rfl⟩
    rw [if_neg hc] at c1
    have hs : Ev (fun k => gener_systematic.f k l) (([] : List (List Int)), (100 : Int)) := by
      unfold gener_systematic.f
      refine Ev.bind c1 ?_
      simp only [if_neg (show ¬ (100 : Int) = 0 by decide)]
      exact Ev.now _
    unfold gener_Systematic.f
    exact Ev.bind hs (Ev.now _)
end Go.Proofs.Ytkdoilmfchlpdaa.R
