/-
GenerSquare: Systematic, times the top square, is the matrix itself again, and its own top is the identity; of a matrix that is so already it changes nothing.
-/
import Derived.Test.YtkdoilmfchlpdaaZ9
import Derived.Test.YtkdoilmfchlpdaaZ6
import Derived.Test.YtkdoilmfchlpdaaUx2

namespace Go.Proofs.Ytkdoilmfchlpdaa.Pure
open Go.RowKit Go.Proofs.Ytkdoilmfchlpdaa.U Go.Proofs.Ytkdoilmfchlpdaa.A Go.Proofs.Ytkdoilmfchlpdaa.B Go.Proofs.YtkdoilmfchlpdaaW.PrintWords Go.Proofs.YtkdoilmfchlpdaaW.PrintLast Go.Proofs.YtkdoilmfchlpdaaW.PrintMore Go.Proofs.Ytkdoilmfchlpdaa.R Go.Proofs.Ytkdoilmfchlpdaa.RI
set_option linter.unusedVariables false
set_option linter.unusedSimpArgs false
theorem q_rdU : @U.rd_L1 = @Go.Proofs.Ytkdoilmfchlpdaa.A.rd_L1 := rfl
theorem Copied_of {l : List (List Int)} (h1 : l.length ≤ 40) (h2 : ∀ x, x ∈ l → x.length < 140737488355328) : Ev (fun k => culletlaw11_copied.f k l) l := by
  unfold culletlaw11_copied.f
  simp only [if_pos (show (0 : Int) ≤ (l.length : Int) by omega), Int.toNat_natCast, if_pos (show l.length ≤ 11728124029610 by omega)]
  have st : ∀ i, i ≤ l.length → (l.take i ++ List.replicate (l.length - i) ([] : List Int)).length = l.length := fun i hi => by simp; omega
  have key := ev_up (r := l) (L := fun k i => culletlaw11_copied.l0 k l (l.take i ++ List.replicate (l.length - i) []) ((i : Nat) : Int)) (n := l.length) ?_ ?_ 0 (Nat.zero_le _)
  · exact key
  · refine Ev.step (fun k => culletlaw11_copied.l0.eq_2 _ _ _ k) ?_
    simp only [if_neg (show ¬ ((l.length : Nat) : Int) < (l.length : Int) by omega), Nat.sub_self, List.replicate_zero, List.append_nil, List.take_length]
    exact Ev.now _
  · intro i hi nx
    refine Ev.step (fun k => culletlaw11_copied.l0.eq_2 _ _ _ k) ?_
    have hm : l.getD i [] = l[i] := by rw [List.getD_eq_getElem?_getD, List.getElem?_eq_getElem hi]; rfl
    have hl := h2 _ (List.getElem_mem hi)
    have e : (l.take i ++ List.replicate (l.length - i) ([] : List Int)).set i l[i] = l.take (i + 1) ++ List.replicate (l.length - (i + 1)) [] := by
      apply List.ext_getElem?
      intro j
      rw [List.getElem?_set, st i (by omega)]
      by_cases c : i = j
      · subst c
        rw [if_pos rfl, if_pos hi, List.getElem?_append_left (by simp; omega), List.getElem?_take, if_pos (by omega), List.getElem?_eq_getElem hi]
      · rw [if_neg c]
        by_cases d : j < i
        · rw [List.getElem?_append_left (by simp; omega), List.getElem?_append_left (by simp; omega), List.getElem?_take, List.getElem?_take, if_pos d, if_pos (by omega)]
        · rw [List.getElem?_append_right (by simp; omega), List.getElem?_append_right (by simp; omega), List.getElem?_replicate, List.getElem?_replicate]
          simp only [List.length_take]
          by_cases g : j < l.length
          · rw [if_pos (by omega), if_pos (by omega)]
          · rw [if_neg (by omega), if_neg (by omega)]
    simp only [q_rdB, if_pos (show ((i : Nat) : Int) < (l.length : Int) by omega), Option.bind_some, if_pos (show (0 : Int) ≤ (i : Int) by omega), rdl, hm, List.length_nil, Nat.zero_add, if_pos hl, st i (by omega), List.nil_append, Int.toNat_natCast, e, wr_up (n := i) (by omega)]
    exact nx
theorem Systematic_any {l : List (List Int)} (hb : ∀ x, x ∈ l → ∀ y, y ∈ x → (Lit.int .u8 y).wf = true) (h2 : l.length ≤ 40) :
    (∃ e : Int, e ≠ 0 ∧ Ev (fun k => gener_Systematic.f k l) ([], e)) ∨ (∃ n A, 1 ≤ n ∧ n ≤ l.length ∧ l = mt l.length n A ∧ LA.det n A ≠ 0 ∧ Ev (fun k => gener_Systematic.f k l) (mt l.length n (LA.mm n A (inv8 n A)), 0)) := by
  have c1 := Check_any l
  by_cases hc : chk l = true
  · have hc' := chk_iff.1 hc
    obtain ⟨g1, g2, g3, g4, g5⟩ := hc'
    obtain ⟨A, hA⟩ := mt_of g5 hb
    by_cases hn : wid l ≤ l.length
    · have hs := Syst_of g3 hn g2 A
      by_cases hd : LA.det (wid l) A = 0
      · rw [if_pos hd, ← hA] at hs
        refine .inl ⟨102, by decide, ?_⟩
        unfold gener_Systematic.f
        exact Ev.bind hs (Ev.now _)
      · rw [if_neg hd, ← hA] at hs
        refine .inr ⟨wid l, A, g3, hn, hA, hd, ?_⟩
        unfold gener_Systematic.f
        exact Ev.bind hs (Ev.now _)
    · refine .inl ⟨101, by decide, ?_⟩
      rw [if_pos hc] at c1
      have r0 : (Go.Proofs.Ytkdoilmfchlpdaa.A.rd_L1 l 0).length = wid l := rfl
      have hs : Ev (fun k => gener_systematic.f k l) (([] : List (List Int)), (101 : Int)) := by
        unfold gener_systematic.f
        refine Ev.bind c1 ?_
        simp only [q_rdB, if_true, if_pos (show (0 : Int) < (l.length : Int) by omega), r0, if_pos (show (l.length : Int) < (wid l : Int) by omega)]
        exact Ev.now _
      unfold gener_Systematic.f
      exact Ev.bind hs (Ev.now _)
  · refine .inl ⟨100, by decide, ?_⟩
    rw [if_neg hc] at c1
    have hs : Ev (fun k => gener_systematic.f k l) (([] : List (List Int)), (100 : Int)) := by
      unfold gener_systematic.f
      refine Ev.bind c1 ?_
      simp only [if_neg (show ¬ (100 : Int) = 0 by decide)]
      exact Ev.now _
    unfold gener_Systematic.f
    exact Ev.bind hs (Ev.now _)
theorem bitS {S : Nat → Nat → G8} {s c : Nat} (h : S s c = LA.one s c) : ((((((S s c).1 : Nat) : Int) != 0) != (((s : Nat) : Int) == ((c : Nat) : Int))) = false) ∧ (s = c → (((S s c).1 : Nat) : Int) = 1) := by
  rw [h]
  unfold LA.one
  by_cases e : s = c
  · subst e
    rw [if_pos rfl, beq_self_eq_true]
    exact ⟨rfl, fun _ => rfl⟩
  · rw [if_neg e]
    have : (((s : Nat) : Int) == ((c : Nat) : Int)) = false := by rw [beq_eq_false_iff_ne]; omega
    rw [this]
    exact ⟨rfl, fun h => absurd h e⟩
theorem rows {r n : Nat} (hn1 : 1 ≤ n) (hn : n ≤ r) (hr : r ≤ 40) {A S : Nat → Nat → G8} (hS : ∀ s c, s < n → c < n → S s c = LA.one s c) (hM : ∀ s c, s < r → c < n → LA.sm n (fun i => S s i * A i c) = A s c) :
    Ev (fun k => culletlaw11_GenerSquare.l0 k (mt r n A) (mt r n S) (n : Int) 0) true := by
  refine ev_up (L := fun k s => culletlaw11_GenerSquare.l0 k (mt r n A) (mt r n S) (n : Int) ((s : Nat) : Int)) (n := r) ?_ ?_ 0 (Nat.zero_le _)
  · refine Ev.step (fun k => culletlaw11_GenerSquare.l0.eq_2 _ _ _ _ k) ?_
    simp only [mt_len, if_neg (show ¬ ((r : Nat) : Int) < ((r : Nat) : Int) by omega)]
    have hl : ∀ x, x ∈ mt r n S → x.length < 140737488355328 := fun x hx => by
      obtain ⟨i, hi, rfl⟩ := List.mem_map.1 hx
      rw [rowOf_len]; omega
    refine Ev.bind (Copied_of (by rw [mt_len]; exact hr) hl) ?_
    have hd : LA.det n S ≠ 0 := LA.det_of_inv (X := LA.one) (fun i j hi hj => by rw [LA.one_mm S hi j, hS i j hi hj])
    have hs := Syst_of hn1 hn (show r ≤ 256 by omega) S
    rw [if_neg hd] at hs
    have hi := (inv8_is hd).1
    have e : mt r n (LA.mm n S (inv8 n S)) = mt r n S := mt_congr (fun s c _ hc => by
      have h1 : ∀ i j, i < n → j < n → inv8 n S i j = LA.one i j := fun i j hi' hj => by
        rw [← hi i j hi' hj]
        have : LA.mm n (inv8 n S) S i j = LA.mm n (inv8 n S) LA.one i j := LA.sm_congr (fun q hq => by rw [hS q j hq hj])
        rw [this, LA.mm_one _ i hj]
      have : LA.mm n S (inv8 n S) s c = LA.mm n S LA.one s c := LA.sm_congr (fun q hq => by rw [h1 q c hq hc])
      rw [this, LA.mm_one _ s hc])
    have e' : mt r n (LA.mm n S (fun i j => (LA.gj n (beside8 n S LA.one) n).1 i (n + j))) = mt r n S := e
    rw [e'] at hs
    have hs2 : Ev (fun k => gener_Systematic.f k (mt r n S)) (mt r n S, (0 : Int)) := by
      unfold gener_Systematic.f
      exact Ev.bind hs (Ev.now _)
    refine Ev.bind hs2 ?_
    simp only [if_true]
    exact Ev.bind (Equal_mt _ (by omega) (by omega)) (Ev.now _)
  · intro s hs nx
    refine Ev.step (fun k => culletlaw11_GenerSquare.l0.eq_2 _ _ _ _ k) ?_
    simp only [q_rdU, mt_len, if_pos (show ((s : Nat) : Int) < ((r : Nat) : Int) by omega), if_pos (show (0 : Int) ≤ (s : Int) by omega), mt_row hs, rw8_len, if_true, bne_self_eq_false]
    refine Ev.step (fun k => culletlaw11_GenerSquare.j3.eq_2 _ _ _ _ _ k) ?_
    simp only [Bool.false_eq_true, if_false]
    refine ev_up (L := fun k c => culletlaw11_GenerSquare.l1 k (mt r n A) (mt r n S) (n : Int) ((s : Nat) : Int) ((c : Nat) : Int)) (n := n) ?_ ?_ 0 (Nat.zero_le _)
    · refine Ev.step (fun k => culletlaw11_GenerSquare.l1.eq_2 _ _ _ _ _ k) ?_
      simp only [if_neg (show ¬ ((n : Nat) : Int) < ((n : Nat) : Int) by omega), wr_up (n := s) (by omega)]
      exact nx
    · intro c hc nx2
      refine Ev.step (fun k => culletlaw11_GenerSquare.l1.eq_2 _ _ _ _ _ k) ?_
      simp only [if_pos (show ((c : Nat) : Int) < ((n : Nat) : Int) by omega)]
      refine ev_up (L := fun k i => culletlaw11_GenerSquare.l2 k (mt r n A) (mt r n S) (n : Int) ((s : Nat) : Int) ((c : Nat) : Int) (((LA.sm i (fun i => S s i * A i c)).1 : Nat) : Int) ((i : Nat) : Int)) (n := n) ?_ ?_ 0 (Nat.zero_le _)
      · refine Ev.step (fun k => culletlaw11_GenerSquare.l2.eq_2 _ _ _ _ _ _ _ k) ?_
        simp only [q_rdU, if_neg (show ¬ ((n : Nat) : Int) < ((n : Nat) : Int) by omega), mt_len, if_pos (show ((s : Nat) : Int) < ((r : Nat) : Int) by omega), if_pos (show (0 : Int) ≤ (s : Int) by omega), if_pos (show (0 : Int) ≤ (c : Int) by omega), mt_row hs, rw8_len, if_pos (show ((c : Nat) : Int) < ((n : Nat) : Int) by omega), rw8_get hc, hM s c hs hc, if_true, wr_up (n := c) (by omega)]
        by_cases t : s < n
        · obtain ⟨b1, b2⟩ := bitS (hS s c t hc)
          simp only [if_pos (show ((s : Nat) : Int) < ((n : Nat) : Int) by omega), b1, Bool.false_eq_true, if_false]
          by_cases e : s = c
          · simp only [if_pos (show ((s : Nat) : Int) = ((c : Nat) : Int) by omega), b2 e, if_true]
            exact nx2
          · simp only [if_neg (show ¬ ((s : Nat) : Int) = ((c : Nat) : Int) by omega)]
            exact nx2
        · simp only [if_neg (show ¬ ((s : Nat) : Int) < ((n : Nat) : Int) by omega)]
          exact nx2
      · intro i hi nx3
        refine Ev.step (fun k => culletlaw11_GenerSquare.l2.eq_2 _ _ _ _ _ _ _ k) ?_
        simp only [q_rdU, if_pos (show ((i : Nat) : Int) < ((n : Nat) : Int) by omega), mt_len, if_pos (show ((s : Nat) : Int) < ((r : Nat) : Int) by omega), if_pos (show (0 : Int) ≤ (s : Int) by omega), if_pos (show (0 : Int) ≤ (i : Int) by omega), mt_row hs, rw8_len, if_pos (show ((i : Nat) : Int) < ((r : Nat) : Int) by omega), if_pos (show (0 : Int) ≤ (c : Int) by omega), mt_row (show i < r by omega), if_pos (show ((c : Nat) : Int) < ((n : Nat) : Int) by omega), rw8_get hi, rw8_get hc]
        refine Ev.bind (Mul8 (S s i).2 (A i c).2) ?_
        have e3 : Go.bits .xor .u8 (((LA.sm i (fun i => S s i * A i c)).1 : Nat) : Int) ((m8 (S s i).1 (A i c).1 : Nat) : Int) = (((LA.sm (i + 1) (fun i => S s i * A i c)).1 : Nat) : Int) :=
          bits_xor8 (LA.sm i (fun i => S s i * A i c)).2 (S s i * A i c).2
        simp only [e3, wr_up (n := i) (by omega)]
        exact nx3
theorem GenerSquare : culletlaw11_GenerSquare.Pure := by
  intro l hl
  have hb : ∀ x, x ∈ l → ∀ y, y ∈ x → (Lit.int .u8 y).wf = true := fun x hx y hy => (hl.2 x hx).2 y hy
  have hw : ∀ x, x ∈ l → x.length < 140737488355328 := fun x hx => by have := (hl.2 x hx).1; omega
  apply Ev.rounds
  clear hl
  unfold culletlaw11_GenerSquare.f
  refine Ev.bind Awake ?_
  have yes : Ev (fun k => culletlaw11_GenerSquare.j0 k l true) true := by
    refine Ev.step (fun r => culletlaw11_GenerSquare.j0.eq_2 _ _ r) ?_
    simp only [if_true]; exact Ev.now _
  have r0 : (Go.Proofs.Ytkdoilmfchlpdaa.A.rd_L1 l 0).length = wid l := rfl
  by_cases h1 : (l.length : Int) > 40
  · simp only [if_true, if_pos h1]; exact yes
  by_cases h2 : (l.length : Int) < 1
  · simp only [if_true, if_neg h1, if_pos h2]; exact yes
  by_cases h3 : ((wid l : Nat) : Int) > 40
  · simp only [q_rdU, if_true, if_neg h1, if_neg h2, if_pos (show (0 : Int) < (l.length : Int) by omega), r0, if_pos h3]; exact yes
  by_cases h4 : ((wid l : Nat) : Int) < 1
  · simp only [q_rdU, if_true, if_neg h1, if_neg h2, if_pos (show (0 : Int) < (l.length : Int) by omega), r0, if_neg h3, decide_eq_true h4]; exact yes
  simp only [q_rdU, if_true, if_neg h1, if_neg h2, if_pos (show (0 : Int) < (l.length : Int) by omega), r0, if_neg h3, decide_eq_false h4]
  refine Ev.step (fun r => culletlaw11_GenerSquare.j0.eq_2 _ _ r) ?_
  simp only [Bool.false_eq_true, if_false]
  refine Ev.bind (Copied_of (by omega) hw) ?_
  rcases Systematic_any hb (by omega) with ⟨e, he, hs⟩ | ⟨n, A, n1, n2, hA, hd, hs⟩
  · refine Ev.bind hs ?_
    simp only [if_neg he]
    exact Ev.now _
  · refine Ev.bind hs ?_
    have hwd : wid l = n := by rw [hA]; exact wid_mt (by omega)
    have hwd' : (Go.Proofs.Ytkdoilmfchlpdaa.A.rd_L1 l 0).length = n := hwd
    simp only [q_rdU, if_true, if_pos (show (0 : Int) < (l.length : Int) by omega), mt_len, hwd', decide_eq_false (show ¬ (l.length : Int) < (n : Int) by omega)]
    refine Ev.step (fun r => culletlaw11_GenerSquare.j1.eq_2 _ _ _ _ r) ?_
    simp only [Bool.false_eq_true, if_false]
    have hi := inv8_is hd
    have fin := rows n1 n2 (show l.length ≤ 40 by omega) (A := A) (S := LA.mm n A (inv8 n A)) (fun s c hs hc => hi.2 s c hs hc) (fun s c _ hc => by
      show LA.mm n (LA.mm n A (inv8 n A)) A s c = _
      rw [congrFun (congrFun (LA.mm_assoc n n A (inv8 n A) A) s) c]
      have : LA.mm n A (LA.mm n (inv8 n A) A) s c = LA.mm n A LA.one s c := LA.sm_congr (fun q hq => by rw [hi.1 q c hq hc])
      rw [this, LA.mm_one _ s hc])
    rw [← hA] at fin
    exact fin
end Go.Proofs.Ytkdoilmfchlpdaa.Pure
