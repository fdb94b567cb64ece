/-
WalshProducts: transforms of sums and multiples, Convolve's transform is the product of the transforms, Convolve's lists may be changed about, a mark moves the list.
-/
import Derived.Test.YtklkcenffajfeaaWalshFns
import Derived.Test.YtklkcenffajfeaaQx3
namespace Go.Proofs.Ytklkcenffajfeaa.Pure
open Go.RowKit Go.Proofs.Ytklkcenffajfeaa.A Go.Proofs.Ytklkcenffajfeaa.Q Go.Proofs.YtklkcenffajfeaaW.PrintWords Go.Proofs.YtklkcenffajfeaaW.PrintLast Go.Proofs.YtklkcenffajfeaaW.PrintMore Go.Proofs.Ytklkcenffajfeaa.R WH
set_option linter.unusedVariables false
set_option linter.unusedSimpArgs false
theorem mask16 (x : Int) : ∃ i : Nat, Go.bits .and .i64 x 65535 = (i : Int) ∧ i < 65536 := by
  have hlt : ((BitVec.ofInt 64 x) &&& (BitVec.ofInt 64 ((2 ^ 16 - 1 : Nat) : Int))).toNat < 2 ^ 16 := by
    rw [BitVec.toNat_and, BitVec.ofInt_natCast, BitVec.toNat_ofNat, Nat.mod_eq_of_lt (by omega), Nat.and_two_pow_sub_one_eq_mod]
    exact Nat.mod_lt _ (by decide)
  refine ⟨((BitVec.ofInt 64 x) &&& (BitVec.ofInt 64 ((2 ^ 16 - 1 : Nat) : Int))).toNat, ?_, hlt⟩
  unfold Go.bits
  exact i64_id (Nat.lt_of_lt_of_le hlt (by decide))
theorem okW_md {n : Nat} (F : Nat → Int) : okW (lst n (fun i => md (F i))) = true := by
  rw [okW_iff]
  intro j hj
  rw [lst_len] at hj
  rw [lst_getD hj]
  have h1 := md_ge (F j)
  have h2 := md_lt (F j)
  exact ⟨h1, by omega⟩
theorem okW_wf {l0 : List Int} (hw : ∀ x ∈ l0, (Lit.int .u16 x).wf = true) : okW l0 = true := by
  rw [okW_iff]
  intro j hj
  have hm : l0.getD j 0 ∈ l0 := by
    rw [List.getD_eq_getElem?_getD, List.getElem?_eq_getElem hj]
    exact List.getElem_mem hj
  have := hw _ hm
  simp only [Lit.wf, IntKind.min, IntKind.max, IntKind.signed, IntKind.bits, Bool.and_eq_true, decide_eq_true_eq, Bool.false_eq_true, if_false] at this
  omega
/-- The list with a 1 at m and 0 elsewhere. -/
def mark (m j : Nat) : Int := if j = m then 1 else 0
theorem mark_set (n m : Nat) : (List.replicate n (0 : Int)).set m 1 = lst n (mark m) := by
  rw [show List.replicate n (0 : Int) = lst n (fun _ => 0) from by
    apply List.ext_getElem
    · rw [lst_len]; simp
    · intro i h1 h2; simp [lst], lst_set]
  rfl
theorem mark_md (m j : Nat) : md (mark m j) = mark m j := by unfold mark; split <;> rfl
theorem okW_mark (n m : Nat) : okW (lst n (mark m)) = true := by
  rw [lst_congr (G := fun i => md (mark m i)) (fun j _ => (mark_md m j).symm)]
  exact okW_md _
theorem tr_mark {r m : Nat} (hm : m < 2 ^ r) (i : Nat) : tr r (mark m) i = sgn r i m := by
  unfold tr
  rw [si_one hm (fun j _ h => by unfold mark; rw [if_neg h, Int.mul_zero])]
  unfold mark
  rw [if_pos rfl, Int.mul_one]
theorem cv_mark {r m i : Nat} (hm : m < 2 ^ r) (hi : i < 2 ^ r) (a : Nat → Int) : cv r a (mark m) i = a (i ^^^ m) := by
  rw [cv_comm r a (mark m) hi]
  unfold cv
  rw [si_one hm (fun j _ h => by unfold mark; rw [if_neg h, Int.zero_mul])]
  unfold mark
  rw [if_pos rfl, Int.one_mul]
theorem tr_vl {n r : Nat} (hn : n = 2 ^ r) (F : Nat → Int) (i : Nat) : tr r (vl (lst n F)) i = tr r F i := tr_congr (fun j hj => lst_getD (by omega) F 0) i
theorem T_yes {l : List Int} (hok : okW l = true) (hp : pwB l.length = true) : walsh_Transform.f l = some (lst l.length (fun i => md (tr (Nat.log2 l.length) (vl l) i)), 0) := by
  unfold walsh_Transform.f; rw [if_pos hok, if_pos hp]
theorem T_lst {n : Nat} {F : Nat → Int} (hok : okW (lst n F) = true) (hp : pwB n = true) : walsh_Transform.f (lst n F) = some (lst n (fun i => md (tr (Nat.log2 n) F i)), 0) := by
  have h := T_yes hok (by rw [lst_len]; exact hp)
  rw [lst_len] at h
  rw [h]
  congr 2
  exact lst_congr (fun i _ => by rw [tr_vl (pw_log hp).1])
theorem tr_at0 (r : Nat) (f : Nat → Int) : tr r f 0 = si (2 ^ r) f := by
  unfold tr
  exact si_congr (fun j _ => by rw [sgn_zero', Int.one_mul])
theorem summed_ev {a b : List Int} (ha : okW a = true) (hb : okW b = true) (hl : a.length = b.length) (hp : pwB a.length = true) (n : Int) : Ev (fun k => culletlaw15_summed.f k a b n) true := by
  obtain ⟨hn, hmax⟩ := pw_log hp
  obtain ⟨m, hm, hm2⟩ := mask16 n
  have h0 : 0 < a.length := by rw [hn]; exact Nat.two_pow_pos _
  unfold culletlaw15_summed.f
  simp only [if_pos (show (0 : Int) ≤ (a.length : Int) by omega), Int.toNat_natCast, if_pos (show a.length ≤ 140737488355328 by omega), Option.bind_some, hm, List.length_replicate]
  have va := okW_iff.1 ha
  have vb := okW_iff.1 hb
  obtain ⟨c, hc⟩ : ∃ c : Nat → Int, (fun j => md (vl a j + (m : Int) * vl b j)) = c := ⟨_, rfl⟩
  have hcd : ∀ j, c j = md (vl a j + (m : Int) * vl b j) := fun j => by rw [← hc]
  clear hc
  suffices hg : ∀ d i : Nat, a.length - i ≤ d → i ≤ a.length → Ev (fun k => culletlaw15_summed.l0 k a b (m : Int) (lst a.length (fun j => if j < i then c j else 0)) (md (si i c)) (a.length : Int) (i : Int)) true by
    have := hg a.length 0 (by omega) (by omega)
    have e : lst a.length (fun j => if j < 0 then c j else 0) = List.replicate a.length 0 := by
      apply List.ext_getElem
      · rw [lst_len]; simp
      · intro i h1 h2; simp [lst]
    rw [e] at this
    exact this
  have fin : ∀ i : Nat, ¬ i < a.length → i ≤ a.length → Ev (fun k => culletlaw15_summed.l0 k a b (m : Int) (lst a.length (fun j => if j < i then c j else 0)) (md (si i c)) (a.length : Int) (i : Int)) true := by
    intro i hi h2
    have ei : i = a.length := by omega
    have e : lst a.length (fun j => if j < i then c j else 0) = lst a.length c := lst_congr (fun j hj => by rw [if_pos (by omega)])
    rw [e, ei]
    have okc : okW (lst a.length c) = true := by
      rw [lst_congr (G := fun i => md (vl a i + (m : Int) * vl b i)) (fun j _ => hcd j)]; exact okW_md _
    have hmm : Int.tmod (m : Int) (a.length : Int) = ((m % a.length : Nat) : Int) := by rw [Int.tmod_eq_emod_of_nonneg (by omega)]; rfl
    have hlt : m % a.length < a.length := Nat.mod_lt _ h0
    refine Ev.step (fun k => culletlaw15_summed.l0.eq_2 _ _ _ _ _ _ _ k) ?_
    simp only [if_neg (Int.lt_irrefl _)]
    refine Ev.bind (Copied15 a (by omega)) ?_
    simp only [T_yes ha hp, Option.bind_some]
    refine Ev.bind (Copied15 b (by omega)) ?_
    simp only [T_yes hb (by rw [← hl]; exact hp), T_lst okc hp, Option.bind_some, if_pos (show (0 : Int) ≤ (a.length : Int) by omega), Int.toNat_natCast, if_pos (show a.length ≤ 140737488355328 by omega), if_neg (show ¬ (a.length : Int) = 0 by omega), hmm, List.length_replicate, if_pos (show (0 : Int) ≤ ((m % a.length : Nat) : Int) by omega), if_pos (show ((m % a.length : Nat) : Int) < (a.length : Int) by omega), mark_set, T_lst (okW_mark _ _) hp, if_true, lst_len, hl.symm, bne_self_eq_false]
    refine Ev.step (fun k => culletlaw15_summed.j1.eq_2 _ _ _ _ _ _ _ k) ?_
    simp only [Bool.false_eq_true, if_false, lst_len]
    rw [show ((0 : Int)) = ((0 : Nat) : Int) from rfl]
    suffices hg2 : ∀ d i : Nat, a.length - i ≤ d → i ≤ a.length → Ev (fun k => culletlaw15_summed.l1 k (m : Int) (md (si a.length c)) (lst a.length (fun i => md (tr (Nat.log2 a.length) (vl a) i))) (lst a.length (fun i => md (tr (Nat.log2 a.length) (vl b) i))) (lst a.length (fun i => md (tr (Nat.log2 a.length) c i))) (lst a.length (fun i => md (tr (Nat.log2 a.length) (mark (m % a.length)) i))) (a.length : Int) (i : Int)) true from hg2 a.length 0 (by omega) (by omega)
    have fin2 : ∀ i : Nat, ¬ i < a.length → i ≤ a.length → Ev (fun k => culletlaw15_summed.l1 k (m : Int) (md (si a.length c)) (lst a.length (fun i => md (tr (Nat.log2 a.length) (vl a) i))) (lst a.length (fun i => md (tr (Nat.log2 a.length) (vl b) i))) (lst a.length (fun i => md (tr (Nat.log2 a.length) c i))) (lst a.length (fun i => md (tr (Nat.log2 a.length) (mark (m % a.length)) i))) (a.length : Int) (i : Int)) true := by
      intro i hi h2
      refine Ev.step (fun k => culletlaw15_summed.l1.eq_2 _ _ _ _ _ _ _ _ k) ?_
      simp only [if_neg (show ¬ ((i : Nat) : Int) < (a.length : Int) by omega), lst_len, if_pos (show (0 : Int) < (a.length : Int) by omega)]
      rw [show ∀ l : List Int, rd l 0 = l.getD 0 0 from fun l => rfl, show ∀ l : List Int, rd l 0 = l.getD 0 0 from fun l => rfl, lst_getD h0, lst_getD h0, tr_mark (by rw [← hn]; exact hlt), sgn_zero', tr_at0, ← hn]
      have h1 := md_ge (si a.length c)
      have h2 := md_lt (si a.length c)
      rw [wrap64_id (by omega) (by omega), if_pos rfl]
      exact Ev.now _
    intro d
    induction d with
    | zero => intro i h1 h2; exact fin2 i (by omega) h2
    | succ d ih =>
      intro i h1 h2
      by_cases hlt2 : i < a.length
      · refine Ev.step (fun k => culletlaw15_summed.l1.eq_2 _ _ _ _ _ _ _ _ k) ?_
        simp only [if_pos (show ((i : Nat) : Int) < (a.length : Int) by omega), if_pos (show (0 : Int) ≤ (i : Int) by omega), lst_len, rd_at, lst_getD hlt2, wr64' (n := i) (by omega)]
        have p1 := md_ge (tr (Nat.log2 a.length) (vl a) i)
        have p2 := md_lt (tr (Nat.log2 a.length) (vl a) i)
        have p3 := md_ge (tr (Nat.log2 a.length) (vl b) i)
        have p4 := md_lt (tr (Nat.log2 a.length) (vl b) i)
        have p5 : 0 ≤ (m : Int) * md (tr (Nat.log2 a.length) (vl b) i) := Int.mul_nonneg (by omega) p3
        have p6 : (m : Int) * md (tr (Nat.log2 a.length) (vl b) i) ≤ 65535 * 65535 := Int.mul_le_mul (by omega) (by omega) p3 (by omega)
        rw [wrap64_id (n := md (tr (Nat.log2 a.length) (vl a) i)) (by omega) (by omega), wrap64_id (n := md (tr (Nat.log2 a.length) (vl b) i)) (by omega) (by omega), wrap64_id (n := (m : Int) * md (tr (Nat.log2 a.length) (vl b) i)) (by omega) (by omega), wrap64_id (by omega) (by omega)]
        simp only [Brought15, Option.bind_some]
        have e1 : md (tr (Nat.log2 a.length) c i) = md (md (tr (Nat.log2 a.length) (vl a) i) + (m : Int) * md (tr (Nat.log2 a.length) (vl b) i)) := by
          rw [md_tr (g := fun j => vl a j + (m : Int) * vl b j) (fun j _ => by rw [hcd, md_md]), tr_add, tr_mul]
          have r : md (md (tr (Nat.log2 a.length) (vl a) i) + (m : Int) * md (tr (Nat.log2 a.length) (vl b) i)) = md (md (tr (Nat.log2 a.length) (vl a) i) + md ((m : Int) * tr (Nat.log2 a.length) (vl b) i)) := by
            rw [← md_add (md (tr (Nat.log2 a.length) (vl a) i)) ((m : Int) * md (tr (Nat.log2 a.length) (vl b) i)), md_md, md_mul_left]
          rw [r, md_add]
        simp only [if_pos e1, tr_mark (r := Nat.log2 a.length) (m := m % a.length) (by rw [← hn]; exact hlt)]
        have nx := ih (i + 1) (by omega) (by omega)
        simp only [tr_mark (r := Nat.log2 a.length) (m := m % a.length) (by rw [← hn]; exact hlt)] at nx
        rcases sgn_pm (Nat.log2 a.length) i (m % a.length) with hs | hs
        · simp only [hs, if_pos (show md 1 = 1 from rfl)]
          exact nx
        · simp only [hs, if_neg (show ¬ md (-1) = 1 by decide), if_pos (show md (-1) = 65534 by decide)]
          exact nx
      · exact fin2 i hlt2 h2
  intro d
  induction d with
  | zero => intro i h1 h2; exact fin i (by omega) h2
  | succ d ih =>
    intro i h1 h2
    by_cases hlt : i < a.length
    · refine Ev.step (fun k => culletlaw15_summed.l0.eq_2 _ _ _ _ _ _ _ k) ?_
      have p1 := va i hlt
      have p3 := vb i (by omega)
      have p5 : 0 ≤ (m : Int) * b.getD i 0 := Int.mul_nonneg (by omega) p3.1
      have p6 : (m : Int) * b.getD i 0 ≤ 65535 * 65535 := Int.mul_le_mul (by omega) p3.2 p3.1 (by omega)
      have p7 := md_ge (si i c)
      have p8 := md_lt (si i c)
      have p9 := md_ge (vl a i + (m : Int) * vl b i)
      have p10 := md_lt (vl a i + (m : Int) * vl b i)
      simp only [if_pos (show ((i : Nat) : Int) < (a.length : Int) by omega), if_pos (show (0 : Int) ≤ (i : Int) by omega), if_pos (show ((i : Nat) : Int) < (b.length : Int) by omega), lst_len, rd_at, wr64' (n := i) (by omega)]
      rw [wrap64_id (n := a.getD i 0) (by omega) (by omega), wrap64_id (n := b.getD i 0) (by omega) (by omega), wrap64_id (n := (m : Int) * b.getD i 0) (by omega) (by omega), wrap64_id (n := a.getD i 0 + (m : Int) * b.getD i 0) (by omega) (by omega)]
      simp only [Brought15, Option.bind_some, Int.toNat_natCast, lst_set]
      rw [show md (a.getD i 0 + (m : Int) * b.getD i 0) = c i from (hcd i).symm]
      rw [← hcd] at p9 p10
      rw [wrap64_id (n := c i) (by omega) (by omega), wrap64_id (by omega) (by omega), Int.tmod_eq_emod_of_nonneg (by omega)]
      have e2 : (md (si i c) + c i) % 65535 = md (si (i + 1) c) := by
        show md (md (si i c) + c i) = _
        rw [si, ← md_add (si i c), show md (c i) = c i from by unfold md; omega]
      have e : lst a.length (fun x => if x = i then c i else if x < i then c x else 0) = lst a.length (fun j => if j < i + 1 then c j else 0) := lst_congr (fun j hj => by
        by_cases e : j = i
        · subst e; rw [if_pos rfl, if_pos (by omega)]
        · rw [if_neg e]
          have : j < i ↔ j < i + 1 := by omega
          simp only [this])
      rw [e2, e]
      exact ih (i + 1) (by omega) (by omega)
    · exact fin i hlt h2
theorem cv_vl {n r : Nat} (hn : n = 2 ^ r) (F G : Nat → Int) {k : Nat} (hk : k < n) : cv r F (vl (lst n G)) k = cv r F G k := by
  unfold cv
  refine si_congr (fun i hi => ?_)
  show F i * (lst n G).getD (k ^^^ i) 0 = _
  rw [lst_getD (by rw [hn]; exact Nat.xor_lt_two_pow (by omega) hi)]
theorem place (n : Int) {L : Nat} (h0 : 0 < L) (h1 : L ≤ 65536) : ∃ m : Nat, Int.tmod (wrap64 (Int.tmod n (L : Int) + (L : Int))) (L : Int) = (m : Int) ∧ m < L := by
  have a1 : Int.tmod n (L : Int) < (L : Int) := Int.tmod_lt_of_pos n (by omega)
  have a2 : -(L : Int) < Int.tmod n (L : Int) := Int.lt_tmod_of_pos n (by omega)
  rw [wrap64_id (by omega) (by omega), Int.tmod_eq_emod_of_nonneg (by omega)]
  have b1 := Int.emod_nonneg (Int.tmod n (L : Int) + (L : Int)) (show (L : Int) ≠ 0 by omega)
  have b2 := Int.emod_lt_of_pos (Int.tmod n (L : Int) + (L : Int)) (show (0 : Int) < (L : Int) by omega)
  exact ⟨((Int.tmod n (L : Int) + (L : Int)) % (L : Int)).toNat, by omega, by omega⟩
theorem WalshProducts : culletlaw15_WalshProducts.Pure := by
  intro l0 l1 n hl hb hw hl' hb' hw' hwf
  apply Ev.rounds
  have hlen : l0.length ≤ 140737488355328 := by omega
  have hlen' : l1.length ≤ 140737488355328 := by omega
  have ha := okW_wf hw
  have hb1 := okW_wf hw'
  clear hw hw' hl hl' hb hb' hwf
  unfold culletlaw15_WalshProducts.f
  refine Ev.bind Fixed15 ?_
  simp only [if_true]
  refine Ev.bind (Copied15 l0 hlen) ?_
  refine Ev.bind (Copied15 l1 hlen') ?_
  by_cases hp : pwB l0.length = true ∧ pwB l1.length = true
  rotate_left
  · have hC : walsh_Convolve.f l0 l1 = some ([], 130) := by
      unfold walsh_Convolve.f; rw [if_pos ⟨ha, hb1⟩, if_neg hp]
    have hD : walsh_Convolve.f l1 l0 = some ([], 130) := by
      unfold walsh_Convolve.f; rw [if_pos ⟨hb1, ha⟩, if_neg (fun h => hp ⟨h.2, h.1⟩)]
    simp only [hC, Option.bind_some]
    refine Ev.bind (Copied15 l1 hlen') ?_
    refine Ev.bind (Copied15 l0 hlen) ?_
    simp only [hD, Option.bind_some, Power15]
    have fin : Ev (fun k => culletlaw15_WalshProducts.j0 k l0 l1 n [] 130 [] 130 true) true := by
      refine Ev.step (fun k => culletlaw15_WalshProducts.j0.eq_2 _ _ _ _ _ _ _ _ k) ?_
      simp only [if_true, List.length_nil]
      exact Ev.now _
    by_cases h1 : pwB l0.length = true
    · have h2 : pwB l1.length = false := by
        cases h : pwB l1.length with
        | true => exact absurd ⟨h1, h⟩ hp
        | false => rfl
      simp only [h1, h2, if_true, Bool.not_false]
      exact fin
    · simp only [if_neg h1]
      exact fin
  obtain ⟨hp0, hp1⟩ := hp
  by_cases he : l0.length = l1.length
  rotate_left
  · have hC : walsh_Convolve.f l0 l1 = some ([], 6) := by
      unfold walsh_Convolve.f; rw [if_pos ⟨ha, hb1⟩, if_pos ⟨hp0, hp1⟩, if_neg he]
    have hD : walsh_Convolve.f l1 l0 = some ([], 6) := by
      unfold walsh_Convolve.f; rw [if_pos ⟨hb1, ha⟩, if_pos ⟨hp1, hp0⟩, if_neg (fun e => he e.symm)]
    simp only [hC, Option.bind_some]
    refine Ev.bind (Copied15 l1 hlen') ?_
    refine Ev.bind (Copied15 l0 hlen) ?_
    simp only [hD, Option.bind_some, Power15, hp0, hp1, if_true, Bool.not_true]
    refine Ev.step (fun k => culletlaw15_WalshProducts.j0.eq_2 _ _ _ _ _ _ _ _ k) ?_
    simp only [if_true, List.length_nil, Bool.false_eq_true, if_false, if_neg (show ¬ (l0.length : Int) = (l1.length : Int) by omega)]
    exact Ev.now _
  obtain ⟨hn, hmax⟩ := pw_log hp0
  have h0 : 0 < l0.length := by rw [hn]; exact Nat.two_pow_pos _
  have hC : walsh_Convolve.f l0 l1 = some (lst l0.length (fun i => md (cv (Nat.log2 l0.length) (vl l0) (vl l1) i)), 0) := by
    unfold walsh_Convolve.f; rw [if_pos ⟨ha, hb1⟩, if_pos ⟨hp0, hp1⟩, if_pos he]
  have hD : walsh_Convolve.f l1 l0 = some (lst l0.length (fun i => md (cv (Nat.log2 l0.length) (vl l0) (vl l1) i)), 0) := by
    unfold walsh_Convolve.f; rw [if_pos ⟨hb1, ha⟩, if_pos ⟨hp1, hp0⟩, if_pos he.symm, ← he]
    congr 2
    exact lst_congr (fun i hi => by rw [cv_comm _ (vl l1) (vl l0) (by omega)])
  have hTa := T_yes ha hp0
  have hTb := T_yes hb1 hp1
  rw [← he] at hTb
  have hTc : walsh_Transform.f (lst l0.length (fun i => md (cv (Nat.log2 l0.length) (vl l0) (vl l1) i))) = some (lst l0.length (fun i => md (md (tr (Nat.log2 l0.length) (vl l0) i) * md (tr (Nat.log2 l0.length) (vl l1) i))), 0) := by
    rw [T_lst (okW_md _) hp0]
    congr 2
    refine lst_congr (fun i hi => ?_)
    rw [md_tr (g := cv (Nat.log2 l0.length) (vl l0) (vl l1)) (fun j _ => md_md _), tr_cv, md_mul]
  simp only [hC, Option.bind_some]
  refine Ev.bind (Copied15 l1 hlen') ?_
  refine Ev.bind (Copied15 l0 hlen) ?_
  simp only [hD, Option.bind_some, Power15, hp0, hp1, if_true, Bool.not_true]
  refine Ev.step (fun k => culletlaw15_WalshProducts.j0.eq_2 _ _ _ _ _ _ _ _ k) ?_
  simp only [Bool.false_eq_true, if_false, if_pos (show (l0.length : Int) = (l1.length : Int) by omega)]
  refine Ev.bind (Copied15 l0 hlen) ?_
  simp only [hTa, Option.bind_some]
  refine Ev.bind (Copied15 l1 hlen') ?_
  simp only [hTb, Option.bind_some]
  refine Ev.bind (summed_ev ha hb1 he hp0 n) ?_
  simp only [if_true, lst_len]
  refine Ev.bind (Same15_self (by rw [lst_len]; omega) rfl) ?_
  refine Ev.step (fun k => culletlaw15_WalshProducts.j1.eq_2 _ _ _ _ _ _ k) ?_
  simp only [Bool.not_true, Bool.false_eq_true, if_false, hTc, Option.bind_some, if_true, lst_len, bne_self_eq_false]
  refine Ev.step (fun k => culletlaw15_WalshProducts.j2.eq_2 _ _ _ _ _ _ k) ?_
  simp only [Bool.false_eq_true, if_false, lst_len]
  clear hC hD hTa hTb hTc
  rw [show ((0 : Int)) = ((0 : Nat) : Int) from rfl]
  suffices hg : ∀ d i : Nat, l0.length - i ≤ d → i ≤ l0.length → Ev (fun k => culletlaw15_WalshProducts.l0 k l0 n (lst l0.length (fun i => md (tr (Nat.log2 l0.length) (vl l0) i))) (lst l0.length (fun i => md (tr (Nat.log2 l0.length) (vl l1) i))) (lst l0.length (fun i => md (md (tr (Nat.log2 l0.length) (vl l0) i) * md (tr (Nat.log2 l0.length) (vl l1) i)))) (l0.length : Int) (i : Int)) true from hg l0.length 0 (by omega) (by omega)
  have fin : ∀ i : Nat, ¬ i < l0.length → i ≤ l0.length → Ev (fun k => culletlaw15_WalshProducts.l0 k l0 n (lst l0.length (fun i => md (tr (Nat.log2 l0.length) (vl l0) i))) (lst l0.length (fun i => md (tr (Nat.log2 l0.length) (vl l1) i))) (lst l0.length (fun i => md (md (tr (Nat.log2 l0.length) (vl l0) i) * md (tr (Nat.log2 l0.length) (vl l1) i)))) (l0.length : Int) (i : Int)) true := by
    intro i hi h2
    obtain ⟨m, hm, hmlt⟩ := place n h0 hmax
    refine Ev.step (fun k => culletlaw15_WalshProducts.l0.eq_2 _ _ _ _ _ _ _ k) ?_
    simp only [if_neg (show ¬ ((i : Nat) : Int) < (l0.length : Int) by omega), hm, if_neg (show ¬ (l0.length : Int) = 0 by omega), if_pos (show (0 : Int) ≤ (l0.length : Int) by omega), Int.toNat_natCast, if_pos hlen, Option.bind_some, if_pos (show (0 : Int) ≤ (m : Int) by omega), List.length_replicate, if_pos (show (m : Int) < (l0.length : Int) by omega), mark_set]
    refine Ev.bind (Copied15 l0 hlen) ?_
    have hCm : walsh_Convolve.f l0 (lst l0.length (mark m)) = some (lst l0.length (fun i => md (vl l0 (i ^^^ m))), 0) := by
      unfold walsh_Convolve.f
      rw [if_pos ⟨ha, okW_mark _ _⟩, lst_len, if_pos ⟨hp0, hp0⟩, if_pos rfl]
      congr 2
      refine lst_congr (fun i hi => ?_)
      rw [cv_vl hn _ _ hi, cv_mark (by rw [← hn]; exact hmlt) (by rw [← hn]; exact hi)]
    simp only [hCm, Option.bind_some, if_true, lst_len, bne_self_eq_false]
    refine Ev.step (fun k => culletlaw15_WalshProducts.j4.eq_2 _ _ _ _ k) ?_
    simp only [Bool.false_eq_true, if_false, lst_len]
    have fin2 : ∀ i : Nat, ¬ i < l0.length → i ≤ l0.length → Ev (fun k => culletlaw15_WalshProducts.l1 k l0 (m : Int) (lst l0.length (fun i => md (vl l0 (i ^^^ m)))) (l0.length : Int) (i : Int)) true := by
      intro i hi h2
      refine Ev.step (fun k => culletlaw15_WalshProducts.l1.eq_2 _ _ _ _ _ k) ?_
      simp only [if_neg (show ¬ ((i : Nat) : Int) < (l0.length : Int) by omega)]
      exact Ev.now _
    rw [show ((0 : Int)) = ((0 : Nat) : Int) from rfl]
    suffices hg2 : ∀ d i : Nat, l0.length - i ≤ d → i ≤ l0.length → Ev (fun k => culletlaw15_WalshProducts.l1 k l0 (m : Int) (lst l0.length (fun i => md (vl l0 (i ^^^ m)))) (l0.length : Int) (i : Int)) true from hg2 l0.length 0 (by omega) (by omega)
    intro d
    induction d with
    | zero => intro i h1 h2; exact fin2 i (by omega) h2
    | succ d ih =>
      intro i h1 h2
      by_cases hlt : i < l0.length
      · refine Ev.step (fun k => culletlaw15_WalshProducts.l1.eq_2 _ _ _ _ _ k) ?_
        have hx : i ^^^ m < l0.length := by rw [hn]; exact Nat.xor_lt_two_pow (by omega) (by omega)
        have hv := (okW_iff.1 ha) _ hx
        simp only [bits_xori (a := i) (b := m) (by omega) (by omega), if_pos (show ((i : Nat) : Int) < (l0.length : Int) by omega), if_pos (show (0 : Int) ≤ (i : Int) by omega), if_pos (show ((i ^^^ m : Nat) : Int) < (l0.length : Int) by omega), if_pos (show (0 : Int) ≤ ((i ^^^ m : Nat) : Int) by omega), lst_len, rd_at, lst_getD hlt, wr64' (n := i) (by omega)]
        rw [wrap64_id (by omega) (by omega)]
        simp only [Brought15, Option.bind_some, if_true]
        exact ih (i + 1) (by omega) (by omega)
      · exact fin2 i hlt h2
  intro d
  induction d with
  | zero => intro i h1 h2; exact fin i (by omega) h2
  | succ d ih =>
    intro i h1 h2
    by_cases hlt : i < l0.length
    · refine Ev.step (fun k => culletlaw15_WalshProducts.l0.eq_2 _ _ _ _ _ _ _ k) ?_
      simp only [if_pos (show ((i : Nat) : Int) < (l0.length : Int) by omega), if_pos (show (0 : Int) ≤ (i : Int) by omega), lst_len, rd_at, lst_getD hlt, wr64' (n := i) (by omega)]
      have p1 := md_ge (tr (Nat.log2 l0.length) (vl l0) i)
      have p2 := md_lt (tr (Nat.log2 l0.length) (vl l0) i)
      have p3 := md_ge (tr (Nat.log2 l0.length) (vl l1) i)
      have p4 := md_lt (tr (Nat.log2 l0.length) (vl l1) i)
      have p5 : 0 ≤ md (tr (Nat.log2 l0.length) (vl l0) i) * md (tr (Nat.log2 l0.length) (vl l1) i) := Int.mul_nonneg p1 p3
      have p6 : md (tr (Nat.log2 l0.length) (vl l0) i) * md (tr (Nat.log2 l0.length) (vl l1) i) ≤ 65535 * 65535 := Int.mul_le_mul (by omega) (by omega) p3 (by omega)
      rw [wrap64_id (n := md (tr (Nat.log2 l0.length) (vl l0) i)) (by omega) (by omega), wrap64_id (n := md (tr (Nat.log2 l0.length) (vl l1) i)) (by omega) (by omega), wrap64_id (by omega) (by omega)]
      simp only [Brought15, Option.bind_some, if_true]
      exact ih (i + 1) (by omega) (by omega)
    · exact fin i hlt h2
end Go.Proofs.Ytklkcenffajfeaa.Pure
