/- The document's convolution is the convolution. -/
import Derived.Test.YtklkcenffajfeaaRefWalsh
import Derived.Test.YtklkcenffajfeaaH9
import Derived.Test.YtklkcenffajfeaaQx2

namespace Go.Proofs.Ytklkcenffajfeaa.R
open Go.RowKit Go.Proofs.YtklkcenffajfeaaW.PrintWords Go.Proofs.YtklkcenffajfeaaW.PrintLast Go.Proofs.YtklkcenffajfeaaW.PrintMore Go.Proofs.Ytklkcenffajfeaa.A Go.Proofs.Ytklkcenffajfeaa.F Go.Proofs.Ytklkcenffajfeaa.G Go.Proofs.Ytklkcenffajfeaa.A Go.Proofs.Ytklkcenffajfeaa.Q Go.Proofs.Ytklkcenffajfeaa.RI WH
set_option linter.unusedVariables false
set_option linter.unusedSimpArgs false
/-- The sums as far as row i and its first j places. -/
def cvTo (F G : Nat → Int) (i j : Nat) : Nat → Int := fun k => md (si i (fun t => F t * G (k ^^^ t)) + if k ^^^ i < j then F i * G (k ^^^ i) else 0)
theorem okW_lst {n : Nat} {F : Nat → Int} (h : ∀ i, i < n → 0 ≤ F i ∧ F i < 65535) : okW (lst n F) = true := by
  rw [okW_iff]
  intro j hj
  rw [lst_len] at hj
  rw [lst_getD hj]
  have := h j hj
  omega
theorem xor_cancel3 (a b : Nat) : a ^^^ b ^^^ b = a := by rw [Nat.xor_assoc, Nat.xor_self, Nat.xor_zero]
theorem RefConvolve {a b : List Int} (ha : okW a = true) (hb : okW b = true) (hl : a.length < 2 ^ 62) : Ev (fun k => culletref15_Convolve.f k a b) (if pwB a.length = true ∧ pwB b.length = true then (if a.length = b.length then (lst a.length (fun i => md (cv (Nat.log2 a.length) (vl a) (vl b) i)), (0 : Int)) else ([], 6)) else ([], 130)) := by
  unfold culletref15_Convolve.f
  simp only [RefGood, Option.bind_some]
  by_cases hp : pwB a.length = true ∧ pwB b.length = true
  rotate_left
  · rw [if_neg hp]
    have fin : Ev (fun k => culletref15_Convolve.j0 k a b true) (([] : List Int), (130 : Int)) := by
      refine Ev.step (fun k => culletref15_Convolve.j0.eq_2 _ _ _ k) ?_
      simp only [if_true]
      exact Ev.now _
    by_cases h1 : pwB a.length = true
    · have h2 : pwB b.length = false := by
        cases h : pwB b.length with
        | true => exact absurd ⟨h1, h⟩ hp
        | false => rfl
      simp only [h1, h2, if_true, Bool.not_false]
      exact fin
    · simp only [if_neg h1]
      exact fin
  rw [if_pos hp]
  obtain ⟨hpa, hpb⟩ := hp
  simp only [hpa, hpb, if_true, Bool.not_true]
  refine Ev.step (fun k => culletref15_Convolve.j0.eq_2 _ _ _ k) ?_
  simp only [Bool.false_eq_true, if_false]
  by_cases he : a.length = b.length
  rotate_left
  · rw [if_neg he]
    simp only [if_neg (show ¬ (a.length : Int) = (b.length : Int) by omega)]
    exact Ev.now _
  rw [if_pos he]
  simp only [if_pos (show (a.length : Int) = (b.length : Int) by omega)]
  obtain ⟨hn, hmax⟩ := pw_log hpa
  obtain ⟨n, hnn⟩ : ∃ n, n = a.length := ⟨_, rfl⟩
  obtain ⟨r, hr⟩ : ∃ r, r = Nat.log2 a.length := ⟨_, rfl⟩
  have hr2 : r = Nat.log2 n := by rw [hnn, hr]
  have va := okW_iff.1 ha
  have vb := okW_iff.1 hb
  by_cases hbg : (a.length : Int) > 256
  · simp only [if_pos hbg]
    have hoa : culletref15_Ordered.f a = some (lst a.length (fun i => md (tr r (vl a) i))) := by unfold culletref15_Ordered.f; rw [if_pos hpa, ← hr]
    have hob : culletref15_Ordered.f b = some (lst a.length (fun i => md (tr r (vl b) i))) := by unfold culletref15_Ordered.f; rw [if_pos hpb, ← he, ← hr]
    refine Ev.bind (RefInts hmax ha) ?_
    simp only [hoa, Option.bind_some]
    refine Ev.bind (RefInts (by omega) hb) ?_
    simp only [hob, Option.bind_some, lst_len]
    rw [← hr, ← hnn]
    rw [← hnn] at hmax hpa
    obtain ⟨f, hf⟩ : ∃ f : Nat → Int, f = fun i => md (tr r (vl a) i) := ⟨_, rfl⟩
    obtain ⟨g, hg⟩ : ∃ g : Nat → Int, g = fun i => md (tr r (vl b) i) := ⟨_, rfl⟩
    rw [← hf, ← hg]
    have fb : ∀ i, 0 ≤ f i ∧ f i < 65535 := fun i => by rw [hf]; exact ⟨md_ge _, md_lt _⟩
    have gb : ∀ i, 0 ≤ g i ∧ g i < 65535 := fun i => by rw [hg]; exact ⟨md_ge _, md_lt _⟩
    have e0 : lst n f = lst n (fun j => if j < 0 then md (f j * g j) else f j) := lst_congr (fun j _ => by rw [if_neg (by omega)])
    rw [e0]
    refine ev_up (L := fun k i => culletref15_Convolve.l0 k (lst n (fun j => if j < i then md (f j * g j) else f j)) (lst n g) (n : Int) ((i : Nat) : Int)) (n := n) ?_ ?_ 0 (Nat.zero_le _)
    · refine Ev.step (fun k => culletref15_Convolve.l0.eq_2 _ _ _ _ k) ?_
      simp only [if_neg (show ¬ ((n : Nat) : Int) < (n : Int) by omega)]
      refine Ev.bind (RefWords hmax _) ?_
      have e1 : lst n (fun i => md (if i < n then md (f i * g i) else f i)) = lst n (fun i => md (f i * g i)) := lst_congr (fun j hj => by rw [if_pos hj, md_md])
      rw [e1]
      have hI : culletref15_Inverse.f (lst n (fun i => md (f i * g i))) = some (lst n (fun i => md (cv r (vl a) (vl b) i)), 0) := by
        unfold culletref15_Inverse.f walsh_Inverse.f
        rw [lst_len, if_pos (by omega), if_pos (okW_lst (fun i _ => ⟨md_ge _, md_lt _⟩)), if_pos hpa]
        congr 2
        refine lst_congr (fun i hi => ?_)
        rw [hr2] at hf hg ⊢
        have := conv_md hpa (vl a) (vl b) hi
        rw [← this]
        rw [← md_mul_left, ← md_mul_left (2 ^ (16 - Nat.log2 n)) (tr (Nat.log2 n) (fun j => md (tr (Nat.log2 n) (vl a) j) * md (tr (Nat.log2 n) (vl b) j)) i)]
        congr 2
        have hn2 : n = 2 ^ Nat.log2 n := (pw_log hpa).1
        refine md_tr (fun j hj => ?_) i
        show md ((lst n fun i => md (f i * g i)).getD j 0) = _
        rw [lst_getD (by omega), md_md, hf, hg]
      simp only [hI, Option.bind_some]
      exact Ev.now _
    · intro i hi nx
      refine Ev.step (fun k => culletref15_Convolve.l0.eq_2 _ _ _ _ k) ?_
      have b1 := fb i
      have b2 := gb i
      have p0 : 0 ≤ f i * g i := Int.mul_nonneg b1.1 b2.1
      have p1 : f i * g i ≤ 65535 * 65535 := Int.mul_le_mul (by omega) (by omega) b2.1 (by omega)
      simp only [if_pos (show ((i : Nat) : Int) < (n : Int) by omega), if_pos (show (0 : Int) ≤ (i : Int) by omega), lst_len, rd_nat, lst_getD hi, Nat.lt_irrefl, if_false, w64 (n := f i * g i) (by omega) (by omega), RefMod, Option.bind_some, Int.toNat_natCast, lst_set, wr_up (n := i) (by omega)]
      have e1 : lst n (fun x => if x = i then md (f i * g i) else if x < i then md (f x * g x) else f x) = lst n (fun j => if j < i + 1 then md (f j * g j) else f j) := lst_congr (fun j hj => by
        by_cases e : j = i
        · subst e; rw [if_pos rfl, if_pos (by omega)]
        · rw [if_neg e]
          have : j < i ↔ j < i + 1 := by omega
          simp only [this])
      rw [e1]
      exact nx
  · simp only [if_neg hbg, if_pos (show (0 : Int) ≤ (a.length : Int) by omega), Int.toNat_natCast, if_pos (show a.length ≤ 35184372088832 by omega)]
    rw [← hr]
    have hnr : a.length = 2 ^ r := by rw [hr]; exact hn
    have e0 : List.replicate a.length (0 : Int) = lst a.length (cvTo (vl a) (vl b) 0 0) := by
      rw [lst_zero a.length (fun _ => 0)]
      exact lst_congr (fun j _ => by rw [if_neg (by omega)]; unfold cvTo; rw [if_neg (by omega)]; rfl)
    rw [e0]
    have hrow : ∀ i, i < a.length → lst a.length (cvTo (vl a) (vl b) i a.length) = lst a.length (cvTo (vl a) (vl b) (i + 1) 0) := fun i hi => lst_congr (fun k hk => by
      unfold cvTo
      have hx : k ^^^ i < a.length := by rw [hnr] at hk hi ⊢; exact Nat.xor_lt_two_pow hk hi
      rw [if_pos hx, if_neg (by omega), si, Int.add_zero])
    refine ev_up (L := fun k i => culletref15_Convolve.l1 k b (lst a.length (cvTo (vl a) (vl b) i 0)) a (a.length : Int) ((i : Nat) : Int)) (n := a.length) ?_ ?_ 0 (Nat.zero_le _)
    · refine Ev.step (fun k => culletref15_Convolve.l1.eq_2 _ _ _ _ _ k) ?_
      simp only [if_neg (show ¬ ((a.length : Nat) : Int) < (a.length : Int) by omega)]
      refine Ev.bind (RefWords hmax _) ?_
      have e1 : lst a.length (fun i => md (cvTo (vl a) (vl b) a.length 0 i)) = lst a.length (fun i => md (cv r (vl a) (vl b) i)) := lst_congr (fun k hk => by
        unfold cvTo
        rw [if_neg (by omega), md_md, Int.add_zero]
        unfold cv
        rw [hnr])
      rw [e1]
      exact Ev.now _
    · intro i hi nx
      refine Ev.step (fun k => culletref15_Convolve.l1.eq_2 _ _ _ _ _ k) ?_
      simp only [if_pos (show ((i : Nat) : Int) < (a.length : Int) by omega), if_pos (show (0 : Int) ≤ (i : Int) by omega), rd_nat]
      refine ev_up (L := fun k j => culletref15_Convolve.l2 k b (lst a.length (cvTo (vl a) (vl b) i j)) ((i : Nat) : Int) (a.getD i 0) a (a.length : Int) ((i : Nat) : Int) b (b.length : Int) ((j : Nat) : Int)) (n := b.length) ?_ ?_ 0 (Nat.zero_le _)
      · refine Ev.step (fun k => culletref15_Convolve.l2.eq_2 _ _ _ _ _ _ _ _ _ _ k) ?_
        simp only [if_neg (show ¬ ((b.length : Nat) : Int) < (b.length : Int) by omega), wr_up (n := i) (by omega)]
        rw [← he, hrow i hi]
        exact nx
      · intro j hj nx2
        refine Ev.step (fun k => culletref15_Convolve.l2.eq_2 _ _ _ _ _ _ _ _ _ _ k) ?_
        have hx : i ^^^ j < a.length := by rw [hnr] at hi ⊢; exact Nat.xor_lt_two_pow hi (by omega)
        obtain ⟨a0, a1⟩ := va i hi
        obtain ⟨b0, b1⟩ := vb j hj
        have p0 : 0 ≤ a.getD i 0 * b.getD j 0 := Int.mul_nonneg a0 b0
        have p1 : a.getD i 0 * b.getD j 0 ≤ 65535 * 65535 := Int.mul_le_mul a1 b1 b0 (by omega)
        have c0 : 0 ≤ cvTo (vl a) (vl b) i j (i ^^^ j) := md_ge _
        have c1 : cvTo (vl a) (vl b) i j (i ^^^ j) < 65535 := md_lt _
        have t0 : Int.tmod (a.getD i 0 * b.getD j 0) 65535 = md (a.getD i 0 * b.getD j 0) := Int.tmod_eq_emod_of_nonneg p0
        have m0 := md_ge (a.getD i 0 * b.getD j 0)
        have m1 := md_lt (a.getD i 0 * b.getD j 0)
        simp only [if_pos (show ((j : Nat) : Int) < (b.length : Int) by omega), if_pos (show (0 : Int) ≤ (j : Int) by omega), rd_nat, bits_xori (a := i) (b := j) (by omega) (by omega), if_pos (show (0 : Int) ≤ ((i ^^^ j : Nat) : Int) by omega), lst_len, if_pos (show ((i ^^^ j : Nat) : Int) < (a.length : Int) by omega), lst_getD hx, w64 (n := a.getD i 0) (by omega) (by omega), w64 (n := b.getD j 0) (by omega) (by omega), w64 (n := a.getD i 0 * b.getD j 0) (by omega) (by omega), t0, w64 (n := cvTo (vl a) (vl b) i j (i ^^^ j) + md (a.getD i 0 * b.getD j 0)) (by omega) (by omega), RefMod, Option.bind_some, Int.toNat_natCast, lst_set, wr_up (n := j) (by omega)]
        have e1 : lst a.length (fun x => if x = i ^^^ j then md (cvTo (vl a) (vl b) i j (i ^^^ j) + md (a.getD i 0 * b.getD j 0)) else cvTo (vl a) (vl b) i j x) = lst a.length (cvTo (vl a) (vl b) i (j + 1)) := lst_congr (fun k hk => by
          by_cases e : k = i ^^^ j
          · rw [if_pos e]
            have ej : i ^^^ j ^^^ i = j := by rw [Nat.xor_comm i j, xor_cancel3]
            unfold cvTo
            rw [e, ej, if_neg (Nat.lt_irrefl j), if_pos (by omega), Int.add_zero, md_add]
          · rw [if_neg e]
            have : k ^^^ i ≠ j := fun h => e (by rw [← h, Nat.xor_comm k i, ← Nat.xor_assoc, Nat.xor_self, Nat.zero_xor])
            unfold cvTo
            have h2 : k ^^^ i < j ↔ k ^^^ i < j + 1 := by omega
            simp only [h2])
        rw [e1]
        exact nx2
end Go.Proofs.Ytklkcenffajfeaa.R
