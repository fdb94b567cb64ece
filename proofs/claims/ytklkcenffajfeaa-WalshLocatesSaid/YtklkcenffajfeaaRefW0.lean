/- The document's transform is the transform. -/
import Derived.Test.YtklkcenffajfeaaWalshLoc
import Derived.Test.YtklkcenffajfeaaRowsI
import Derived.Test.YtklkcenffajfeaaFx1

namespace Go.Proofs.Ytklkcenffajfeaa.R
open Go.RowKit Go.Proofs.YtklkcenffajfeaaW.PrintWords Go.Proofs.YtklkcenffajfeaaW.PrintLast Go.Proofs.YtklkcenffajfeaaW.PrintMore Go.Proofs.Ytklkcenffajfeaa.A Go.Proofs.Ytklkcenffajfeaa.F Go.Proofs.Ytklkcenffajfeaa.RI WH
set_option linter.unusedVariables false
set_option linter.unusedSimpArgs false
theorem RefGood (n : Nat) : culletref15_Good.f (n : Int) = some (pwB n) := good_is n
theorem RefMod (n : Int) : culletref15_mod.f n = some (md n) := by
  unfold culletref15_mod.f md
  have h1 : -65535 < Int.tmod n 65535 ∧ Int.tmod n 65535 < 65535 := res_bound n
  have h2 : Int.tmod n 65535 = if 0 ≤ n ∨ n % 65535 = 0 then n % 65535 else n % 65535 - 65535 := by
    rw [Int.tmod_eq_emod]
    by_cases h : 0 ≤ n
    · simp [h]
    · by_cases h0 : n % 65535 = 0
      · have : (65535 : Int) ∣ n := Int.dvd_of_emod_eq_zero h0
        simp [h0, this]
      · have : ¬ (65535 : Int) ∣ n := fun hd => h0 (Int.emod_eq_zero_of_dvd hd)
        simp [h, h0, this]
  by_cases h : Int.tmod n 65535 < 0
  · rw [if_pos h, w64 (by omega) (by omega)]
    congr 1
    split at h2 <;> omega
  · rw [if_neg h]
    congr 1
    split at h2 <;> omega
theorem u16_md (x : Int) : IntKind.u16.wrap (md x) = md x := by
  have h1 := md_ge x
  have h2 := md_lt x
  have : IntKind.u16.wrap (md x) = md x % 65536 := by simp [IntKind.wrap, IntKind.bits, IntKind.signed]
  rw [this]; omega
theorem lst_zero (n : Nat) (F : Nat → Int) : List.replicate n (0 : Int) = lst n (fun j => if j < 0 then F j else 0) := by
  apply List.ext_getElem
  · rw [lst_len]; simp
  · intro i h1 h2; simp [lst]
theorem lst_step {n i : Nat} (F : Nat → Int) {v : Int} (hv : v = F i) : (lst n (fun j => if j < i then F j else 0)).set i v = lst n (fun j => if j < i + 1 then F j else 0) := by
  rw [lst_set]
  exact lst_congr (fun j hj => by
    by_cases e : j = i
    · subst e; rw [if_pos rfl, if_pos (by omega), hv]
    · rw [if_neg e]
      have : j < i ↔ j < i + 1 := by omega
      simp only [this])
theorem lst_done (n : Nat) (F : Nat → Int) : lst n (fun j => if j < n then F j else 0) = lst n F := lst_congr (fun j hj => by rw [if_pos hj])
theorem RefWords {n : Nat} (hn : n ≤ 65536) (F : Nat → Int) : Ev (fun k => culletref15_words.f k (lst n F)) (lst n (fun i => md (F i))) := by
  unfold culletref15_words.f
  simp only [lst_len, if_pos (show (0 : Int) ≤ (n : Int) by omega), Int.toNat_natCast, if_pos (show n ≤ 140737488355328 by omega)]
  rw [lst_zero n (fun i => md (F i))]
  refine ev_up (L := fun k i => culletref15_words.l0 k (lst n (fun j => if j < i then md (F j) else 0)) (lst n F) (n : Int) ((i : Nat) : Int)) (n := n) ?_ ?_ 0 (Nat.zero_le _)
  · refine Ev.step (fun k => culletref15_words.l0.eq_2 _ _ _ _ k) ?_
    simp only [if_neg (show ¬ ((n : Nat) : Int) < (n : Int) by omega), lst_done]
    exact Ev.now _
  · intro i hi nx
    refine Ev.step (fun k => culletref15_words.l0.eq_2 _ _ _ _ k) ?_
    simp only [if_pos (show ((i : Nat) : Int) < (n : Int) by omega), if_pos (show (0 : Int) ≤ (i : Int) by omega), lst_len, rd_nat, lst_getD hi, RefMod, Option.bind_some, u16_md, Int.toNat_natCast, lst_step (fun i => md (F i)) rfl, wr_up (n := i) (by omega)]
    exact nx
theorem RefInts {l : List Int} (hn : l.length ≤ 65536) (hw : okW l = true) : Ev (fun k => culletref15_ints.f k l) l := by
  have hv := okW_iff.1 hw
  unfold culletref15_ints.f
  simp only [if_pos (show (0 : Int) ≤ (l.length : Int) by omega), Int.toNat_natCast, if_pos (show l.length ≤ 35184372088832 by omega)]
  rw [lst_zero l.length (fun i => l.getD i 0)]
  refine ev_up (L := fun k i => culletref15_ints.l0 k (lst l.length (fun j => if j < i then l.getD j 0 else 0)) l (l.length : Int) ((i : Nat) : Int)) (n := l.length) ?_ ?_ 0 (Nat.zero_le _)
  · refine Ev.step (fun k => culletref15_ints.l0.eq_2 _ _ _ _ k) ?_
    simp only [if_neg (show ¬ ((l.length : Nat) : Int) < (l.length : Int) by omega), lst_done]
    rw [← lst_of]
    exact Ev.now _
  · intro i hi nx
    refine Ev.step (fun k => culletref15_ints.l0.eq_2 _ _ _ _ k) ?_
    obtain ⟨v0, v1⟩ := hv i hi
    simp only [if_pos (show ((i : Nat) : Int) < (l.length : Int) by omega), if_pos (show (0 : Int) ≤ (i : Int) by omega), lst_len, rd_nat, w64 (n := l.getD i 0) (by omega) (by omega), Int.toNat_natCast, lst_step (fun i => l.getD i 0) rfl, wr_up (n := i) (by omega)]
    exact nx
/-- The sign by the lowest bit. -/
theorem sgn_low (r i j : Nat) : sgn (r + 1) i j = (if (i &&& j) % 2 = 1 then -1 else 1) * sgn r (i / 2) (j / 2) := by
  induction r with
  | zero =>
    show (if i.testBit 0 && j.testBit 0 then (-1 : Int) else 1) * 1 = _ * 1
    rw [← Nat.testBit_and, Nat.testBit_zero]
    by_cases h : (i &&& j) % 2 = 1 <;> simp [h]
  | succ r ih =>
    show (if i.testBit (r + 1) && j.testBit (r + 1) then (-1 : Int) else 1) * sgn (r + 1) i j = _ * ((if (i / 2).testBit r && (j / 2).testBit r then (-1 : Int) else 1) * sgn r (i / 2) (j / 2))
    rw [ih, Nat.testBit_succ, Nat.testBit_succ, Int.mul_left_comm]
theorem and_div2 (i j : Nat) : (i &&& j) / 2 = (i / 2) &&& (j / 2) := by
  apply Nat.eq_of_testBit_eq
  intro b
  rw [Nat.testBit_and, ← Nat.testBit_succ, ← Nat.testBit_succ, ← Nat.testBit_succ, Nat.testBit_and]
theorem Sign_l0 : ∀ (r i j : Nat) (s : Int), (s = 1 ∨ s = -1) → i < 2 ^ r → r ≤ 62 → Ev (fun k => culletref15_Sign.l0 k s ((i &&& j : Nat) : Int)) (s * sgn r i j) := by
  intro r
  induction r with
  | zero =>
    intro i j s hs hi _
    have : i = 0 := by omega
    subst this
    refine Ev.step (fun k => culletref15_Sign.l0.eq_2 _ _ k) ?_
    rw [Nat.zero_and]
    simp only [if_neg (show ¬ (((0 : Nat) : Int)) > 0 by omega)]
    rw [sgn, Int.mul_one]
    exact Ev.now _
  | succ r ih =>
    intro i j s hs hi hr
    refine Ev.step (fun k => culletref15_Sign.l0.eq_2 _ _ k) ?_
    have hb : i < 2 ^ 62 := Nat.lt_of_lt_of_le hi (Nat.pow_le_pow_right (by decide) hr)
    have hx : i &&& j ≤ i := Nat.and_le_left
    have hi2 : i / 2 < 2 ^ r := by rw [Nat.pow_succ] at hi; omega
    by_cases h0 : i &&& j = 0
    · have hz : ∀ (r i j : Nat), i &&& j = 0 → sgn r i j = 1 := by
        intro r
        induction r with
        | zero => intro i j _; rfl
        | succ r ih =>
          intro i j h
          rw [sgn, ih i j h, ← Nat.testBit_and, h, Nat.zero_testBit]; rfl
      rw [hz _ _ _ h0, h0]
      simp only [if_neg (show ¬ (((0 : Nat) : Int)) > 0 by omega)]
      rw [Int.mul_one]
      exact Ev.now _
    · have e1 : Int.tmod (((i &&& j : Nat)) : Int) 2 = (((i &&& j) % 2 : Nat) : Int) := by rw [Int.tmod_eq_emod_of_nonneg (by omega)]; omega
      have e2 : Int.tdiv (((i &&& j : Nat)) : Int) 2 = (((i / 2) &&& (j / 2) : Nat) : Int) := by rw [Int.tdiv_eq_ediv_of_nonneg (by omega), ← and_div2]; omega
      have hx2 : (i / 2) &&& (j / 2) ≤ i / 2 := Nat.and_le_left
      simp only [if_pos (show (((i &&& j : Nat)) : Int) > 0 by omega), e1, e2]
      rw [w64 (n := (((i / 2) &&& (j / 2) : Nat) : Int)) (by omega) (by omega), sgn_low]
      by_cases h1 : (i &&& j) % 2 = 1
      · simp only [if_pos (show ((((i &&& j) % 2 : Nat)) : Int) = 1 by omega), if_pos h1]
        rw [w64 (n := -s) (by omega) (by omega)]
        have := ih (i / 2) (j / 2) (-s) (by omega) hi2 (by omega)
        rw [show s * (-1 * sgn r (i / 2) (j / 2)) = -s * sgn r (i / 2) (j / 2) by rw [← Int.mul_assoc]; congr 1; omega]
        exact this
      · simp only [if_neg (show ¬ ((((i &&& j) % 2 : Nat)) : Int) = 1 by omega), if_neg h1]
        rw [Int.one_mul]
        exact ih (i / 2) (j / 2) s hs hi2 (by omega)
theorem RefSign {r i j : Nat} (hi : i < 2 ^ r) (hj : j < 2 ^ r) (hr : r ≤ 16) : Ev (fun k => culletref15_Sign.f k (i : Int) (j : Int)) (sgn r i j) := by
  unfold culletref15_Sign.f
  have h62 : 2 ^ r < 2 ^ 62 := Nat.pow_lt_pow_right (by decide) (by omega)
  rw [bits_andi (by omega) (by omega)]
  have := Sign_l0 r i j 1 (.inl rfl) hi (by omega)
  rwa [Int.one_mul] at this
end Go.Proofs.Ytklkcenffajfeaa.R
