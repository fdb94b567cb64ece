/- What the printed functions of layer 10 compute that make matrices. -/
import Derived.Test.YtidogckochpbgaaMat
import Derived.Test.YtidogckochpbgaaTab8
import Derived.Test.YtidogckochpbgaaQx1
import Derived.Test.YtidogckochpbgaaQx2
import Derived.Test.YtidogckochpbgaaQx3
import Derived.Test.YtidogckochpbgaaQx5
namespace Go.Proofs.Ytidogckochpbgaa.R
open Go.RowKit Go.Proofs.YtidogckochpbgaaW.PrintWords Go.Proofs.YtidogckochpbgaaW.PrintLast Go.Proofs.YtidogckochpbgaaW.PrintMore Go.Proofs.Ytidogckochpbgaa.Q GP
set_option linter.unusedVariables false
set_option linter.unusedSimpArgs false

theorem wr64 {n : Nat} (h : n < 2 ^ 62) : wrap64 ((n : Int) + 1) = ((n + 1 : Nat) : Int) := by rw [wrap64_id (by omega) (by omega)]; omega
theorem blank_l0 {r c : Nat} (hc : c ≤ 281474976710656) (hr : r ≤ 11728124029610) : ∀ n i : Nat, r - i ≤ n → i ≤ r → Ev (fun k => matrix_blank.l0 k (c : Int) (List.replicate i (List.replicate c (0 : Int)) ++ List.replicate (r - i) ([] : List Int)) (r : Int) (i : Int)) (List.replicate r (List.replicate c (0 : Int))) := by
  have fin : ∀ i : Nat, ¬ i < r → i ≤ r → Ev (fun k => matrix_blank.l0 k (c : Int) (List.replicate i (List.replicate c (0 : Int)) ++ List.replicate (r - i) ([] : List Int)) (r : Int) (i : Int)) (List.replicate r (List.replicate c (0 : Int))) := by
    intro i hi hi2
    obtain rfl : i = r := by omega
    refine Ev.step (fun k => matrix_blank.l0.eq_2 _ _ _ _ k) ?_
    simp only [if_neg (show ¬ ((i : Nat) : Int) < (i : Int) by omega), Nat.sub_self, List.replicate_zero, List.append_nil]
    exact Ev.now _
  intro n
  induction n with
  | zero => intro i h hi; exact fin i (by omega) hi
  | succ n ih =>
    intro i h hi
    by_cases hlt : i < r
    · refine Ev.step (fun k => matrix_blank.l0.eq_2 _ _ _ _ k) ?_
      have hl : (List.replicate i (List.replicate c (0 : Int)) ++ List.replicate (r - i) ([] : List Int)).length = r := by simp; omega
      have hs : (List.replicate i (List.replicate c (0 : Int)) ++ List.replicate (r - i) ([] : List Int)).set i (List.replicate c (0 : Int)) = List.replicate (i + 1) (List.replicate c (0 : Int)) ++ List.replicate (r - (i + 1)) ([] : List Int) := by
        rw [List.set_append_right _ _ (by simp), List.length_replicate, Nat.sub_self, show r - i = (r - (i + 1)) + 1 by omega, List.replicate_succ, List.set_cons_zero, List.replicate_succ', List.append_assoc]
        rfl
      simp only [if_pos (show ((i : Nat) : Int) < (r : Int) by omega), if_pos (show (0 : Int) ≤ (c : Int) by omega), Int.toNat_natCast, if_pos hc, if_pos (show (0 : Int) ≤ (i : Int) by omega), hl, hs, wr64 (n := i) (by omega)]
      exact ih (i + 1) (by omega) (by omega)
    · exact fin i hlt hi
theorem Blank {r c : Nat} (hc : c ≤ 281474976710656) (hr : r ≤ 11728124029610) : Ev (fun k => matrix_blank.f k (r : Int) (c : Int)) (mat r c (fun _ _ => 0)) := by
  unfold matrix_blank.f
  simp only [if_pos (show (0 : Int) ≤ (r : Int) by omega), Int.toNat_natCast, if_pos hr, Option.bind_some, List.length_replicate]
  rw [← replicate_mat]
  have := blank_l0 hc hr r 0 (by omega) (by omega)
  simpa using this
/-- The element of Vandermonde's matrix: row i, column j. -/
def vd (i j : Nat) : Nat := p8 (i % 256) j
theorem vd_lt (i j : Nat) : vd i j < 256 := fpow_lt bl285 _ _
theorem vd_zero (i : Nat) : vd i 0 = 1 := by unfold vd p8; rw [fpow_zero, pmod_one irr8 bl285]
theorem vd_succ (i j : Nat) : vd i (j + 1) = m8 (vd i j) (i % 256) := fpow_succ (by decide) _ j
/-- Vandermonde's matrix, made as far as (i, j). -/
def vdTo (i j : Nat) : Nat → Nat → Nat := fun a b => if a < i ∨ a = i ∧ b < j then vd a b else 0
theorem vdTo_put {r c i j v : Nat} (hi : i < r) (hv : v = vd i j) : (mat r c (vdTo i j)).set i ((rd_L1 (mat r c (vdTo i j)) (i : Int)).set j ((v : Nat) : Int)) = mat r c (vdTo i (j + 1)) := by
  rw [mat_put hi, hv]
  apply mat_congr
  intro a b _ _
  unfold vdTo
  by_cases e : a = i
  · subst e
    by_cases e2 : b = j
    · subst e2; simp
    · have : b < j + 1 ↔ b < j := by omega
      simp [e2, this]
  · simp [e]
theorem vd_l1 {r c : Nat} (hr : r ≤ 256) (hc : c ≤ 512) {i : Nat} (hi : i < r)
    (next : Ev (fun k => matrix_Vandermonde.l0 k (c : Int) (mat r c (vdTo (i + 1) 0)) (r : Int) ((i + 1 : Nat) : Int)) (mat r c vd, (0 : Int))) :
    ∀ n j : Nat, c - j ≤ n → 1 ≤ j → j ≤ c → Ev (fun k => matrix_Vandermonde.l1 k (c : Int) (mat r c (vdTo i j)) (i : Int) (j : Int) (r : Int) (i : Int)) (mat r c vd, (0 : Int)) := by
  have fin : ∀ j : Nat, ¬ j < c → j ≤ c → Ev (fun k => matrix_Vandermonde.l1 k (c : Int) (mat r c (vdTo i j)) (i : Int) (j : Int) (r : Int) (i : Int)) (mat r c vd, (0 : Int)) := by
    intro j hj hj2
    obtain rfl : j = c := by omega
    refine Ev.step (fun k => matrix_Vandermonde.l1.eq_2 _ _ _ _ _ _ k) ?_
    simp only [if_neg (show ¬ ((j : Nat) : Int) < (j : Int) by omega), wr64 (n := i) (by omega)]
    have : mat r j (vdTo i j) = mat r j (vdTo (i + 1) 0) := by
      apply mat_congr
      intro a b _ hb
      unfold vdTo
      have : (a < i ∨ a = i ∧ b < j) ↔ (a < i + 1 ∨ a = i + 1 ∧ b < 0) := by omega
      simp only [this]
    rw [this]
    exact next
  intro n
  induction n with
  | zero => intro j h h1 hj; exact fin j (by omega) hj
  | succ n ih =>
    intro j h h1 hj
    by_cases hlt : j < c
    · refine Ev.step (fun k => matrix_Vandermonde.l1.eq_2 _ _ _ _ _ _ k) ?_
      have hw : wrap64 ((j : Int) - 1) = ((j - 1 : Nat) : Int) := by rw [wrap64_id (by omega) (by omega)]; omega
      have hrow : rd_L1 (mat r c (vdTo i j)) (i : Int) = rowOf c (vdTo i j i) := mat_row hi c _
      have hg : rd (rowOf c (vdTo i j i)) ((j - 1 : Nat) : Int) = ((vd i (j - 1) : Nat) : Int) := by
        rw [rowOf_get (by omega)]
        unfold vdTo
        rw [if_pos (by omega)]
      have hm : (i : Int) % 256 = ((i % 256 : Nat) : Int) := by omega
      have hput := vdTo_put (r := r) (c := c) (i := i) (j := j) (v := m8 (vd i (j - 1)) (i % 256)) hi (by rw [← vd_succ, show j - 1 + 1 = j by omega])
      rw [hrow] at hput
      simp only [if_pos (show ((j : Nat) : Int) < (c : Int) by omega), if_pos (show (0 : Int) ≤ (i : Int) by omega), mat_len, if_pos (show ((i : Nat) : Int) < (r : Int) by omega), hw, if_pos (show (0 : Int) ≤ ((j - 1 : Nat) : Int) by omega), hrow, rowOf_len, if_pos (show ((j - 1 : Nat) : Int) < (c : Int) by omega), hg, hm]
      refine Ev.bind (Mul8 (vd_lt i (j - 1)) (Nat.mod_lt _ (by decide))) ?_
      simp only [if_pos (show (0 : Int) ≤ (j : Int) by omega), Int.toNat_natCast, hput, wr64 (n := j) (by omega)]
      exact ih (j + 1) (by omega) (by omega) (by omega)
    · exact fin j hlt hj
theorem vd_l0 {r c : Nat} (hr : r ≤ 256) (hc : c ≤ 512) (hc1 : 1 ≤ c) : ∀ n i : Nat, r - i ≤ n → i ≤ r → Ev (fun k => matrix_Vandermonde.l0 k (c : Int) (mat r c (vdTo i 0)) (r : Int) (i : Int)) (mat r c vd, (0 : Int)) := by
  have fin : ∀ i : Nat, ¬ i < r → i ≤ r → Ev (fun k => matrix_Vandermonde.l0 k (c : Int) (mat r c (vdTo i 0)) (r : Int) (i : Int)) (mat r c vd, (0 : Int)) := by
    intro i hi hi2
    obtain rfl : i = r := by omega
    refine Ev.step (fun k => matrix_Vandermonde.l0.eq_2 _ _ _ _ k) ?_
    simp only [if_neg (show ¬ ((i : Nat) : Int) < (i : Int) by omega)]
    have : mat i c (vdTo i 0) = mat i c vd := by
      apply mat_congr
      intro a b ha _
      unfold vdTo
      rw [if_pos (.inl ha)]
    rw [this]
    exact Ev.now _
  intro n
  induction n with
  | zero => intro i h hi; exact fin i (by omega) hi
  | succ n ih =>
    intro i h hi
    by_cases hlt : i < r
    · refine Ev.step (fun k => matrix_Vandermonde.l0.eq_2 _ _ _ _ k) ?_
      have hrow : rd_L1 (mat r c (vdTo i 0)) (i : Int) = rowOf c (vdTo i 0 i) := mat_row hlt c _
      have hput := vdTo_put (r := r) (c := c) (i := i) (j := 0) (v := 1) hlt (vd_zero i).symm
      rw [hrow] at hput
      simp only [if_pos (show ((i : Nat) : Int) < (r : Int) by omega), if_pos (show (0 : Int) ≤ (i : Int) by omega), mat_len, hrow, rowOf_len, if_pos (show (0 : Int) < (c : Int) by omega), Int.toNat_natCast, Int.toNat_zero]
      rw [show ((1 : Int)) = ((1 : Nat) : Int) from rfl, hput]
      exact vd_l1 hr hc hlt (ih (i + 1) (by omega) (by omega)) c 1 (by omega) (by omega) hc1
    · exact fin i hlt hi
theorem Vandermonde {r c : Nat} (hr1 : 1 ≤ r) (hr : r ≤ 256) (hc1 : 1 ≤ c) (hc : c ≤ 512) : Ev (fun k => matrix_Vandermonde.f k (r : Int) (c : Int)) (mat r c vd, (0 : Int)) := by
  unfold matrix_Vandermonde.f
  simp only [if_neg (show ¬ (r : Int) < 1 by omega), if_neg (show ¬ (r : Int) > 256 by omega), if_neg (show ¬ (c : Int) < 1 by omega), decide_eq_false (show ¬ (c : Int) > 512 by omega)]
  refine Ev.step (fun k => matrix_Vandermonde.j0.eq_2 _ _ _ k) ?_
  simp only [Bool.false_eq_true, if_false]
  refine Ev.bind (Blank (r := r) (c := c) (by omega) (by omega)) ?_
  simp only [mat_len]
  have := vd_l0 hr hc hc1 r 0 (by omega) (by omega)
  rw [show mat r c (vdTo 0 0) = mat r c (fun _ _ => 0) from mat_congr (fun a b _ _ => by unfold vdTo; rw [if_neg (by omega)])] at this
  exact this
theorem Vandermonde_no {r c : Int} (h : r < 1 ∨ r > 256 ∨ c < 1 ∨ c > 512) : Ev (fun k => matrix_Vandermonde.f k r c) (([] : List (List Int)), (100 : Int)) := by
  have j : Ev (fun k => matrix_Vandermonde.j0 k r c true) (([] : List (List Int)), (100 : Int)) := by
    refine Ev.step (fun k => matrix_Vandermonde.j0.eq_2 _ _ _ k) ?_
    simp only [if_true]
    exact Ev.now _
  unfold matrix_Vandermonde.f
  by_cases h1 : r < 1
  · simp only [if_pos h1]; exact j
  simp only [if_neg h1]
  by_cases h2 : r > 256
  · simp only [if_pos h2]; exact j
  simp only [if_neg h2]
  by_cases h3 : c < 1
  · simp only [if_pos h3]; exact j
  simp only [if_neg h3, decide_eq_true (show c > 512 by omega)]
  exact j
theorem Check_l0 {r c : Nat} (hr1 : 1 ≤ r) (hr : r ≤ 256) (g : Nat → Nat → Nat) : ∀ n i : Nat, r - i ≤ n → i ≤ r → Ev (fun k => matrix_Check.l0 k (mat r c g) (mat r c g) (r : Int) (i : Int)) (0 : Int) := by
  have fin : ∀ i : Nat, ¬ i < r → Ev (fun k => matrix_Check.l0 k (mat r c g) (mat r c g) (r : Int) (i : Int)) (0 : Int) := by
    intro i hi
    refine Ev.step (fun k => matrix_Check.l0.eq_2 _ _ _ _ k) ?_
    simp only [if_neg (show ¬ ((i : Nat) : Int) < (r : Int) by omega)]
    exact Ev.now _
  intro n
  induction n with
  | zero => intro i h hi; exact fin i (by omega)
  | succ n ih =>
    intro i h hi
    by_cases hlt : i < r
    · refine Ev.step (fun k => matrix_Check.l0.eq_2 _ _ _ _ k) ?_
      have h0 : rd_L1 (mat r c g) 0 = rowOf c (g 0) := mat_row (i := 0) (by omega) c g
      simp only [if_pos (show ((i : Nat) : Int) < (r : Int) by omega), if_pos (show (0 : Int) ≤ (i : Int) by omega), mat_len, if_pos (show (0 : Int) < (r : Int) by omega), mat_row hlt, h0, rowOf_len, if_true, wr64 (n := i) (by omega)]
      exact ih (i + 1) (by omega) (by omega)
    · exact fin i hlt
theorem Check_mat {r c : Nat} (hr1 : 1 ≤ r) (hr : r ≤ 256) (hc1 : 1 ≤ c) (hc : c ≤ 512) (g : Nat → Nat → Nat) : Ev (fun k => matrix_Check.f k (mat r c g)) (0 : Int) := by
  have h0 : rd_L1 (mat r c g) 0 = rowOf c (g 0) := mat_row (i := 0) (by omega) c g
  unfold matrix_Check.f
  simp only [mat_len, if_neg (show ¬ (r : Int) < 1 by omega), if_neg (show ¬ (r : Int) > 256 by omega), if_pos (show (0 : Int) < (r : Int) by omega), h0, rowOf_len, if_neg (show ¬ (c : Int) < 1 by omega), decide_eq_false (show ¬ (c : Int) > 512 by omega)]
  refine Ev.step (fun k => matrix_Check.j0.eq_2 _ _ k) ?_
  simp only [Bool.false_eq_true, if_false, mat_len]
  exact Check_l0 hr1 hr g r 0 (by omega) (by omega)
/-- What a filling has made as far as (i, j). -/
def fillTo (t : Nat → Nat → Nat) (i j : Nat) : Nat → Nat → Nat := fun a b => if a < i ∨ a = i ∧ b < j then t a b else 0
theorem fillTo_put {t : Nat → Nat → Nat} {r c i j v : Nat} (hi : i < r) (hv : v = t i j) : (mat r c (fillTo t i j)).set i ((rd_L1 (mat r c (fillTo t i j)) (i : Int)).set j ((v : Nat) : Int)) = mat r c (fillTo t i (j + 1)) := by
  rw [mat_put hi, hv]
  apply mat_congr
  intro a b _ _
  unfold fillTo
  by_cases e : a = i
  · subst e
    by_cases e2 : b = j
    · subst e2; simp
    · have : b < j + 1 ↔ b < j := by omega
      simp [e2, this]
  · simp [e]
theorem fillTo_row {t : Nat → Nat → Nat} (r c i : Nat) : mat r c (fillTo t i c) = mat r c (fillTo t (i + 1) 0) := by
  apply mat_congr
  intro a b _ hb
  unfold fillTo
  have : (a < i ∨ a = i ∧ b < c) ↔ (a < i + 1 ∨ a = i + 1 ∧ b < 0) := by omega
  simp only [this]
theorem fillTo_none {t : Nat → Nat → Nat} (r c : Nat) : mat r c (fillTo t 0 0) = mat r c (fun _ _ => 0) := mat_congr (fun a b _ _ => by unfold fillTo; rw [if_neg (by omega)])
theorem fillTo_all {t : Nat → Nat → Nat} (r c : Nat) : mat r c (fillTo t r 0) = mat r c t := mat_congr (fun a b ha _ => by unfold fillTo; rw [if_pos (.inl ha)])
theorem i8_zero : i8 0 = 0 := by
  show pmod (pp 0 254) 285 = 0
  rw [show (254 : Nat) = 253 + 1 from rfl, pp_succ, cl_zero, pmod_zero_left]
theorem TInv8_any {x : Nat} (hx : x < 256) : ∃ e : Int, gf8_Tables_Inv.f x = some (((i8 x : Nat) : Int), e) := by
  by_cases h : x = 0
  · exact ⟨20, by rw [h, i8_zero]; exact TInv8_zero⟩
  · exact ⟨0, TInv8 hx h⟩
/-- The element of Cauchy's matrix of c columns: row i, column j. -/
def cau (c i j : Nat) : Nat := i8 ((c + i) % 256 ^^^ j % 256)
theorem cau_lt (c i j : Nat) : cau c i j < 256 := i8_lt _
theorem cau_l1 {r c : Nat} (hr : r ≤ 256) (hc : c ≤ 256) {i : Nat} (hi : i < r)
    (next : Ev (fun k => matrix_Cauchy.l0 k (c : Int) (mat r c (fillTo (cau c) (i + 1) 0)) (r : Int) ((i + 1 : Nat) : Int)) (mat r c (cau c), (0 : Int))) :
    ∀ n j : Nat, c - j ≤ n → j ≤ c → Ev (fun k => matrix_Cauchy.l1 k (c : Int) (mat r c (fillTo (cau c) i j)) (i : Int) (r : Int) (i : Int) (c : Int) (j : Int)) (mat r c (cau c), (0 : Int)) := by
  have fin : ∀ j : Nat, ¬ j < c → j ≤ c → Ev (fun k => matrix_Cauchy.l1 k (c : Int) (mat r c (fillTo (cau c) i j)) (i : Int) (r : Int) (i : Int) (c : Int) (j : Int)) (mat r c (cau c), (0 : Int)) := by
    intro j hj hj2
    obtain rfl : j = c := by omega
    refine Ev.step (fun k => matrix_Cauchy.l1.eq_2 _ _ _ _ _ _ _ k) ?_
    simp only [if_neg (show ¬ ((j : Nat) : Int) < (j : Int) by omega), wr64 (n := i) (by omega), fillTo_row]
    exact next
  intro n
  induction n with
  | zero => intro j h hj; exact fin j (by omega) hj
  | succ n ih =>
    intro j h hj
    by_cases hlt : j < c
    · refine Ev.step (fun k => matrix_Cauchy.l1.eq_2 _ _ _ _ _ _ _ k) ?_
      have hw : (wrap64 ((c : Int) + (i : Int))) % 256 = (((c + i) % 256 : Nat) : Int) := by rw [wrap64_id (by omega) (by omega)]; omega
      have hj2 : (j : Int) % 256 = ((j % 256 : Nat) : Int) := by omega
      have hx : Go.bits .xor .u8 (((c + i) % 256 : Nat) : Int) ((j % 256 : Nat) : Int) = (((c + i) % 256 ^^^ j % 256 : Nat) : Int) := bits_xor8 (Nat.mod_lt _ (by decide)) (Nat.mod_lt _ (by decide))
      have hxl : (c + i) % 256 ^^^ j % 256 < 256 := Nat.xor_lt_two_pow (n := 8) (Nat.mod_lt _ (by decide)) (Nat.mod_lt _ (by decide))
      obtain ⟨e, he⟩ := TInv8_any hxl
      have hput := fillTo_put (t := cau c) (r := r) (c := c) (i := i) (j := j) (v := i8 ((c + i) % 256 ^^^ j % 256)) hi rfl
      have hrow : rd_L1 (mat r c (fillTo (cau c) i j)) (i : Int) = rowOf c (fillTo (cau c) i j i) := mat_row hi c _
      rw [hrow] at hput
      simp only [if_pos (show ((j : Nat) : Int) < (c : Int) by omega), if_pos (show (0 : Int) ≤ (i : Int) by omega), mat_len, if_pos (show ((i : Nat) : Int) < (r : Int) by omega), hw, hj2, hx, he, Option.bind_some, if_pos (show (0 : Int) ≤ (j : Int) by omega), hrow, rowOf_len, Int.toNat_natCast, hput, wr64 (n := j) (by omega)]
      exact ih (j + 1) (by omega) (by omega)
    · exact fin j hlt hj
theorem cau_l0 {r c : Nat} (hr : r ≤ 256) (hc : c ≤ 256) : ∀ n i : Nat, r - i ≤ n → i ≤ r → Ev (fun k => matrix_Cauchy.l0 k (c : Int) (mat r c (fillTo (cau c) i 0)) (r : Int) (i : Int)) (mat r c (cau c), (0 : Int)) := by
  have fin : ∀ i : Nat, ¬ i < r → i ≤ r → Ev (fun k => matrix_Cauchy.l0 k (c : Int) (mat r c (fillTo (cau c) i 0)) (r : Int) (i : Int)) (mat r c (cau c), (0 : Int)) := by
    intro i hi hi2
    obtain rfl : i = r := by omega
    refine Ev.step (fun k => matrix_Cauchy.l0.eq_2 _ _ _ _ k) ?_
    simp only [if_neg (show ¬ ((i : Nat) : Int) < (i : Int) by omega), fillTo_all]
    exact Ev.now _
  intro n
  induction n with
  | zero => intro i h hi; exact fin i (by omega) hi
  | succ n ih =>
    intro i h hi
    by_cases hlt : i < r
    · refine Ev.step (fun k => matrix_Cauchy.l0.eq_2 _ _ _ _ k) ?_
      have hrow : rd_L1 (mat r c (fillTo (cau c) i 0)) (i : Int) = rowOf c (fillTo (cau c) i 0 i) := mat_row hlt c _
      simp only [if_pos (show ((i : Nat) : Int) < (r : Int) by omega), if_pos (show (0 : Int) ≤ (i : Int) by omega), mat_len, hrow, rowOf_len]
      exact cau_l1 hr hc hlt (ih (i + 1) (by omega) (by omega)) c 0 (by omega) (by omega)
    · exact fin i hlt hi
theorem Cauchy_mat {r c : Nat} (hr1 : 1 ≤ r) (hc1 : 1 ≤ c) (h : r + c ≤ 256) : Ev (fun k => matrix_Cauchy.f k (r : Int) (c : Int)) (mat r c (cau c), (0 : Int)) := by
  unfold matrix_Cauchy.f
  simp only [if_neg (show ¬ (r : Int) < 1 by omega), if_neg (show ¬ (r : Int) > 256 by omega), if_neg (show ¬ (c : Int) < 1 by omega), if_neg (show ¬ (c : Int) > 256 by omega), wrap64_id (n := (r : Int) + (c : Int)) (by omega) (by omega), decide_eq_false (show ¬ (r : Int) + (c : Int) > 256 by omega)]
  refine Ev.step (fun k => matrix_Cauchy.j0.eq_2 _ _ _ k) ?_
  simp only [Bool.false_eq_true, if_false, gf8_New.f, Option.bind_some]
  refine Ev.bind (Blank (r := r) (c := c) (by omega) (by omega)) ?_
  simp only [mat_len]
  rw [← fillTo_none (t := cau c)]
  exact cau_l0 (by omega) (by omega) r 0 (by omega) (by omega)
theorem Cauchy_no {r c : Int} (h : r < 1 ∨ r > 256 ∨ c < 1 ∨ c > 256 ∨ r + c > 256) : Ev (fun k => matrix_Cauchy.f k r c) (([] : List (List Int)), (100 : Int)) := by
  have j : Ev (fun k => matrix_Cauchy.j0 k r c true) (([] : List (List Int)), (100 : Int)) := by
    refine Ev.step (fun k => matrix_Cauchy.j0.eq_2 _ _ _ k) ?_
    simp only [if_true]
    exact Ev.now _
  unfold matrix_Cauchy.f
  by_cases h1 : r < 1
  · simp only [if_pos h1]; exact j
  simp only [if_neg h1]
  by_cases h2 : r > 256
  · simp only [if_pos h2]; exact j
  simp only [if_neg h2]
  by_cases h3 : c < 1
  · simp only [if_pos h3]; exact j
  simp only [if_neg h3]
  by_cases h4 : c > 256
  · simp only [if_pos h4]; exact j
  simp only [if_neg h4, wrap64_id (n := r + c) (by omega) (by omega), decide_eq_true (show r + c > 256 by omega)]
  exact j
end Go.Proofs.Ytidogckochpbgaa.R
