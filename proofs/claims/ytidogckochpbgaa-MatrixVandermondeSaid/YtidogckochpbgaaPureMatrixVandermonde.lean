/-
MatrixVandermonde: the determinant of any k rows of a Vandermonde matrix of k columns is the product of all differences of their numbers.
-/
import Derived.Test.YtidogckochpbgaaSolveLaw
import Derived.Test.YtidogckochpbgaaAwakeMat
import Derived.Test.YtidogckochpbgaaVdm
import Derived.Test.YtidogckochpbgaaH7
import Derived.Test.YtidogckochpbgaaQx6
namespace Go.Proofs.Ytidogckochpbgaa.Pure
open Go.RowKit Go.Proofs.Ytidogckochpbgaa.A Go.Proofs.Ytidogckochpbgaa.Q Go.Proofs.YtidogckochpbgaaW.PrintWords Go.Proofs.YtidogckochpbgaaW.PrintLast Go.Proofs.YtidogckochpbgaaW.PrintMore Go.Proofs.Ytidogckochpbgaa.R GP
set_option linter.unusedVariables false
set_option linter.unusedSimpArgs false

/-- Vandermonde's matrix over the field. -/
def vdm (i j : Nat) : G8 := ⟨vd i j, vd_lt i j⟩
theorem vdm_eq (r c : Nat) : mat r c vd = mt r c vdm := rfl
theorem vdm_vr {x : Nat → G8} {c : Nat} : ∀ j, vdm (x c).v j = LA.vr x j c := by
  intro j
  induction j with
  | zero => exact G8.ext (vd_zero _)
  | succ j ih =>
    show _ = LA.vr x j c * x c
    rw [← ih]
    apply G8.ext
    show vd _ _ = m8 (vd _ _) _
    rw [vd_succ, Nat.mod_eq_of_lt (x c).2]
theorem MatrixVandermonde : culletlaw10_MatrixVandermonde.Pure := by
  intro l _ _ hwf
  apply Ev.rounds
  unfold culletlaw10_MatrixVandermonde.f
  refine Ev.bind Awake ?_
  simp only [if_true]
  have no : Ev (fun k => culletlaw10_MatrixVandermonde.j0 k l (l.length : Int) true) true := by
    refine Ev.step (fun k => culletlaw10_MatrixVandermonde.j0.eq_2 _ _ _ k) ?_
    simp only [if_true]
    exact Ev.now _
  by_cases h1 : (l.length : Int) < 1
  · simp only [if_pos h1]; exact no
  simp only [if_neg h1]
  by_cases h2 : (l.length : Int) > 32
  · simp only [decide_eq_true h2]; exact no
  simp only [decide_eq_false h2]
  clear no
  have hb : ∀ i, i < l.length → 0 ≤ l.getD i 0 ∧ l.getD i 0 ≤ 255 := fun i hi => by
    rw [List.getD_eq_getElem?_getD, List.getElem?_eq_getElem hi]
    obtain ⟨n, e, hn⟩ := of_u8 (hwf _ (List.getElem_mem hi))
    show 0 ≤ l[i] ∧ l[i] ≤ 255
    omega
  generalize hX : (fun i => t8 (l.getD i 0).toNat) = X
  have hx : ∀ i, i < l.length → l.getD i 0 = (((X i).v : Nat) : Int) := fun i hi => by
    have := hb i hi
    rw [← hX]
    show _ = (((t8 (l.getD i 0).toNat).v : Nat) : Int)
    rw [t8_val (by omega)]; omega
  have hrd : ∀ i : Nat, i < l.length → rd l (i : Int) = (((X i).v : Nat) : Int) := fun i hi => by
    rw [← hx i hi]
    unfold rd
    rw [Int.toNat_natCast]
  generalize hn : l.length = n at h1 h2 hb hx hrd
  have hn1 : 1 ≤ n := by omega
  have hn2 : n ≤ 32 := by omega
  refine Ev.step (fun k => culletlaw10_MatrixVandermonde.j0.eq_2 _ _ _ k) ?_
  simp only [Bool.false_eq_true, if_false, if_pos (show (0 : Int) ≤ (n : Int) by omega), Int.toNat_natCast, if_pos (show n ≤ 35184372088832 by omega)]
  -- the end
  have fin : Ev (fun k => culletlaw10_MatrixVandermonde.l0 k l (n : Int) l (((LA.W X n).v : Nat) : Int) (n : Int)) true := by
    refine Ev.step (fun k => culletlaw10_MatrixVandermonde.l0.eq_2 _ _ _ _ _ k) ?_
    simp only [if_neg (show ¬ ((n : Nat) : Int) < (n : Int) by omega)]
    refine Ev.bind (Vandermonde (r := 256) (c := n) (by decide) (by decide) (by omega) (by omega)) ?_
    rw [vdm_eq]
    have hp : matrix_Pick.f (mt 256 n vdm) l = some (mt n n (fun i j => vdm (X i).v j), 0) := by
      unfold matrix_Pick.f
      rw [if_pos (chk_mt (by decide) (by decide) hn1 (by omega)), if_pos ⟨by omega, by omega, List.all_eq_true.2 fun y hy => by
        obtain ⟨i, hi, rfl⟩ := List.getElem_of_mem hy
        have := hb i (by omega)
        rw [List.getD_eq_getElem?_getD, List.getElem?_eq_getElem hi] at this
        have t : 0 ≤ l[i] ∧ l[i] ≤ 255 := this
        rw [mt_len, Bool.and_eq_true, decide_eq_true_eq, decide_eq_true_eq]
        omega⟩, if_pos byt_mt, wid_mt (by decide), hn]
      congr 2
      apply mt_congr
      intro i j hi hj
      rw [hx i hi, Int.toNat_natCast, toM_mt (X i).2 hj]
    simp only [if_true, hp, Option.bind_some]
    have hd : matrix_Det.f (mt n n (fun i j => vdm (X i).v j)) = some ((((LA.W X n).v : Nat) : Int), (0 : Int)) := by
      rw [Det_of (chk_mt hn1 (by omega) hn1 (by omega)) byt_mt (by rw [mt_len, wid_mt hn1]), mt_len]
      rw [LA.det_congr (n := n) (B := fun i j => LA.vr X j i) (fun i j hi hj => by rw [toM_mt hi hj, vdm_vr]), LA.det_vdm]
    simp only [hd, Option.bind_some, if_true, beq_self_eq_true]
    exact Ev.now _
  have l1 : ∀ i : Nat, i < n → Ev (fun k => culletlaw10_MatrixVandermonde.l0 k l (n : Int) (l.take (i + 1) ++ List.replicate (n - (i + 1)) 0) (((LA.W X (i + 1)).v : Nat) : Int) (((i + 1 : Nat)) : Int)) true →
      ∀ d j : Nat, i - j ≤ d → j ≤ i → Ev (fun k => culletlaw10_MatrixVandermonde.l1 k l (n : Int) (l.take (i + 1) ++ List.replicate (n - (i + 1)) 0) (((LA.W X i * LA.Wi X i j).v : Nat) : Int) (i : Int) (j : Int)) true := by
    intro i hi next d
    have fin : ∀ j : Nat, ¬ j < i → j ≤ i → Ev (fun k => culletlaw10_MatrixVandermonde.l1 k l (n : Int) (l.take (i + 1) ++ List.replicate (n - (i + 1)) 0) (((LA.W X i * LA.Wi X i j).v : Nat) : Int) (i : Int) (j : Int)) true := by
      intro j hj hj2
      obtain rfl : j = i := by omega
      refine Ev.step (fun k => culletlaw10_MatrixVandermonde.l1.eq_2 _ _ _ _ _ _ k) ?_
      simp only [if_neg (show ¬ ((j : Nat) : Int) < (j : Int) by omega), wr64 (n := j) (by omega), ← LA.W_succ]
      exact next
    induction d with
    | zero => intro j h hj; exact fin j (by omega) hj
    | succ d ih =>
      intro j h hj
      by_cases hlt : j < i
      · refine Ev.step (fun k => culletlaw10_MatrixVandermonde.l1.eq_2 _ _ _ _ _ _ k) ?_
        simp only [if_pos (show ((j : Nat) : Int) < (i : Int) by omega), if_pos (show (0 : Int) ≤ (i : Int) by omega), hn, if_pos (show ((i : Nat) : Int) < (n : Int) by omega), if_pos (show (0 : Int) ≤ (j : Int) by omega), if_pos (show ((j : Nat) : Int) < (n : Int) by omega), hrd i hi, hrd j (by omega), wr64 (n := j) (by omega)]
        have ex : Go.bits .xor .u8 (((X i).v : Nat) : Int) (((X j).v : Nat) : Int) = (((X i + X j).v : Nat) : Int) := bits_xor8 (X i).2 (X j).2
        rw [ex]
        have em : ((m8 (LA.W X i * LA.Wi X i j).v (X i + X j).v : Nat) : Int) = (((LA.W X i * LA.Wi X i (j + 1)).v : Nat) : Int) := by
          rw [LA.Wi_succ, ← LA.Fld.mul_assoc]; rfl
        refine Ev.bind (Mul8 (LA.W X i * LA.Wi X i j).2 (X i + X j).2) ?_
        rw [em]
        exact ih (j + 1) (by omega) (by omega)
      · exact fin j hlt hj
  have l0 : ∀ d i : Nat, n - i ≤ d → i ≤ n → Ev (fun k => culletlaw10_MatrixVandermonde.l0 k l (n : Int) (l.take i ++ List.replicate (n - i) 0) (((LA.W X i).v : Nat) : Int) (i : Int)) true := by
    have fin' : ∀ i : Nat, ¬ i < n → i ≤ n → Ev (fun k => culletlaw10_MatrixVandermonde.l0 k l (n : Int) (l.take i ++ List.replicate (n - i) 0) (((LA.W X i).v : Nat) : Int) (i : Int)) true := by
      intro i h1 h2
      obtain rfl : i = n := by omega
      rw [Nat.sub_self, List.replicate_zero, List.append_nil, List.take_of_length_le (by omega)]
      exact fin
    intro d
    induction d with
    | zero => intro i h hi; exact fin' i (by omega) hi
    | succ d ih =>
      intro i h hi
      by_cases hlt : i < n
      · refine Ev.step (fun k => culletlaw10_MatrixVandermonde.l0.eq_2 _ _ _ _ _ k) ?_
        have hlen : (l.take i ++ List.replicate (n - i) (0 : Int)).length = n := by
          rw [List.length_append, List.length_take, List.length_replicate]; omega
        have hset : (l.take i ++ List.replicate (n - i) (0 : Int)).set i (((X i).v : Nat) : Int) = l.take (i + 1) ++ List.replicate (n - (i + 1)) 0 := by
          have hi' : i < l.length := by omega
          rw [List.set_append_right _ _ (by rw [List.length_take]; omega), List.length_take, Nat.min_eq_left (by omega), Nat.sub_self, show n - i = (n - (i + 1)) + 1 by omega, List.replicate_succ, List.set_cons_zero, List.take_succ_eq_append_getElem hi', List.append_assoc, ← hx i hlt, List.getD_eq_getElem?_getD, List.getElem?_eq_getElem hi']
          rfl
        have hv := (X i).2
        simp only [if_pos (show ((i : Nat) : Int) < (n : Int) by omega), if_pos (show (0 : Int) ≤ (i : Int) by omega), hn, hlen, hrd i hlt, wrap64_id (n := (((X i).v : Nat) : Int)) (by omega) (by omega), Int.toNat_natCast, hset]
        have := l1 i hlt (ih (i + 1) (by omega) (by omega)) i 0 (by omega) (by omega)
        rw [LA.Wi_zero, LA.Fld.mul_one] at this
        exact this
      · exact fin' i hlt hi
  have := l0 n 0 (by omega) (by omega)
  rw [List.take_zero, List.nil_append, Nat.sub_zero] at this
  exact this
end Go.Proofs.Ytidogckochpbgaa.Pure
