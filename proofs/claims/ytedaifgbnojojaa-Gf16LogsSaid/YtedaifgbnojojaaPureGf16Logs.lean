/-
Gf16Logs: for every a, b and int n: Log and Exp of the tables lead back, logarithms of products are sums modulo 65535. No condition.
-/
import Derived.Test.YtedaifgbnojojaaTab16
import Derived.Test.YtedaifgbnojojaaQx3
namespace Go.Proofs.Ytedaifgbnojojaa.Pure
open Go.RowKit Go.Proofs.Ytedaifgbnojojaa.Q Go.Proofs.YtedaifgbnojojaaW.PrintWords Go.Proofs.YtedaifgbnojojaaW.PrintLast Go.Proofs.YtedaifgbnojojaaW.PrintMore Go.Proofs.Ytedaifgbnojojaa.R GP
set_option linter.unusedVariables false
set_option linter.unusedSimpArgs false

theorem res_eq (n : Int) : ((res n : Nat) : Int) = n % 65535 := by
  have := res_bound n
  have h1 : Int.tmod n 65535 = n - 65535 * Int.tdiv n 65535 := by have := Int.mul_tdiv_add_tmod n 65535; omega
  unfold res
  generalize Int.tdiv n 65535 = q at h1
  split <;> omega
theorem tmod_cong {e n : Int} (he : 0 ≤ e) (he2 : e < 65535) (h : e = n % 65535) : Int.tmod (wrap64 (e - Int.tmod n 65535)) 65535 = 0 := by
  have := res_bound n
  have h1 : Int.tmod n 65535 = n - 65535 * Int.tdiv n 65535 := by have := Int.mul_tdiv_add_tmod n 65535; omega
  rw [wrap64_id (by omega) (by omega)]
  generalize Int.tdiv n 65535 = q at h1
  have : e - Int.tmod n 65535 = 0 ∨ e - Int.tmod n 65535 = 65535 := by omega
  rcases this with k | k <;> rw [k] <;> rfl
theorem res_id {i : Nat} (h : i < 65535) : res ((i : Nat) : Int) = i := by
  have := res_eq (i : Int)
  omega
theorem log_zero {a : Int} (h : a = 0) : gf16_Tables_Log.f a = some (0, 20) := by rw [h]; exact TLog16_zero
theorem mul_zero {a b : Nat} (ha : a < 65536) (hb : b < 65536) (h : m16 a b = 0) : gf16_Tables_Mul.f a b = some 0 := by rw [TMul16 ha hb, h]; rfl
theorem logs_00 {a b : Int} (ha : a = 0) (hb : b = 0) (hm : gf16_Tables_Mul.f a b = some 0) : Ev (fun k => culletlaw03_Gf16Logs.j1 k a b false) true := by
  refine Ev.step (fun k => culletlaw03_Gf16Logs.j1.eq_2 _ _ _ k) ?_
  simp only [Bool.false_eq_true, if_false, log_zero ha, log_zero hb, Option.bind_some, if_pos ha]
  refine Ev.step (fun k => culletlaw03_Gf16Logs.j2.eq_2 _ _ _ _ _ _ _ k) ?_
  simp only [if_true, if_pos ha, if_pos hb, hm, Option.bind_some, beq_self_eq_true]
  exact Ev.now _
theorem logs_0b {a b : Int} {j : Int} (ha : a = 0) (hb : ¬ b = 0) (hl : gf16_Tables_Log.f b = some (j, 0)) (hm : gf16_Tables_Mul.f a b = some 0) : Ev (fun k => culletlaw03_Gf16Logs.j1 k a b false) true := by
  refine Ev.step (fun k => culletlaw03_Gf16Logs.j1.eq_2 _ _ _ k) ?_
  simp only [Bool.false_eq_true, if_false, log_zero ha, hl, Option.bind_some, if_pos ha]
  refine Ev.step (fun k => culletlaw03_Gf16Logs.j2.eq_2 _ _ _ _ _ _ _ k) ?_
  simp only [if_true, if_pos ha, if_neg hb, hm, Option.bind_some, beq_self_eq_true]
  exact Ev.now _
theorem logs_a0 {a b : Int} {i : Int} (ha : ¬ a = 0) (hb : b = 0) (hl : gf16_Tables_Log.f a = some (i, 0)) (hm : gf16_Tables_Mul.f a b = some 0) : Ev (fun k => culletlaw03_Gf16Logs.j1 k a b false) true := by
  refine Ev.step (fun k => culletlaw03_Gf16Logs.j1.eq_2 _ _ _ k) ?_
  have hz : (b == 0) = true := beq_iff_eq.2 hb
  simp only [Bool.false_eq_true, if_false, log_zero hb, hl, Option.bind_some, if_neg ha, hz]
  refine Ev.step (fun k => culletlaw03_Gf16Logs.j2.eq_2 _ _ _ _ _ _ _ k) ?_
  simp only [if_true, if_neg ha, if_pos hb, hm, Option.bind_some, beq_self_eq_true]
  exact Ev.now _
theorem logs_ab {a b i j p l s : Int} (ha : ¬ a = 0) (hb : ¬ b = 0) (hi : gf16_Tables_Log.f a = some (i, 0)) (hj : gf16_Tables_Log.f b = some (j, 0)) (hp : Ev (fun k => gf16_Mul.f k a b) p) (hl : gf16_Tables_Log.f p = some (l, 0)) (hx : gf16_Tables_Exp.f i = some a)
    (hs : wrap64 (i + j) = s) (ht : l = Int.tmod s 65535) (hm : gf16_Tables_Mul.f a b = some p) (hy : gf16_Tables_Exp.f s = some p) : Ev (fun k => culletlaw03_Gf16Logs.j1 k a b false) true := by
  refine Ev.step (fun k => culletlaw03_Gf16Logs.j1.eq_2 _ _ _ k) ?_
  have hz : (b == 0) = false := beq_eq_false_iff_ne.2 hb
  simp only [Bool.false_eq_true, if_false, hi, hj, Option.bind_some, if_neg ha, hz]
  refine Ev.step (fun k => culletlaw03_Gf16Logs.j2.eq_2 _ _ _ _ _ _ _ k) ?_
  simp only [Bool.false_eq_true, if_false]
  refine Ev.bind hp ?_
  simp only [hl, Option.bind_some, if_true, hx, hs, if_pos ht, hm, hy, beq_self_eq_true]
  exact Ev.now _
theorem logs_j1 {a b : Nat} (ha : a < 65536) (hb : b < 65536) : Ev (fun k => culletlaw03_Gf16Logs.j1 k a b false) true := by
  by_cases h0 : a = 0
  · have hm := mul_zero ha hb (by rw [h0, m16_comm, m16_zero])
    by_cases h1 : b = 0
    · exact logs_00 (by omega) (by omega) hm
    · obtain ⟨j, hj, ej, lj⟩ := log16 hb h1
      exact logs_0b (by omega) (by omega) (TLog16 hj ej) hm
  · obtain ⟨i, hi, ei, li⟩ := log16 ha h0
    by_cases h1 : b = 0
    · exact logs_a0 (by omega) (by omega) (TLog16 hi ei) (mul_zero ha hb (by rw [h1, m16_zero]))
    · obtain ⟨j, hj, ej, lj⟩ := log16 hb h1
      have ep : tab16.pw ((i + j) % 65535) = m16 a b := by rw [pw16_mod, pw16_add, ei, ej]
      have hy : gf16_Tables_Exp.f ((i + j : Nat) : Int) = some ((m16 a b : Nat) : Int) := by
        rw [TExp16]
        have : res ((i + j : Nat) : Int) = (i + j) % 65535 := by have := res_eq ((i + j : Nat) : Int); omega
        rw [this, ep]
      refine logs_ab (l := (((i + j) % 65535 : Nat) : Int)) (s := ((i + j : Nat) : Int)) (by omega) (by omega) (TLog16 hi ei) (TLog16 hj ej) (Mul16 ha hb) (TLog16 (Nat.mod_lt _ (by decide)) ep) ?_ ?_ ?_ (TMul16 ha hb) hy
      · rw [TExp16, res_id hi, ei]
      · rw [wrap64_id (by omega) (by omega)]; omega
      · rw [Int.tmod_eq_emod_of_nonneg (by omega)]; omega
theorem Gf16Logs : culletlaw03_Gf16Logs.Pure := by
  intro x y n hx hy hn
  obtain ⟨a, rfl, ha⟩ := of_u16 hx
  obtain ⟨b, rfl, hb⟩ := of_u16 hy
  have hnb : -9223372036854775808 ≤ n ∧ n ≤ 9223372036854775807 := by
    simp only [Lit.wf, IntKind.min, IntKind.max, IntKind.signed, IntKind.bits, Bool.and_eq_true, decide_eq_true_eq, if_true] at hn
    omega
  apply Ev.rounds
  unfold culletlaw03_Gf16Logs.f gf16_New.f
  have hr := res_lt n
  have h1 : gf16_Tables_Exp.f 1 = some 2 := by
    rw [TExp16, show res 1 = 1 from res_id (i := 1) (by decide)]; rfl
  have hp := tab16.pw_lt (res n)
  have h0 := pw16_ne (res n)
  simp only [Option.bind_some, h1, if_true, TExp16 n, TLog16 hr rfl, if_neg (show ¬ ((res n : Nat) : Int) < 0 by omega), if_neg (show ¬ ((res n : Nat) : Int) > 65534 by omega), tmod_cong (e := ((res n : Nat) : Int)) (n := n) (by omega) (by omega) (res_eq n)]
  have hz : (((tab16.pw (res n) : Nat) : Int) == 0) = false := beq_eq_false_iff_ne.2 (by omega)
  rw [hz]
  refine Ev.step (fun k => culletlaw03_Gf16Logs.j0.eq_2 _ _ _ _ _ k) ?_
  simp only [Bool.false_eq_true, if_false]
  by_cases hl : n < 4611686018427387904
  · have hre : res (wrap64 (n + 65535)) = res n := by
      rw [wrap64_id (by omega) (by omega)]
      have e1 := res_eq (n + 65535); have e2 := res_eq n
      omega
    simp only [if_pos hl, TExp16, hre, Option.bind_some, bne_self_eq_false]
    exact logs_j1 ha hb
  · simp only [if_neg hl]
    exact logs_j1 ha hb
end Go.Proofs.Ytedaifgbnojojaa.Pure
