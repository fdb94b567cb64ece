-- Printed for this claim by mp.py, a program of its prover, through the kit's print. Lean checks it.
import Derived.Test.YtedaifgbnojojaaAx0
import Derived.Test.YtedaifgbnojojaaAx1
namespace Go.Proofs.Ytedaifgbnojojaa.A
open Go.RowKit Go.Proofs.YtedaifgbnojojaaW.PrintWords Go.Proofs.YtedaifgbnojojaaW.PrintLast Go.Proofs.YtedaifgbnojojaaW.PrintMore
attribute [local go_sem] max2_int min2_int max_two min_two max_three min_three max_four min_four   -- for this text's walks alone
set_option linter.unusedVariables false
set_option linter.unusedSimpArgs false

/-! ### gf16_Trace: function 30 -/
def gf16_Trace.l0 : Nat → Int → Int → Int → Option (Int)
  | 0, _, _, _ => none
  | k + 1, x0, x3, x4 => if x4 < 16 then ((gf16_Mul.f k x0 x0).bind fun t114 => (gf16_Trace.l0 k t114 (Go.bits .xor .u16 x3 x0) (wrap64 (x4 + 1)))) else (some (wrap64 (x3)))
def gf16_Trace.f (k : Nat) (a0 : Int) : Option (Int) := gf16_Trace.l0 k a0 0 0
theorem gf16_Trace.mono_l : ∀ k, (∀ y0 y1 y2, LeO (gf16_Trace.l0 k y0 y1 y2) (gf16_Trace.l0 (k + 1) y0 y1 y2))
  | 0 => fun _ _ _ r h => by simp [gf16_Trace.l0] at h
  | k + 1 => by
    have ih0 := gf16_Trace.mono_l k
    · intro y0 y1 y2
      unfold gf16_Trace.l0
      repeat' first
      | (with_reducible exact ih0 _ _ _)
      | (with_reducible exact gf16_Mul.mono _ _ _)
      | (with_reducible exact LeO.refl _)
      | (with_reducible exact LeO.none _)
      | (with_reducible refine LeO.ite ?_ ?_)
      | (with_reducible refine LeO.bind ?_ (fun _ => ?_))
      | exact ih0 _ _ _
      | exact gf16_Mul.mono _ _ _
      | exact LeO.none _
      | refine LeO.ite ?_ ?_
      | refine LeO.bind ?_ (fun _ => ?_)
theorem gf16_Trace.mono : ∀ a0 k, LeO (gf16_Trace.f k a0) (gf16_Trace.f (k + 1) a0) := by
  intro a0 k
  have ih0 := gf16_Trace.mono_l k
  unfold gf16_Trace.f
  repeat' first
      | (with_reducible exact ih0 _ _ _)
      | (with_reducible exact gf16_Mul.mono _ _ _)
      | (with_reducible exact LeO.refl _)
      | (with_reducible exact LeO.none _)
      | (with_reducible refine LeO.ite ?_ ?_)
      | (with_reducible refine LeO.bind ?_ (fun _ => ?_))
      | exact ih0 _ _ _
      | exact gf16_Mul.mono _ _ _
      | exact LeO.none _
      | refine LeO.ite ?_ ?_
      | refine LeO.bind ?_ (fun _ => ?_)
set_option maxHeartbeats 8000000 in
set_option maxRecDepth 100000 in
theorem gf16_Trace.calls (k : Nat) (a0 : Int) (r : Int) (w : World) (h : gf16_Trace.f k a0 = some r) :
    Calls Try.prog 30 #[.int .u16 a0] w fun e w' => e = .returned (.int .i64 r) ∧ Drawn0 w w' := by
  have H : (gf16_Trace.l0 k a0 0 0) = some r := h
  clear h
  have H' := Aside0.mk H
  clear H
  go_enter Try.func30, Try.ntmps30
  go_wp2
  go_loopg [0, 3, 4] k (fun kq v0 v3 v4 w' => ∃ (x0_1 : Int) (x3_1 : Int) (x4_1 : Int), v0 = .int .u16 x0_1 ∧ v3 = .int .u16 x3_1 ∧ v4 = .int .i64 x4_1 ∧ Aside0 (gf16_Trace.l0 kq x0_1 x3_1 x4_1 = some r) ∧ Aside0 (kq ≤ k) ∧ Drawn0 w w')
  case atStart => exact ⟨(a0), (0), (0), (by first | rfl | (simp; done) | (simp [*]; done)), (by first | rfl | (simp; done) | (simp [*]; done)), (by first | rfl | (simp; done) | (simp [*]; done)), H', ⟨Nat.le_refl _⟩, by repeat (first | exact Drawn0.refl _ | apply Drawn0.step)⟩
  case round =>
    clear H'
    obtain ⟨x0_1, x3_1, x4_1, rfl, rfl, rfl, HA, HK1, ⟨m1, rfl⟩⟩ := hrel
    cases gk with
    | zero => exact absurd HA.out (by simp [gf16_Trace.l0])
    | succ k1 =>
      have H := HA.out
      clear HA
      simp only [gf16_Trace.l0] at H
      by_cases c2 : x4_1 < 16
      · rw [if_pos c2] at H
        have c2b0 : decide (x4_1 < 16) = true := decide_eq_true c2
        clear c2
        replace H := Option.bind_eq_some_iff.mp H
        obtain ⟨t114, A30, H⟩ := H
        replace H : (gf16_Trace.l0 k1 t114 (Go.bits .xor .u16 x3_1 x0_1) (wrap64 (x4_1 + 1))) = some r := H
        have A3 := Aside0.mk A30
        clear A30
        have H' := Aside0.mk H
        clear H
        go_wp2_with (first | ((with_reducible refine gate_callee (f := 18) rfl ?_); refine goesL_ (some 11) rfl rfl Try.func18 (by kernel_rfl) rfl #[.int .u16 x0_1, .int .u16 x0_1] rfl (by (try simp only [List.map_toArray, List.map_cons, List.map_nil]); first | done | rfl | (simp only [tb_wrap8]; done) | (simp only [tb_wrap8]; rfl) | (simp only [List.length_drop, List.length_take]; rfl)) ?_; (with_reducible refine (gf16_Mul.calls k1 x0_1 x0_1 t114 _ A3.out).mono ?_); rintro e w' ⟨rfl, ⟨nd, rfl⟩⟩; refine ⟨_, rfl, ?_⟩))
        go_roundg k1
        case measure => have := HK1.out; omega
        case rel => exact ⟨(t114), (Go.bits .xor .u16 x3_1 x0_1), (wrap64 (x4_1 + 1)), (by first | rfl | (simp; done) | (simp [*]; done)), (by first | rfl | (simp; done) | (simp [*]; done)), (by first | rfl | (simp; done) | (simp [*]; done)), H', ⟨by have := HK1.out; omega⟩, by repeat (first | exact Drawn0.refl _ | apply Drawn0.step)⟩
      · rw [if_neg c2] at H
        have c2b0 : decide (x4_1 < 16) = false := decide_eq_false c2
        clear c2
        obtain rfl := Option.some.inj H
        go_wp2
        go_ret
        exact ⟨by first | rfl | (simp; done) | (simp [*]; done), by repeat (first | exact Drawn0.refl _ | apply Drawn0.step)⟩

/-! ### gf16_indices: function 49 -/
theorem run_index_array {P : Program} {t e : TypeId} {n : Nat} {cs : Array Value} {k : IntKind} {i : Int} {v : Value} (w : World) (h : P.underlying t = some (.array n e)) (ha : ∀ w, (isAgg e).run P w = .ok false w) (hs : ∀ w, (sizeOf e).run P w = .ok 1 w) (h0 : 0 ≤ i) (h1 : i < n) (hv : cs[i.toNat]? = some v) :
    (Instr.index t (.agg cs) (.int k i)).run P w = .ok v w := by
  simp [Instr.index, run_underlying h, asIntOf, h0, h1, go_sem, part, ha, hs, hv]
/-- The array that gf16_indices answers. -/
def gf16_indices.L : List Int := [1, 18064, 26072, 25296, 22324, 17904, 21432, 7736, 31918, 20024, 26376, 49756, 31332, 40620, 4388, 21050]
def gf16_indices.V : Array Value := (gf16_indices.L.map (Value.int .i64)).toArray
theorem gf16_indices.get (k : Nat) (h : k < 16) : gf16_indices.V[k]? = some (.int .i64 (gf16_indices.L.getD k 0)) := by
  have : k < gf16_indices.L.length := h
  simp [gf16_indices.V, List.getElem?_eq_getElem this]
set_option maxHeartbeats 4000000 in
set_option maxRecDepth 100000 in
theorem gf16_indices.calls (w : World) : Calls Try.prog 49 #[] w fun e w' => e = .returned (.agg gf16_indices.V) ∧ Below w.heap.size w w' := by
  go_enter Try.func49, Try.ntmps49
  go_wp2
  exact bodyPost_ret (v := .agg gf16_indices.V) (by simp [results, Try.results49, go_sem, gf16_indices.V, gf16_indices.L]) rfl ⟨rfl, (Below.refl _ _).alloc (Nat.le_refl _) _⟩

/-! ### gf16_Index: function 23 -/
/-- What gf16_Index sums up. -/
def gf16_Index.sum (i : Int) : Nat → Int
  | 0 => 0
  | n + 1 => if Go.bits .and .u16 (i / 2 ^ n) 1 = 1 then Go.bits .xor .i64 (gf16_Index.sum i n) (gf16_indices.L.getD n 0) else gf16_Index.sum i n
def gf16_Index.f (a0 : Int) : Option (Int) := if 0 ≤ a0 then (if a0 ≤ 65535 then (some (gf16_Index.sum a0 16)) else none) else none
set_option maxHeartbeats 4000000 in
set_option maxRecDepth 100000 in
theorem gf16_Index.calls (a0 : Int) (r : Int) (w : World) (h : gf16_Index.f a0 = some r) :
    Calls Try.prog 23 #[.int .u16 a0] w fun e w' => e = .returned (.int .i64 r) ∧ Below w.heap.size w w' := by
  unfold gf16_Index.f at h
  by_cases h0 : 0 ≤ a0
  · rw [if_pos h0] at h
    by_cases h1 : a0 ≤ 65535
    · rw [if_pos h1] at h
      have hr := Option.some.inj h
      clear h
      have HR := Aside0.mk hr
      clear hr
      go_enter Try.func23, Try.ntmps23
      go_wp2_with (first | (go_at_call 49; refine (gf16_indices.calls _).mono ?_; rintro e w1 ⟨rfl, hb1⟩))
      go_loop [3, 7] (fun s c => ∃ k : Nat, k ≤ 16 ∧ c = .int .i64 k ∧ s = .int .i64 (gf16_Index.sum a0 k)) (fun _ c => 16 - (intOf c).toNat)
      case atStart => exact ⟨0, by omega, rfl, rfl⟩
      case round =>
        obtain ⟨k, hk, rfl, rfl⟩ := hrel
        by_cases hlt : k < 16
        · have hx := run_index_array (P := Try.prog) (t := 73) (k := .i64) (i := (k : Int)) w1 Try.underlying73 (fun _ => by kernel_rfl) (fun _ => by kernel_rfl) (by omega) (by omega) (by rw [Int.toNat_natCast]; exact gf16_indices.get k hlt)
          have hs : gf16_Index.sum a0 (k + 1) = if Go.bits .and .u16 (a0 / 2 ^ k) 1 = 1 then Go.bits .xor .i64 (gf16_Index.sum a0 k) (gf16_indices.L.getD k 0) else gf16_Index.sum a0 k := rfl
          have HS := Aside0.mk hs
          clear hs
          by_cases hb : Go.bits .and .u16 (a0 / 2 ^ k) 1 = 1
          · have hbb : (Go.bits .and .u16 (a0 / 2 ^ k) 1 == 1) = true := beq_iff_eq.2 hb
            have HB := Aside0.mk hb
            clear hb
            go_wp2
            go_round
            case rel => exact ⟨k + 1, by omega, by go_num, by rw [HS.out, if_pos HB.out]; first | rfl | simp⟩
            case measure => simp [intOf]; omega
          · have hbb : (Go.bits .and .u16 (a0 / 2 ^ k) 1 == 1) = false := beq_eq_false_iff_ne.2 hb
            have HB := Aside0.mk hb
            clear hb
            go_wp2
            go_round
            case rel => exact ⟨k + 1, by omega, by go_num, by rw [HS.out, if_neg HB.out]⟩
            case measure => simp [intOf]; omega
        · have hd : decide ((k : Int) < 16) = false := decide_eq_false (by omega)
          go_wp2
          go_ret
          have hk16 : k = 16 := by omega
          exact ⟨by rw [hk16, HR.out]; first | done | rfl, hb1⟩
    · rw [if_neg h1] at h; exact absurd h (by simp)
  · rw [if_neg h0] at h; exact absurd h (by simp)

/-! ### gf16_basis: function 58 -/
/-- The array that gf16_basis answers. -/
def gf16_basis.L : List Int := [1, 44234, 15374, 5694, 50562, 60718, 37196, 16402, 27800, 4312, 27250, 47360, 64952, 64308, 65336, 39198]
def gf16_basis.V : Array Value := (gf16_basis.L.map (Value.int .u16)).toArray
theorem gf16_basis.get (k : Nat) (h : k < 16) : gf16_basis.V[k]? = some (.int .u16 (gf16_basis.L.getD k 0)) := by
  have : k < gf16_basis.L.length := h
  simp [gf16_basis.V, List.getElem?_eq_getElem this]
set_option maxHeartbeats 4000000 in
set_option maxRecDepth 100000 in
theorem gf16_basis.calls (w : World) : Calls Try.prog 58 #[] w fun e w' => e = .returned (.agg gf16_basis.V) ∧ Below w.heap.size w w' := by
  go_enter Try.func58, Try.ntmps58
  go_wp2
  exact bodyPost_ret (v := .agg gf16_basis.V) (by simp [results, Try.results58, go_sem, gf16_basis.V, gf16_basis.L]) rfl ⟨rfl, (Below.refl _ _).alloc (Nat.le_refl _) _⟩

/-! ### gf16_element: function 48 -/
/-- What gf16_element sums up. -/
def gf16_element.sum (i : Int) : Nat → Int
  | 0 => 0
  | n + 1 => if Go.bits .and .i64 (i / 2 ^ n) 1 = 1 then Go.bits .xor .u16 (gf16_element.sum i n) (gf16_basis.L.getD n 0) else gf16_element.sum i n
def gf16_element.f (a0 : Int) : Option (Int) := if 0 ≤ a0 then (if a0 ≤ 65535 then (some (gf16_element.sum a0 16)) else none) else none
set_option maxHeartbeats 4000000 in
set_option maxRecDepth 100000 in
theorem gf16_element.calls (a0 : Int) (r : Int) (w : World) (h : gf16_element.f a0 = some r) :
    Calls Try.prog 48 #[.int .i64 a0] w fun e w' => e = .returned (.int .u16 r) ∧ Below w.heap.size w w' := by
  unfold gf16_element.f at h
  by_cases h0 : 0 ≤ a0
  · rw [if_pos h0] at h
    by_cases h1 : a0 ≤ 65535
    · rw [if_pos h1] at h
      have hr := Option.some.inj h
      clear h
      have HR := Aside0.mk hr
      clear hr
      go_enter Try.func48, Try.ntmps48
      go_wp2_with (first | (go_at_call 58; refine (gf16_basis.calls _).mono ?_; rintro e w1 ⟨rfl, hb1⟩))
      go_loop [3, 7] (fun s c => ∃ k : Nat, k ≤ 16 ∧ c = .int .i64 k ∧ s = .int .u16 (gf16_element.sum a0 k)) (fun _ c => 16 - (intOf c).toNat)
      case atStart => exact ⟨0, by omega, rfl, rfl⟩
      case round =>
        obtain ⟨k, hk, rfl, rfl⟩ := hrel
        by_cases hlt : k < 16
        · have hx := run_index_array (P := Try.prog) (t := 79) (k := .i64) (i := (k : Int)) w1 Try.underlying79 (fun _ => by kernel_rfl) (fun _ => by kernel_rfl) (by omega) (by omega) (by rw [Int.toNat_natCast]; exact gf16_basis.get k hlt)
          have hs : gf16_element.sum a0 (k + 1) = if Go.bits .and .i64 (a0 / 2 ^ k) 1 = 1 then Go.bits .xor .u16 (gf16_element.sum a0 k) (gf16_basis.L.getD k 0) else gf16_element.sum a0 k := rfl
          have HS := Aside0.mk hs
          clear hs
          by_cases hb : Go.bits .and .i64 (a0 / 2 ^ k) 1 = 1
          · have hbb : (Go.bits .and .i64 (a0 / 2 ^ k) 1 == 1) = true := beq_iff_eq.2 hb
            have HB := Aside0.mk hb
            clear hb
            go_wp2
            go_round
            case rel => exact ⟨k + 1, by omega, by go_num, by rw [HS.out, if_pos HB.out]; first | rfl | simp⟩
            case measure => simp [intOf]; omega
          · have hbb : (Go.bits .and .i64 (a0 / 2 ^ k) 1 == 1) = false := beq_eq_false_iff_ne.2 hb
            have HB := Aside0.mk hb
            clear hb
            go_wp2
            go_round
            case rel => exact ⟨k + 1, by omega, by go_num, by rw [HS.out, if_neg HB.out]⟩
            case measure => simp [intOf]; omega
        · have hd : decide ((k : Int) < 16) = false := decide_eq_false (by omega)
          go_wp2
          go_ret
          have hk16 : k = 16 := by omega
          exact ⟨by rw [hk16, HR.out]; first | done | rfl, hb1⟩
    · rw [if_neg h1] at h; exact absurd h (by simp)
  · rw [if_neg h0] at h; exact absurd h (by simp)

/-! ### gf16_Root: function 52 -/
def gf16_Root.f (a0 : Int) : Option (Int × Int) := (gf16_Index.f a0).bind fun t115 => (if t115 > 32767 then (some (0, 30)) else ((gf16_element.f (wrap64 (2 * t115))).bind fun t116 => (some (Go.bits .andNot .u16 t116 1, 0))))
set_option maxHeartbeats 8000000 in
set_option maxRecDepth 100000 in
theorem gf16_Root.calls (a0 : Int) (r1 : Int) (r2 : Int) (w : World) (h : gf16_Root.f a0 = some (r1, r2)) :
    Calls Try.prog 52 #[.int .u16 a0] w fun e w' => e = .returned (.tuple #[.int .u16 r1, .int .i64 r2]) ∧ Below w.heap.size w w' := by
  have HB := Aside0.mk (Below.refl w.heap.size w)
  have H : ((gf16_Index.f a0).bind fun t115 => (if t115 > 32767 then (some (0, 30)) else ((gf16_element.f (wrap64 (2 * t115))).bind fun t116 => (some (Go.bits .andNot .u16 t116 1, 0))))) = some (r1, r2) := h
  clear h
  replace H := Option.bind_eq_some_iff.mp H
  obtain ⟨t115, A20, H⟩ := H
  replace H : (if t115 > 32767 then (some (0, 30)) else ((gf16_element.f (wrap64 (2 * t115))).bind fun t116 => (some (Go.bits .andNot .u16 t116 1, 0)))) = some (r1, r2) := H
  have A2 := Aside0.mk A20
  clear A20
  by_cases c3 : t115 > 32767
  · rw [if_pos c3] at H
    have c3b0 : decide (32767 < t115) = true := decide_eq_true c3
    clear c3
    simp only [Option.some.injEq, Prod.mk.injEq] at H
    obtain ⟨rfl, rfl⟩ := H
    go_enter Try.func52, Try.ntmps52
    go_wp2_with (first | ((with_reducible refine gate_callee (f := 23) rfl ?_); refine goesL_ (some 6) rfl rfl Try.func23 (by kernel_rfl) rfl #[.int .u16 a0] rfl (by (try simp only [List.map_toArray, List.map_cons, List.map_nil]); first | done | rfl | (simp only [tb_wrap8]; done) | (simp only [tb_wrap8]; rfl) | (simp only [List.length_drop, List.length_take]; rfl)) ?_; (with_reducible refine (gf16_Index.calls a0 t115 _ A2.out).mono ?_); rintro e w4 ⟨rfl, hb⟩; refine ⟨_, rfl, ?_⟩; have n0_ := Aside0.mk (below_step (by repeat (first | (with_reducible first | exact HB.out | apply below_alloc | apply pw_below_drewN | apply below_drew1) | exact HB.out)) hb); clear HB; have HB := n0_; clear n0_; (try clear hb); (try clear hb2); (try clear hk); (try clear hi)))
    go_ret2
    exact ⟨by first | rfl | (simp [errW_none, errW_some] <;> rfl) | (simp [*, errW_none, errW_some] <;> rfl), by repeat (first | (with_reducible first | exact HB.out | apply below_alloc | apply pw_below_drewN | apply below_drew1) | exact HB.out)⟩
  · rw [if_neg c3] at H
    have c3b0 : decide (32767 < t115) = false := decide_eq_false c3
    clear c3
    replace H := Option.bind_eq_some_iff.mp H
    obtain ⟨t116, A50, H⟩ := H
    replace H : (some (Go.bits .andNot .u16 t116 1, 0)) = some (r1, r2) := H
    have A5 := Aside0.mk A50
    clear A50
    simp only [Option.some.injEq, Prod.mk.injEq] at H
    obtain ⟨rfl, rfl⟩ := H
    go_enter Try.func52, Try.ntmps52
    go_wp2_with (first | ((with_reducible refine gate_callee (f := 23) rfl ?_); refine goesL_ (some 6) rfl rfl Try.func23 (by kernel_rfl) rfl #[.int .u16 a0] rfl (by (try simp only [List.map_toArray, List.map_cons, List.map_nil]); first | done | rfl | (simp only [tb_wrap8]; done) | (simp only [tb_wrap8]; rfl) | (simp only [List.length_drop, List.length_take]; rfl)) ?_; (with_reducible refine (gf16_Index.calls a0 t115 _ A2.out).mono ?_); rintro e w6 ⟨rfl, hb⟩; refine ⟨_, rfl, ?_⟩; have n0_ := Aside0.mk (below_step (by repeat (first | (with_reducible first | exact HB.out | apply below_alloc | apply pw_below_drewN | apply below_drew1) | exact HB.out)) hb); clear HB; have HB := n0_; clear n0_; (try clear hb); (try clear hb2); (try clear hk); (try clear hi)) | ((with_reducible refine gate_callee (f := 48) rfl ?_); refine goesL_ (some 11) rfl rfl Try.func48 (by kernel_rfl) rfl #[.int .i64 (wrap64 (2 * t115))] rfl (by (try simp only [List.map_toArray, List.map_cons, List.map_nil]); first | done | rfl | (simp only [tb_wrap8]; done) | (simp only [tb_wrap8]; rfl) | (simp only [List.length_drop, List.length_take]; rfl)) ?_; (with_reducible refine (gf16_element.calls (wrap64 (2 * t115)) t116 _ A5.out).mono ?_); rintro e w7 ⟨rfl, hb⟩; refine ⟨_, rfl, ?_⟩; have n0_ := Aside0.mk (below_step (by repeat (first | (with_reducible first | exact HB.out | apply below_alloc | apply pw_below_drewN | apply below_drew1) | exact HB.out)) hb); clear HB; have HB := n0_; clear n0_; (try clear hb); (try clear hb2); (try clear hk); (try clear hi)))
    go_ret2
    exact ⟨by first | rfl | (simp [errW_none, errW_some] <;> rfl) | (simp [*, errW_none, errW_some] <;> rfl), by repeat (first | (with_reducible first | exact HB.out | apply below_alloc | apply pw_below_drewN | apply below_drew1) | exact HB.out)⟩

/-! ### gf16_Element: function 22 -/
def gf16_Element.f (a0 : Int) : Option (Int × Int) := if a0 < 0 then (some (0, 31)) else (if a0 > 65535 then (some (0, 31)) else ((gf16_element.f a0).bind fun t117 => (some (t117, 0))))
set_option maxHeartbeats 8000000 in
set_option maxRecDepth 100000 in
theorem gf16_Element.calls (a0 : Int) (r1 : Int) (r2 : Int) (w : World) (h : gf16_Element.f a0 = some (r1, r2)) :
    Calls Try.prog 22 #[.int .i64 a0] w fun e w' => e = .returned (.tuple #[.int .u16 r1, .int .i64 r2]) ∧ Below w.heap.size w w' := by
  have HB := Aside0.mk (Below.refl w.heap.size w)
  have H : (if a0 < 0 then (some (0, 31)) else (if a0 > 65535 then (some (0, 31)) else ((gf16_element.f a0).bind fun t117 => (some (t117, 0))))) = some (r1, r2) := h
  clear h
  by_cases c2 : a0 < 0
  · rw [if_pos c2] at H
    have c2b0 : decide (a0 < 0) = true := decide_eq_true c2
    clear c2
    simp only [Option.some.injEq, Prod.mk.injEq] at H
    obtain ⟨rfl, rfl⟩ := H
    go_enter Try.func22, Try.ntmps22
    go_wp2
    go_ret2
    exact ⟨by first | rfl | (simp [errW_none, errW_some] <;> rfl) | (simp [*, errW_none, errW_some] <;> rfl), by repeat (first | (with_reducible first | exact HB.out | apply below_alloc | apply pw_below_drewN | apply below_drew1) | exact HB.out)⟩
  · rw [if_neg c2] at H
    have c2b0 : decide (a0 < 0) = false := decide_eq_false c2
    clear c2
    by_cases c3 : a0 > 65535
    · rw [if_pos c3] at H
      have c3b0 : decide (65535 < a0) = true := decide_eq_true c3
      clear c3
      simp only [Option.some.injEq, Prod.mk.injEq] at H
      obtain ⟨rfl, rfl⟩ := H
      go_enter Try.func22, Try.ntmps22
      go_wp2
      go_ret2
      exact ⟨by first | rfl | (simp [errW_none, errW_some] <;> rfl) | (simp [*, errW_none, errW_some] <;> rfl), by repeat (first | (with_reducible first | exact HB.out | apply below_alloc | apply pw_below_drewN | apply below_drew1) | exact HB.out)⟩
    · rw [if_neg c3] at H
      have c3b0 : decide (65535 < a0) = false := decide_eq_false c3
      clear c3
      replace H := Option.bind_eq_some_iff.mp H
      obtain ⟨t117, A40, H⟩ := H
      replace H : (some (t117, 0)) = some (r1, r2) := H
      have A4 := Aside0.mk A40
      clear A40
      simp only [Option.some.injEq, Prod.mk.injEq] at H
      obtain ⟨rfl, rfl⟩ := H
      go_enter Try.func22, Try.ntmps22
      go_wp2_with (first | ((with_reducible refine gate_callee (f := 48) rfl ?_); refine goesL_ (some 11) rfl rfl Try.func48 (by kernel_rfl) rfl #[.int .i64 a0] rfl (by (try simp only [List.map_toArray, List.map_cons, List.map_nil]); first | done | rfl | (simp only [tb_wrap8]; done) | (simp only [tb_wrap8]; rfl) | (simp only [List.length_drop, List.length_take]; rfl)) ?_; (with_reducible refine (gf16_element.calls a0 t117 _ A4.out).mono ?_); rintro e w5 ⟨rfl, hb⟩; refine ⟨_, rfl, ?_⟩; have n0_ := Aside0.mk (below_step (by repeat (first | (with_reducible first | exact HB.out | apply below_alloc | apply pw_below_drewN | apply below_drew1) | exact HB.out)) hb); clear HB; have HB := n0_; clear n0_; (try clear hb); (try clear hb2); (try clear hk); (try clear hi)))
      go_ret2
      exact ⟨by first | rfl | (simp [errW_none, errW_some] <;> rfl) | (simp [*, errW_none, errW_some] <;> rfl), by repeat (first | (with_reducible first | exact HB.out | apply below_alloc | apply pw_below_drewN | apply below_drew1) | exact HB.out)⟩

/-! ### gf16_Basis: function 28 -/
def gf16_Basis.f : Option (List Int) := some gf16_basis.L
set_option maxHeartbeats 4000000 in
set_option maxRecDepth 100000 in
theorem gf16_Basis.calls (r : List Int) (w : World) (h : gf16_Basis.f = some r) : Calls Try.prog 28 #[] w fun e w' => ∃ v0_ : Value, e = .returned v0_ ∧ Kd.R (Kd.int .u16) 25 w' w.heap.size (fun _ => True) v0_ r ∧ Below w.heap.size w w' := by
  obtain rfl := Option.some.inj h
  clear h
  go_enter Try.func28, Try.ntmps28
  go_wp2_with (first | (go_at_call 58; refine (gf16_basis.calls _).mono ?_; rintro e w1 ⟨rfl, hb1⟩))
  have hZ : ∃ Z : Array Value, Z.size = 16 ∧ (w1.alloc (Obj.cells #[Value.int IntKind.u16 0, Value.int IntKind.u16 0, Value.int IntKind.u16 0, Value.int IntKind.u16 0, Value.int IntKind.u16 0, Value.int IntKind.u16 0, Value.int IntKind.u16 0, Value.int IntKind.u16 0, Value.int IntKind.u16 0, Value.int IntKind.u16 0, Value.int IntKind.u16 0, Value.int IntKind.u16 0, Value.int IntKind.u16 0, Value.int IntKind.u16 0, Value.int IntKind.u16 0, Value.int IntKind.u16 0] 79)).heap[w1.heap.size]? = some (.cells Z 79 (0, 0)) := by refine ⟨_, ?_, by simpa using heap_alloc_new w1 _⟩; rfl
  have hA := below_alloc hb1 (Obj.cells #[Value.int IntKind.u16 0, Value.int IntKind.u16 0, Value.int IntKind.u16 0, Value.int IntKind.u16 0, Value.int IntKind.u16 0, Value.int IntKind.u16 0, Value.int IntKind.u16 0, Value.int IntKind.u16 0, Value.int IntKind.u16 0, Value.int IntKind.u16 0, Value.int IntKind.u16 0, Value.int IntKind.u16 0, Value.int IntKind.u16 0, Value.int IntKind.u16 0, Value.int IntKind.u16 0, Value.int IntKind.u16 0] 79)
  generalize w1.alloc _ = W at hZ hA ⊢
  obtain ⟨Z, hz, hh⟩ := hZ
  have hst := run_storeCells_cells (P := Try.prog) w1.heap.size 0 gf16_basis.V.toList 0 W (fun j hj => by rw [cell_of_row W _ _ Z 79 (0, 0) hh]; have : j < 16 := hj; simp; omega) (fun j _ => blk_frozen hh _) (by decide)
  rw [hst]
  obtain ⟨cur', h3, h4, h5⟩ := setCells_row gf16_basis.V.toList 0 W Z hh (by rw [hz]; decide)
  obtain ⟨s1, s2, s3, s4⟩ := setCells_same w1.heap.size gf16_basis.V.toList 0 W
  have hcur : cur' = gf16_basis.V := by
    apply Array.toList_inj.1
    rw [h5, List.take_zero, List.nil_append, List.drop_of_length_le (by rw [Array.length_toList, hz]; decide), List.append_nil]
  subst hcur
  have hge := hb1.size
  have hB : Below w.heap.size w (W.setCells w1.heap.size 0 gf16_basis.V.toList) := hA.trans ⟨s1, s2, s3, by rw [s4]; exact Nat.le_refl _, fun k hk => setCells_far _ _ k (by omega)⟩
  simp only [Nat.add_zero]
  generalize W.setCells w1.heap.size 0 gf16_basis.V.toList = W2 at *
  simp only [Result.andThen]
  have hcell : ∀ j u, gf16_basis.V.toList[j]? = some u → W2.cell? ⟨w1.heap.size, 0 + j, none⟩ = some u := by
    intro j u hj
    rw [cell_of_row W2 _ _ _ 79 (0, 0) h3, Nat.zero_add, ← Array.getElem?_toList]
    exact hj
  have hlt : w1.heap.size < W2.heap.size := by have := blk_lt h3; exact this
  go_wp2_with (first | (at_builtin; refine wpList_append_grows _ rfl _ _ 48 rfl 25 Try.t25 (.int .u16 0) 1 2 Try.underlying48 (by kernel_rfl) (by kernel_rfl) (by kernel_rfl) (by kernel_rfl) rfl (by decide) _ 0 0 [] rfl (fun h => ⟨rfl, rfl⟩) rfl (fun _ _ j u hj => by simp at hj) ⟨w1.heap.size, 0, none⟩ 16 16 gf16_basis.V.toList rfl rfl (fun j u hj => by rw [Addr.add_lit, World.cell?_alloc_lt _ _ _ hlt]; exact hcell j u hj) (by decide) (by decide) (by decide) (by decide) ?_; intro v' w' hown hg'))
  go_ret
  have hB2 := below_alloc hB (Obj.cells #[] 25)
  have hs2 := hB2.size
  exact ⟨v', rfl, Kd.R_of_own (own_weaken hown hs2) (fun _ _ => trivial), hB2.grown hg' hs2 (fun k hk => by cases hk)⟩

end Go.Proofs.Ytedaifgbnojojaa.A
