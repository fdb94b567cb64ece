-- Printed for this claim by mp.py, a program of its prover, through the kit's print. Lean checks it.
import Derived.Test.YtklkcenffajfeaaAx0
import Derived.Test.YtklkcenffajfeaaAx1
namespace Go.Proofs.Ytklkcenffajfeaa.A
open Go.RowKit Go.Proofs.YtklkcenffajfeaaW.PrintWords Go.Proofs.YtklkcenffajfeaaW.PrintLast Go.Proofs.YtklkcenffajfeaaW.PrintMore
attribute [local go_sem] max2_int min2_int max_two min_two max_three min_three max_four min_four   -- for this text's walks alone
set_option linter.unusedVariables false
set_option linter.unusedSimpArgs false

/-! ### gf16_Tables_Mul: function 34 -/
def gf16_Tables_Mul.f (a0 a1 : Int) : Option Int := if 0 ≤ a0 ∧ a0 ≤ 65535 ∧ 0 ≤ a1 ∧ a1 ≤ 65535 then (if a0 = 0 then some 0 else if a1 = 0 then some 0 else (tab16.lg 65535 a0.toNat).bind fun la => (tab16.lg 65535 a1.toNat).bind fun lb => some ((tab16.pw ((la + lb) % 65535) : Nat) : Int)) else none
set_option maxHeartbeats 4000000 in
set_option maxRecDepth 100000 in
theorem gf16_Tables_Mul.calls (g : Nat) (a0 a1 r : Int) (w : World) (hI : IsS69 w w g) (h : gf16_Tables_Mul.f a0 a1 = some r) : Calls Try.prog 34 #[.pointer (some ⟨g, 0, none⟩), .int .u16 a0, .int .u16 a1] w fun e w' => e = .returned (.int .u16 r) ∧ Drawn0 w w' := by
  unfold gf16_Tables_Mul.f at h
  by_cases hr : 0 ≤ a0 ∧ a0 ≤ 65535 ∧ 0 ≤ a1 ∧ a1 ≤ 65535
  · rw [if_pos hr] at h
    obtain ⟨a, rfl⟩ : ∃ a : Nat, a0 = (a : Int) := ⟨a0.toNat, by omega⟩
    obtain ⟨b, rfl⟩ : ∃ b : Nat, a1 = (b : Int) := ⟨a1.toNat, by omega⟩
    by_cases h0 : (a : Int) = 0
    · rw [if_pos h0] at h
      obtain rfl := Option.some.inj h
      have hz : ((a : Int) == 0) = true := beq_iff_eq.2 h0
      clear h0 h hr
      go_enter Try.func34, Try.ntmps34
      go_wp2
      go_ret
      exact ⟨rfl, Drawn0.refl _⟩
    · rw [if_neg h0] at h
      have hz : ((a : Int) == 0) = false := beq_eq_false_iff_ne.2 h0
      by_cases h1 : (b : Int) = 0
      · rw [if_pos h1] at h
        obtain rfl := Option.some.inj h
        have hz1 : ((b : Int) == 0) = true := beq_iff_eq.2 h1
        clear h0 h h1 hr
        go_enter Try.func34, Try.ntmps34
        go_wp2
        go_ret
        exact ⟨rfl, Drawn0.refl _⟩
      · rw [if_neg h1, Int.toNat_natCast, Int.toNat_natCast] at h
        have hz1 : ((b : Int) == 0) = false := beq_eq_false_iff_ne.2 h1
        obtain ⟨la, hla, h⟩ := Option.bind_eq_some_iff.1 h
        obtain ⟨lb, hlb, h⟩ := Option.bind_eq_some_iff.1 h
        obtain rfl := Option.some.inj h
        have c1 := hI.log hla
        have c2 := hI.log hlb
        have c3 := hI.exp (j := (la + lb) % 65535) (Nat.mod_lt _ (by decide))
        have l1 := tab16.lg_lt _ _ _ hla
        have l2 := tab16.lg_lt _ _ _ hlb
        have ha : a < 65536 := by omega
        have hb : b < 65536 := by omega
        generalize tab16.pw ((la + lb) % 65535) = p at c3 ⊢
        clear hI hla hlb h h0 h1 hr
        go_enter Try.func34, Try.ntmps34
        go_wp2
        go_quiet (fail)
        go_wp2
        go_ret
        exact ⟨rfl, ⟨_, rfl⟩⟩
  · rw [if_neg hr] at h; cases h

/-! ### gf16_basis: function 60 -/
theorem run_index_array {P : Program} {t e : TypeId} {n : Nat} {cs : Array Value} {k : IntKind} {i : Int} {v : Value} (w : World) (h : P.underlying t = some (.array n e)) (ha : ∀ w, (isAgg e).run P w = .ok false w) (hs : ∀ w, (sizeOf e).run P w = .ok 1 w) (h0 : 0 ≤ i) (h1 : i < n) (hv : cs[i.toNat]? = some v) :
    (Instr.index t (.agg cs) (.int k i)).run P w = .ok v w := by
  simp [Instr.index, run_underlying h, asIntOf, h0, h1, go_sem, part, ha, hs, hv]
/-- The array that gf16_basis answers. -/
def gf16_basis.L : List Int := [1, 44234, 15374, 5694, 50562, 60718, 37196, 16402, 27800, 4312, 27250, 47360, 64952, 64308, 65336, 39198]
def gf16_basis.V : Array Value := (gf16_basis.L.map (Value.int .u16)).toArray
theorem gf16_basis.get (k : Nat) (h : k < 16) : gf16_basis.V[k]? = some (.int .u16 (gf16_basis.L.getD k 0)) := by
  have : k < gf16_basis.L.length := h
  simp [gf16_basis.V, List.getElem?_eq_getElem this]
set_option maxHeartbeats 4000000 in
set_option maxRecDepth 100000 in
theorem gf16_basis.calls (w : World) : Calls Try.prog 60 #[] w fun e w' => e = .returned (.agg gf16_basis.V) ∧ Below w.heap.size w w' := by
  go_enter Try.func60, Try.ntmps60
  go_wp2
  exact bodyPost_ret (v := .agg gf16_basis.V) (by simp [results, Try.results60, go_sem, gf16_basis.V, gf16_basis.L]) rfl ⟨rfl, (Below.refl _ _).alloc (Nat.le_refl _) _⟩

/-! ### gf16_Basis: function 57 -/
def gf16_Basis.f : Option (List Int) := some gf16_basis.L
set_option maxHeartbeats 4000000 in
set_option maxRecDepth 100000 in
theorem gf16_Basis.calls (r : List Int) (w : World) (h : gf16_Basis.f = some r) : Calls Try.prog 57 #[] w fun e w' => ∃ v0_ : Value, e = .returned v0_ ∧ Kd.R (Kd.int .u16) 33 w' w.heap.size (fun _ => True) v0_ r ∧ Below w.heap.size w w' := by
  obtain rfl := Option.some.inj h
  clear h
  go_enter Try.func57, Try.ntmps57
  go_wp2_with (first | (go_at_call 60; refine (gf16_basis.calls _).mono ?_; rintro e w1 ⟨rfl, hb1⟩))
  have hZ : ∃ Z : Array Value, Z.size = 16 ∧ (w1.alloc (Obj.cells #[Value.int IntKind.u16 0, Value.int IntKind.u16 0, Value.int IntKind.u16 0, Value.int IntKind.u16 0, Value.int IntKind.u16 0, Value.int IntKind.u16 0, Value.int IntKind.u16 0, Value.int IntKind.u16 0, Value.int IntKind.u16 0, Value.int IntKind.u16 0, Value.int IntKind.u16 0, Value.int IntKind.u16 0, Value.int IntKind.u16 0, Value.int IntKind.u16 0, Value.int IntKind.u16 0, Value.int IntKind.u16 0] 77)).heap[w1.heap.size]? = some (.cells Z 77 (0, 0)) := by refine ⟨_, ?_, by simpa using heap_alloc_new w1 _⟩; rfl
  have hA := below_alloc hb1 (Obj.cells #[Value.int IntKind.u16 0, Value.int IntKind.u16 0, Value.int IntKind.u16 0, Value.int IntKind.u16 0, Value.int IntKind.u16 0, Value.int IntKind.u16 0, Value.int IntKind.u16 0, Value.int IntKind.u16 0, Value.int IntKind.u16 0, Value.int IntKind.u16 0, Value.int IntKind.u16 0, Value.int IntKind.u16 0, Value.int IntKind.u16 0, Value.int IntKind.u16 0, Value.int IntKind.u16 0, Value.int IntKind.u16 0] 77)
  generalize w1.alloc _ = W at hZ hA ⊢
  obtain ⟨Z, hz, hh⟩ := hZ
  have hst := run_storeCells_cells (P := Try.prog) w1.heap.size 0 gf16_basis.V.toList 0 W (fun j hj => by rw [cell_of_row W _ _ Z 77 (0, 0) hh]; have : j < 16 := hj; simp; omega) (fun j _ => blk_frozen hh _) (by decide)
  rw [hst]
  obtain ⟨cur', h3, h4, h5⟩ := setCells_row gf16_basis.V.toList 0 W Z hh (by rw [hz]; decide)
  obtain ⟨s1, s2, s3, s4⟩ := setCells_same w1.heap.size gf16_basis.V.toList 0 W
  have hcur : cur' = gf16_basis.V := by
    apply Array.toList_inj.1
    rw [h5, List.take_zero, List.nil_append, List.drop_of_length_le (by rw [Array.length_toList, hz]; decide), List.append_nil]
  subst hcur
  have hge := hb1.size
  have hB : Below w.heap.size w (W.setCells w1.heap.size 0 gf16_basis.V.toList) := hA.trans ⟨s1, s2, s3, by rw [s4]; exact Nat.le_refl _, fun k hk => setCells_far _ _ k (by omega)⟩
  simp only [Nat.add_zero]
  generalize W.setCells w1.heap.size 0 gf16_basis.V.toList = W2 at *
  simp only [Result.andThen]
  have hcell : ∀ j u, gf16_basis.V.toList[j]? = some u → W2.cell? ⟨w1.heap.size, 0 + j, none⟩ = some u := by
    intro j u hj
    rw [cell_of_row W2 _ _ _ 77 (0, 0) h3, Nat.zero_add, ← Array.getElem?_toList]
    exact hj
  have hlt : w1.heap.size < W2.heap.size := by have := blk_lt h3; exact this
  go_wp2_with (first | (at_builtin; refine wpList_append_grows _ rfl _ _ 22 rfl 33 Try.t33 (.int .u16 0) 1 2 Try.underlying22 (by kernel_rfl) (by kernel_rfl) (by kernel_rfl) (by kernel_rfl) rfl (by decide) _ 0 0 [] rfl (fun h => ⟨rfl, rfl⟩) rfl (fun _ _ j u hj => by simp at hj) ⟨w1.heap.size, 0, none⟩ 16 16 gf16_basis.V.toList rfl rfl (fun j u hj => by rw [Addr.add_lit, World.cell?_alloc_lt _ _ _ hlt]; exact hcell j u hj) (by decide) (by decide) (by decide) (by decide) ?_; intro v' w' hown hg'))
  go_ret
  have hB2 := below_alloc hB (Obj.cells #[] 33)
  have hs2 := hB2.size
  exact ⟨v', rfl, Kd.R_of_own (own_weaken hown hs2) (fun _ _ => trivial), hB2.grown hg' hs2 (fun k hk => by cases hk)⟩

/-! ### gf16_element: function 54 -/
/-- What gf16_element sums up. -/
def gf16_element.sum (i : Int) : Nat → Int
  | 0 => 0
  | n + 1 => if Go.bits .and .i64 (i / 2 ^ n) 1 = 1 then Go.bits .xor .u16 (gf16_element.sum i n) (gf16_basis.L.getD n 0) else gf16_element.sum i n
def gf16_element.f (a0 : Int) : Option (Int) := if 0 ≤ a0 then (if a0 ≤ 65535 then (some (gf16_element.sum a0 16)) else none) else none
set_option maxHeartbeats 4000000 in
set_option maxRecDepth 100000 in
theorem gf16_element.calls (a0 : Int) (r : Int) (w : World) (h : gf16_element.f a0 = some r) :
    Calls Try.prog 54 #[.int .i64 a0] w fun e w' => e = .returned (.int .u16 r) ∧ Below w.heap.size w w' := by
  unfold gf16_element.f at h
  by_cases h0 : 0 ≤ a0
  · rw [if_pos h0] at h
    by_cases h1 : a0 ≤ 65535
    · rw [if_pos h1] at h
      have hr := Option.some.inj h
      clear h
      have HR := Aside0.mk hr
      clear hr
      go_enter Try.func54, Try.ntmps54
      go_wp2_with (first | (go_at_call 60; refine (gf16_basis.calls _).mono ?_; rintro e w1 ⟨rfl, hb1⟩))
      go_loop [3, 7] (fun s c => ∃ k : Nat, k ≤ 16 ∧ c = .int .i64 k ∧ s = .int .u16 (gf16_element.sum a0 k)) (fun _ c => 16 - (intOf c).toNat)
      case atStart => exact ⟨0, by omega, rfl, rfl⟩
      case round =>
        obtain ⟨k, hk, rfl, rfl⟩ := hrel
        by_cases hlt : k < 16
        · have hx := run_index_array (P := Try.prog) (t := 77) (k := .i64) (i := (k : Int)) w1 Try.underlying77 (fun _ => by kernel_rfl) (fun _ => by kernel_rfl) (by omega) (by omega) (by rw [Int.toNat_natCast]; exact gf16_basis.get k hlt)
          have hs : gf16_element.sum a0 (k + 1) = if Go.bits .and .i64 (a0 / 2 ^ k) 1 = 1 then Go.bits .xor .u16 (gf16_element.sum a0 k) (gf16_basis.L.getD k 0) else gf16_element.sum a0 k := rfl
          have HS := Aside0.mk hs
          clear hs
          by_cases hb : Go.bits .and .i64 (a0 / 2 ^ k) 1 = 1
          · have hbb : (Go.bits .and .i64 (a0 / 2 ^ k) 1 == 1) = true := beq_iff_eq.2 hb
            have HB := Aside0.mk hb
            clear hb
            go_wp2
            go_round
            case rel => exact ⟨k + 1, by omega, by go_num, by rw [HS.out, if_pos HB.out]; first | rfl | simp⟩
            case measure => simp [intOf]; omega
          · have hbb : (Go.bits .and .i64 (a0 / 2 ^ k) 1 == 1) = false := beq_eq_false_iff_ne.2 hb
            have HB := Aside0.mk hb
            clear hb
            go_wp2
            go_round
            case rel => exact ⟨k + 1, by omega, by go_num, by rw [HS.out, if_neg HB.out]⟩
            case measure => simp [intOf]; omega
        · have hd : decide ((k : Int) < 16) = false := decide_eq_false (by omega)
          go_wp2
          go_ret
          have hk16 : k = 16 := by omega
          exact ⟨by rw [hk16, HR.out]; first | done | rfl, hb1⟩
    · rw [if_neg h1] at h; exact absurd h (by simp)
  · rw [if_neg h0] at h; exact absurd h (by simp)

/-! ### gf16_Element: function 33 -/
def gf16_Element.f (a0 : Int) : Option (Int × Int) := if a0 < 0 then (some (0, 31)) else (if a0 > 65535 then (some (0, 31)) else ((gf16_element.f a0).bind fun t108 => (some (t108, 0))))
set_option maxHeartbeats 8000000 in
set_option maxRecDepth 100000 in
theorem gf16_Element.calls (a0 : Int) (r1 : Int) (r2 : Int) (w : World) (h : gf16_Element.f a0 = some (r1, r2)) :
    Calls Try.prog 33 #[.int .i64 a0] w fun e w' => e = .returned (.tuple #[.int .u16 r1, .int .i64 r2]) ∧ Below w.heap.size w w' := by
  have HB := Aside0.mk (Below.refl w.heap.size w)
  have H : (if a0 < 0 then (some (0, 31)) else (if a0 > 65535 then (some (0, 31)) else ((gf16_element.f a0).bind fun t108 => (some (t108, 0))))) = some (r1, r2) := h
  clear h
  by_cases c2 : a0 < 0
  · rw [if_pos c2] at H
    have c2b0 : decide (a0 < 0) = true := decide_eq_true c2
    clear c2
    simp only [Option.some.injEq, Prod.mk.injEq] at H
    obtain ⟨rfl, rfl⟩ := H
    go_enter Try.func33, Try.ntmps33
    go_wp2
    go_ret2
    exact ⟨by first | rfl | (simp [errW_none, errW_some] <;> rfl) | (simp [*, errW_none, errW_some] <;> rfl), by repeat (first | (with_reducible first | exact HB.out | apply below_alloc | apply pw_below_drewN | apply below_drew1) | exact HB.out)⟩
  · rw [if_neg c2] at H
    have c2b0 : decide (a0 < 0) = false := decide_eq_false c2
    clear c2
    by_cases c3 : a0 > 65535
    · rw [if_pos c3] at H
      have c3b0 : decide (65535 < a0) = true := decide_eq_true c3
      clear c3
      simp only [Option.some.injEq, Prod.mk.injEq] at H
      obtain ⟨rfl, rfl⟩ := H
      go_enter Try.func33, Try.ntmps33
      go_wp2
      go_ret2
      exact ⟨by first | rfl | (simp [errW_none, errW_some] <;> rfl) | (simp [*, errW_none, errW_some] <;> rfl), by repeat (first | (with_reducible first | exact HB.out | apply below_alloc | apply pw_below_drewN | apply below_drew1) | exact HB.out)⟩
    · rw [if_neg c3] at H
      have c3b0 : decide (65535 < a0) = false := decide_eq_false c3
      clear c3
      replace H := Option.bind_eq_some_iff.mp H
      obtain ⟨t108, A40, H⟩ := H
      replace H : (some (t108, 0)) = some (r1, r2) := H
      have A4 := Aside0.mk A40
      clear A40
      simp only [Option.some.injEq, Prod.mk.injEq] at H
      obtain ⟨rfl, rfl⟩ := H
      go_enter Try.func33, Try.ntmps33
      go_wp2_with (first | ((with_reducible refine gate_callee (f := 54) rfl ?_); refine goesL_ (some 11) rfl rfl Try.func54 (by kernel_rfl) rfl #[.int .i64 a0] rfl (by (try simp only [List.map_toArray, List.map_cons, List.map_nil]); first | done | rfl | (simp only [tb_wrap8]; done) | (simp only [tb_wrap8]; rfl) | (simp only [List.length_drop, List.length_take]; rfl)) ?_; (with_reducible refine (gf16_element.calls a0 t108 _ A4.out).mono ?_); rintro e w5 ⟨rfl, hb⟩; refine ⟨_, rfl, ?_⟩; have n0_ := Aside0.mk (below_step (by repeat (first | (with_reducible first | exact HB.out | apply below_alloc | apply pw_below_drewN | apply below_drew1) | exact HB.out)) hb); clear HB; have HB := n0_; clear n0_; (try clear hb); (try clear hb2); (try clear hk); (try clear hi)))
      go_ret2
      exact ⟨by first | rfl | (simp [errW_none, errW_some] <;> rfl) | (simp [*, errW_none, errW_some] <;> rfl), by repeat (first | (with_reducible first | exact HB.out | apply below_alloc | apply pw_below_drewN | apply below_drew1) | exact HB.out)⟩

/-! ### bits_Len64: function 64 -/
def bits_Len64.f (a0 : Int) : Option (Int) := if 0 ≤ a0 then (if a0 ≤ 18446744073709551615 then (some (Lib.bitLen a0.toNat : Int)) else none) else none
theorem bits_Len64.calls (a0 : Int) (r : Int) (w : World) (h : bits_Len64.f a0 = some r) :
    Calls Try.prog 64 #[.int .u64 a0] w fun e w' => e = .returned (.int .i64 r) ∧ Drawn0 w w' := by
  unfold bits_Len64.f at h
  by_cases h0 : 0 ≤ a0
  · rw [if_pos h0] at h
    by_cases h1 : a0 ≤ 18446744073709551615
    · rw [if_pos h1] at h
      obtain rfl := Option.some.inj h
      refine (Try.bits_Len64 a0 w h0 h1).mono ?_
      rintro e w' ⟨rfl, rfl⟩
      exact ⟨rfl, Drawn0.refl _⟩
    · rw [if_neg h1] at h; exact absurd h (by simp)
  · rw [if_neg h0] at h; exact absurd h (by simp)

/-! ### ring_Degree: function 66 -/
def ring_Degree.f (a0 : Int) : Option (Int) := (bits_Len64.f a0).bind fun t109 => (some (wrap64 (t109 - 1)))
set_option maxHeartbeats 8000000 in
set_option maxRecDepth 100000 in
theorem ring_Degree.calls (a0 : Int) (r : Int) (w : World) (h : ring_Degree.f a0 = some r) :
    Calls Try.prog 66 #[.int .u64 a0] w fun e w' => e = .returned (.int .i64 r) ∧ Drawn0 w w' := by
  have H : ((bits_Len64.f a0).bind fun t109 => (some (wrap64 (t109 - 1)))) = some r := h
  clear h
  replace H := Option.bind_eq_some_iff.mp H
  obtain ⟨t109, A20, H⟩ := H
  replace H : (some (wrap64 (t109 - 1))) = some r := H
  have A2 := Aside0.mk A20
  clear A20
  obtain rfl := Option.some.inj H
  go_enter Try.func66, Try.ntmps66
  go_wp2_with (first | ((with_reducible refine gate_callee (f := 64) rfl ?_); refine goesL_ (some 4) rfl rfl Try.func64 (by kernel_rfl) rfl #[.int .u64 a0] rfl (by (try simp only [List.map_toArray, List.map_cons, List.map_nil]); first | done | rfl | (simp only [tb_wrap8]; done) | (simp only [tb_wrap8]; rfl) | (simp only [List.length_drop, List.length_take]; rfl)) ?_; (with_reducible refine (bits_Len64.calls a0 t109 _ A2.out).mono ?_); rintro e w' ⟨rfl, ⟨nd, rfl⟩⟩; refine ⟨_, rfl, ?_⟩))
  go_ret
  exact ⟨by first | rfl | (simp; done) | (simp [*]; done), by repeat (first | exact Drawn0.refl _ | apply Drawn0.step)⟩

/-! ### ring_isModulus: function 61 -/
def ring_isModulus.f (a0 : Int) (a1 : Int) : Option (Bool) := (ring_Degree.f a0).bind fun t110 => (if t110 ≥ 1 then (some (decide (t110 ≤ a1))) else (some false))
set_option maxHeartbeats 8000000 in
set_option maxRecDepth 100000 in
theorem ring_isModulus.calls (a0 : Int) (a1 : Int) (r : Bool) (w : World) (h : ring_isModulus.f a0 a1 = some r) :
    Calls Try.prog 61 #[.int .u64 a0, .int .i64 a1] w fun e w' => e = .returned (.bool r) ∧ Drawn0 w w' := by
  have H : ((ring_Degree.f a0).bind fun t110 => (if t110 ≥ 1 then (some (decide (t110 ≤ a1))) else (some false))) = some r := h
  clear h
  replace H := Option.bind_eq_some_iff.mp H
  obtain ⟨t110, A30, H⟩ := H
  replace H : (if t110 ≥ 1 then (some (decide (t110 ≤ a1))) else (some false)) = some r := H
  have A3 := Aside0.mk A30
  clear A30
  by_cases c4 : t110 ≥ 1
  · rw [if_pos c4] at H
    have c4b0 : decide (1 ≤ t110) = true := decide_eq_true c4
    clear c4
    obtain rfl := Option.some.inj H
    go_enter Try.func61, Try.ntmps61
    go_wp2_with (first | ((with_reducible refine gate_callee (f := 66) rfl ?_); refine goesL_ (some 7) rfl rfl Try.func66 (by kernel_rfl) rfl #[.int .u64 a0] rfl (by (try simp only [List.map_toArray, List.map_cons, List.map_nil]); first | done | rfl | (simp only [tb_wrap8]; done) | (simp only [tb_wrap8]; rfl) | (simp only [List.length_drop, List.length_take]; rfl)) ?_; (with_reducible refine (ring_Degree.calls a0 t110 _ A3.out).mono ?_); rintro e w' ⟨rfl, ⟨nd, rfl⟩⟩; refine ⟨_, rfl, ?_⟩))
    go_ret
    exact ⟨by first | rfl | (simp; done) | (simp [*]; done), by repeat (first | exact Drawn0.refl _ | apply Drawn0.step)⟩
  · rw [if_neg c4] at H
    have c4b0 : decide (1 ≤ t110) = false := decide_eq_false c4
    clear c4
    obtain rfl := Option.some.inj H
    go_enter Try.func61, Try.ntmps61
    go_wp2_with (first | ((with_reducible refine gate_callee (f := 66) rfl ?_); refine goesL_ (some 7) rfl rfl Try.func66 (by kernel_rfl) rfl #[.int .u64 a0] rfl (by (try simp only [List.map_toArray, List.map_cons, List.map_nil]); first | done | rfl | (simp only [tb_wrap8]; done) | (simp only [tb_wrap8]; rfl) | (simp only [List.length_drop, List.length_take]; rfl)) ?_; (with_reducible refine (ring_Degree.calls a0 t110 _ A3.out).mono ?_); rintro e w' ⟨rfl, ⟨nd, rfl⟩⟩; refine ⟨_, rfl, ?_⟩))
    go_ret
    exact ⟨by first | rfl | (simp; done) | (simp [*]; done), by repeat (first | exact Drawn0.refl _ | apply Drawn0.step)⟩

/-! ### ring_divMod: function 67 -/
def ring_divMod.l0 : Nat → Int → Int → Int → Int → Option (Int × Int)
  | 0, _, _, _, _ => none
  | k + 1, x0, x1, x4, x6 => (ring_Degree.f x0).bind fun t112 => (if (wrap64 (t112 - x6)) < 0 then (some (x4, x0)) else (if 0 ≤ (wrap64 (t112 - x6)) then (ring_divMod.l0 k (Go.bits .xor .u64 x0 (shl .u64 x1 (wrap64 (t112 - x6)))) x1 (Go.bits .or .u64 x4 (shl .u64 1 (wrap64 (t112 - x6)))) x6) else (none)))
def ring_divMod.f (k : Nat) (a0 : Int) (a1 : Int) : Option (Int × Int) := (ring_Degree.f a1).bind fun t111 => (ring_divMod.l0 k a0 a1 0 t111)
theorem ring_divMod.mono_l : ∀ k, (∀ y0 y1 y2 y3, LeO (ring_divMod.l0 k y0 y1 y2 y3) (ring_divMod.l0 (k + 1) y0 y1 y2 y3))
  | 0 => fun _ _ _ _ r h => by simp [ring_divMod.l0] at h
  | k + 1 => by
    have ih0 := ring_divMod.mono_l k
    · intro y0 y1 y2 y3
      unfold ring_divMod.l0
      repeat' first
      | (with_reducible exact ih0 _ _ _ _)
      | (with_reducible exact LeO.refl _)
      | (with_reducible exact LeO.none _)
      | (with_reducible refine LeO.ite ?_ ?_)
      | (with_reducible refine LeO.bind ?_ (fun _ => ?_))
      | exact ih0 _ _ _ _
      | exact LeO.none _
      | refine LeO.ite ?_ ?_
      | refine LeO.bind ?_ (fun _ => ?_)
theorem ring_divMod.mono : ∀ a0 a1 k, LeO (ring_divMod.f k a0 a1) (ring_divMod.f (k + 1) a0 a1) := by
  intro a0 a1 k
  have ih0 := ring_divMod.mono_l k
  unfold ring_divMod.f
  repeat' first
      | (with_reducible exact ih0 _ _ _ _)
      | (with_reducible exact LeO.refl _)
      | (with_reducible exact LeO.none _)
      | (with_reducible refine LeO.ite ?_ ?_)
      | (with_reducible refine LeO.bind ?_ (fun _ => ?_))
      | exact ih0 _ _ _ _
      | exact LeO.none _
      | refine LeO.ite ?_ ?_
      | refine LeO.bind ?_ (fun _ => ?_)
set_option maxHeartbeats 8000000 in
set_option maxRecDepth 100000 in
theorem ring_divMod.calls (k : Nat) (a0 : Int) (a1 : Int) (r1 : Int) (r2 : Int) (w : World) (h : ring_divMod.f k a0 a1 = some (r1, r2)) :
    Calls Try.prog 67 #[.int .u64 a0, .int .u64 a1] w fun e w' => e = .returned (.tuple #[.int .u64 r1, .int .u64 r2]) ∧ Drawn0 w w' := by
  have H : ((ring_Degree.f a1).bind fun t111 => (ring_divMod.l0 k a0 a1 0 t111)) = some (r1, r2) := h
  clear h
  replace H := Option.bind_eq_some_iff.mp H
  obtain ⟨t111, A30, H⟩ := H
  replace H : (ring_divMod.l0 k a0 a1 0 t111) = some (r1, r2) := H
  have A3 := Aside0.mk A30
  clear A30
  have H' := Aside0.mk H
  clear H
  go_enter Try.func67, Try.ntmps67
  go_wp2_with (first | ((with_reducible refine gate_callee (f := 66) rfl ?_); refine goesL_ (some 9) rfl rfl Try.func66 (by kernel_rfl) rfl #[.int .u64 a1] rfl (by (try simp only [List.map_toArray, List.map_cons, List.map_nil]); first | done | rfl | (simp only [tb_wrap8]; done) | (simp only [tb_wrap8]; rfl) | (simp only [List.length_drop, List.length_take]; rfl)) ?_; (with_reducible refine (ring_Degree.calls a1 t111 _ A3.out).mono ?_); rintro e w' ⟨rfl, ⟨nd, rfl⟩⟩; refine ⟨_, rfl, ?_⟩))
  go_loopg [0, 4] k (fun kq v0 v4 w' => ∃ (x0_1 : Int) (x4_1 : Int), v0 = .int .u64 x0_1 ∧ v4 = .int .u64 x4_1 ∧ Aside0 (ring_divMod.l0 kq x0_1 a1 x4_1 t111 = some (r1, r2)) ∧ Aside0 (kq ≤ k) ∧ Drawn0 w w')
  case atStart => exact ⟨(a0), (0), (by first | rfl | (simp; done) | (simp [*]; done)), (by first | rfl | (simp; done) | (simp [*]; done)), H', ⟨Nat.le_refl _⟩, by repeat (first | exact Drawn0.refl _ | apply Drawn0.step)⟩
  case round =>
    clear H'
    try clear p2
    obtain ⟨x0_1, x4_1, rfl, rfl, HA, HK1, ⟨m1, rfl⟩⟩ := hrel
    cases gk with
    | zero => exact absurd HA.out (by simp [ring_divMod.l0])
    | succ k1 =>
      have H := HA.out
      clear HA
      simp only [ring_divMod.l0] at H
      replace H := Option.bind_eq_some_iff.mp H
      obtain ⟨t112, A40, H⟩ := H
      replace H : (if (wrap64 (t112 - t111)) < 0 then (some (x4_1, x0_1)) else (if 0 ≤ (wrap64 (t112 - t111)) then (ring_divMod.l0 k1 (Go.bits .xor .u64 x0_1 (shl .u64 a1 (wrap64 (t112 - t111)))) a1 (Go.bits .or .u64 x4_1 (shl .u64 1 (wrap64 (t112 - t111)))) t111) else (none))) = some (r1, r2) := H
      have A4 := Aside0.mk A40
      clear A40
      by_cases c5 : (wrap64 (t112 - t111)) < 0
      · rw [if_pos c5] at H
        have c5b0 : decide ((wrap64 (t112 - t111)) < 0) = true := decide_eq_true c5
        clear c5
        simp only [Option.some.injEq, Prod.mk.injEq] at H
        obtain ⟨rfl, rfl⟩ := H
        go_wp2_with (first | ((with_reducible refine gate_callee (f := 66) rfl ?_); refine goesL_ (some 11) rfl rfl Try.func66 (by kernel_rfl) rfl #[.int .u64 x0_1] rfl (by (try simp only [List.map_toArray, List.map_cons, List.map_nil]); first | done | rfl | (simp only [tb_wrap8]; done) | (simp only [tb_wrap8]; rfl) | (simp only [List.length_drop, List.length_take]; rfl)) ?_; (with_reducible refine (ring_Degree.calls x0_1 t112 _ A4.out).mono ?_); rintro e w' ⟨rfl, ⟨nd, rfl⟩⟩; refine ⟨_, rfl, ?_⟩))
        go_ret2
        exact ⟨by first | rfl | (simp; done) | (simp [*]; done), by repeat (first | exact Drawn0.refl _ | apply Drawn0.step)⟩
      · rw [if_neg c5] at H
        have c5b0 : decide ((wrap64 (t112 - t111)) < 0) = false := decide_eq_false c5
        clear c5
        obtain ⟨ji6, hji6⟩ : ∃ j_ : Int, (wrap64 (t112 - t111)) = j_ := ⟨_, rfl⟩
        replace H : (if 0 ≤ (ji6) then (ring_divMod.l0 k1 (Go.bits .xor .u64 x0_1 (shl .u64 a1 (ji6))) a1 (Go.bits .or .u64 x4_1 (shl .u64 1 (ji6))) t111) else (none)) = some (r1, r2) := by first | (rw [hji6] at H; exact H) | (simp only [hji6] at H ⊢; exact H)
        (try rw [hji6] at c5b0)
        (try rw [hji6] at A4)
        have hji6w : (IntKind.i64.wrap (t112 - t111)) = ji6 := (i64_w _).trans hji6
        by_cases c7 : 0 ≤ (ji6)
        · rw [if_pos c7] at H
          have c7b0 := eq_true c7
          have c7b1 : decide (0 ≤ (ji6)) = true := decide_eq_true c7
          clear c7
          obtain ⟨ji8, hji8⟩ : ∃ j_ : Int, (shl .u64 1 (ji6)) = j_ := ⟨_, rfl⟩
          replace H : (ring_divMod.l0 k1 (Go.bits .xor .u64 x0_1 (shl .u64 a1 (ji6))) a1 (Go.bits .or .u64 x4_1 (ji8)) t111) = some (r1, r2) := by first | (rw [hji8] at H; exact H) | (simp only [hji8] at H ⊢; exact H)
          (try rw [hji8] at A4)
          have hji8_ : (IntKind.u64.wrap (1 * 2 ^ min (ji6).toNat 64)) = ji8 := hji8
          have hji8z : (ji6) ≤ 64 → (IntKind.u64.wrap (1 * 2 ^ (ji6).toNat)) = ji8 := shl_small hji8
          have hji8u : (IntKind.u64.wrap (2 ^ min (ji6).toNat 64)) = ji8 := by have h_ := hji8_; rw [Int.one_mul] at h_; exact h_
          have hji8v : (ji6) ≤ 64 → (IntKind.u64.wrap (2 ^ (ji6).toNat)) = ji8 := fun hle_ => by have h_ := hji8z hle_; rw [Int.one_mul] at h_; exact h_
          have c9b0 := eq_true (of_decide_eq_true (by first | (with_reducible assumption) | assumption) : 0 ≤ (ji6))
          obtain ⟨ji10, hji10⟩ : ∃ j_ : Int, (shl .u64 a1 (ji6)) = j_ := ⟨_, rfl⟩
          replace H : (ring_divMod.l0 k1 (Go.bits .xor .u64 x0_1 (ji10)) a1 (Go.bits .or .u64 x4_1 (ji8)) t111) = some (r1, r2) := by first | (rw [hji10] at H; exact H) | (simp only [hji10] at H ⊢; exact H)
          (try rw [hji10] at A4)
          have hji10_ : (IntKind.u64.wrap (a1 * 2 ^ min (ji6).toNat 64)) = ji10 := hji10
          have hji10z : (ji6) ≤ 64 → (IntKind.u64.wrap (a1 * 2 ^ (ji6).toNat)) = ji10 := shl_small hji10
          have H' := Aside0.mk H
          clear H
          go_wp2_with (first | ((with_reducible refine gate_callee (f := 66) rfl ?_); refine goesL_ (some 11) rfl rfl Try.func66 (by kernel_rfl) rfl #[.int .u64 x0_1] rfl (by (try simp only [List.map_toArray, List.map_cons, List.map_nil]); first | done | rfl | (simp only [tb_wrap8]; done) | (simp only [tb_wrap8]; rfl) | (simp only [List.length_drop, List.length_take]; rfl)) ?_; (with_reducible refine (ring_Degree.calls x0_1 t112 _ A4.out).mono ?_); rintro e w' ⟨rfl, ⟨nd, rfl⟩⟩; refine ⟨_, rfl, ?_⟩))
          go_roundg k1
          case measure => have := HK1.out; omega
          case rel => exact ⟨(Go.bits .xor .u64 x0_1 (ji10)), (Go.bits .or .u64 x4_1 (ji8)), (by first | rfl | (simp; done) | (simp only [← hji10] <;> (first | rfl | simp)) | (simp [*]; done)), (by first | rfl | (simp; done) | (simp only [← hji8] <;> (first | rfl | simp)) | (simp [*]; done)), H', ⟨by have := HK1.out; omega⟩, by repeat (first | exact Drawn0.refl _ | apply Drawn0.step)⟩
        · rw [if_neg c7] at H
          exact absurd H (by simp)

end Go.Proofs.Ytklkcenffajfeaa.A
