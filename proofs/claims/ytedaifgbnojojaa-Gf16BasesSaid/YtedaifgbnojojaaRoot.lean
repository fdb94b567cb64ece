import Derived.Test.YtedaifgbnojojaaCantorFns
import Derived.Test.YtedaifgbnojojaaRef03Fns
import Derived.Test.YtedaifgbnojojaaWKept
import Derived.Test.YtedaifgbnojojaaWMore
import Derived.Outline
namespace Go.Proofs.Ytedaifgbnojojaa.A
open Go.RowKit Go.Deep Go.Proofs.YtedaifgbnojojaaW.PrintWords Go.Proofs.YtedaifgbnojojaaW.PrintLast Go.Proofs.YtedaifgbnojojaaW.PrintMore Go.Proofs.Ytedaifgbnojojaa.R GP
set_option linter.unusedVariables false
set_option linter.unusedSimpArgs false
/-! The document's Root. -/
/-- One image is brought to an unlike highest bit. -/
def rins (im fr : Nat → Nat) (v y : Nat) : Nat → (Nat → Nat) × (Nat → Nat)
  | 0 => (im, fr)
  | h + 1 => if v.testBit h then (if im h = 0 then (fun j => if j = h then v else im j, fun j => if j = h then y else fr j) else rins im fr (v ^^^ im h) (y ^^^ fr h) h) else rins im fr v y h
def rtab : Nat → (Nat → Nat) × (Nat → Nat)
  | 0 => (fun _ => 0, fun _ => 0)
  | j + 1 => rins (rtab j).1 (rtab j).2 (m16 (2 ^ (j + 1)) (2 ^ (j + 1)) ^^^ 2 ^ (j + 1)) (2 ^ (j + 1)) 16
def rsol (im fr : Nat → Nat) (a root : Nat) : Nat → Option Nat
  | 0 => some root
  | h + 1 => if a.testBit h then (if im h = 0 then none else rsol im fr (a ^^^ im h) (root ^^^ fr h) h) else rsol im fr a root h
def rootIs (o : Option Nat) (x y : Int) : Prop := match o with | none => x = 0 ∧ y = 30 | some r => x = ((r : Nat) : Int) ∧ y = 0
theorem rins_lt {im fr : Nat → Nat} (h1 : ∀ j, im j < 65536) (h2 : ∀ j, fr j < 65536) : ∀ (h v y : Nat), v < 65536 → y < 65536 → (∀ j, (rins im fr v y h).1 j < 65536) ∧ ∀ j, (rins im fr v y h).2 j < 65536 := by
  intro h
  induction h with
  | zero => intro v y _ _; exact ⟨h1, h2⟩
  | succ h ih =>
    intro v y hv hy
    unfold rins
    split
    · split
      · exact ⟨fun j => by dsimp only; split; (· exact hv); (· exact h1 j), fun j => by dsimp only; split; (· exact hy); (· exact h2 j)⟩
      · exact ih _ _ (xor16 hv (h1 h)) (xor16 hy (h2 h))
    · exact ih _ _ hv hy
theorem pow16 {j : Nat} (h : j < 16) : 2 ^ j < 65536 := Nat.lt_of_lt_of_le (Nat.pow_lt_pow_right (by decide) h) (by decide)
theorem rtab_lt : ∀ j, j ≤ 15 → (∀ i, (rtab j).1 i < 65536) ∧ ∀ i, (rtab j).2 i < 65536 := by
  intro j
  induction j with
  | zero => intro _; exact ⟨fun _ => by show 0 < _; omega, fun _ => by show 0 < _; omega⟩
  | succ j ih =>
    intro hj
    obtain ⟨a, b⟩ := ih (by omega)
    exact rins_lt a b 16 _ _ (xor16 (m16_lt _ _) (pow16 (by omega))) (pow16 (by omega))
/-- The two arrays in memory. -/
structure RA (w0 W : World) (gi gf : Nat) (im fr : Nat → Nat) : Prop where
  ri : W.rowIs gi 79 16 (fun j => .int .u16 ((im j : Nat) : Int))
  rf : W.rowIs gf 79 16 (fun j => .int .u16 ((fr j : Nat) : Int))
  below : Below w0.heap.size w0 W
  h1 : w0.heap.size ≤ gi
  h2 : w0.heap.size ≤ gf
  ne : gi ≠ gf
theorem RA.drewN {w0 W : World} {gi gf : Nat} {im fr : Nat → Nat} (h : RA w0 W gi gf im fr) (n : Nat) : RA w0 (W.drewN n) gi gf im fr := ⟨h.ri, h.rf, pw_below_drewN h.below n, h.h1, h.h2, h.ne⟩
theorem rowIs_far {W : World} {b t n g i : Nat} {f : Nat → Value} (h : W.rowIs b t n f) (hne : b ≠ g) (v : Value) : (W.setCell ⟨g, i, none⟩ v).rowIs b t n f := h.of_block (by simp [World.setCell, Array.getElem?_modify, hne, Ne.symm hne])
theorem RA.put {w0 W : World} {gi gf : Nat} {im fr : Nat → Nat} (h : RA w0 W gi gf im fr) (k v y : Nat) : RA w0 ((W.setCell ⟨gi, k, none⟩ (.int .u16 (v : Int))).setCell ⟨gf, k, none⟩ (.int .u16 (y : Int))) gi gf (fun j => if j = k then v else im j) (fun j => if j = k then y else fr j) := by
  refine ⟨(rowIs_far (h.ri.set k (.int .u16 (v : Int))) h.ne _).congr (fun j _ => ?_), ((rowIs_far h.rf (Ne.symm h.ne) (.int .u16 (v : Int))).set k (.int .u16 (y : Int))).congr (fun j _ => ?_), (h.below.setCell h.h1 _).setCell h.h2 _, h.h1, h.h2, h.ne⟩
  · by_cases e : j = k
    · rw [if_pos e, if_pos e]
    · rw [if_neg e, if_neg e]
  · by_cases e : j = k
    · rw [if_pos e, if_pos e]
    · rw [if_neg e, if_neg e]
theorem shl16 {j : Nat} (h : j < 16) : IntKind.u16.wrap (2 ^ j) = ((2 ^ j : Nat) : Int) := by
  have : ∀ j : Fin 16, IntKind.u16.wrap (2 ^ j.val) = ((2 ^ j.val : Nat) : Int) := by decide +kernel
  exact this ⟨j, h⟩
theorem z16 : madeCells #[Value.int .u16 0] 16 = #[.int .u16 0, .int .u16 0, .int .u16 0, .int .u16 0, .int .u16 0, .int .u16 0, .int .u16 0, .int .u16 0, .int .u16 0, .int .u16 0, .int .u16 0, .int .u16 0, .int .u16 0, .int .u16 0, .int .u16 0, .int .u16 0] := by kernel_rfl
theorem two_arrays (w : World) : RA w ((w.alloc (.cells (madeCells #[Value.int .u16 0] 16) 79)).alloc (.cells (madeCells #[Value.int .u16 0] 16) 79)) w.heap.size (w.heap.size + 1) (rtab 0).1 (rtab 0).2 := by
  have h1 := World.rowIs_made w (.int .u16 0) 16 79
  have h2 := World.rowIs_made (w.alloc (.cells (madeCells #[Value.int .u16 0] 16) 79)) (.int .u16 0) 16 79
  have e : (w.alloc (.cells (madeCells #[Value.int .u16 0] 16) 79)).heap.size = w.heap.size + 1 := by simp
  rw [e] at h2
  exact ⟨h1.of_block (Below.heap_alloc _ _ _ (by rw [e]; omega)), h2, ((Below.refl _ _).alloc (Nat.le_refl _) _).alloc (by rw [e]; omega) _, Nat.le_refl _, by omega, by omega⟩
set_option maxHeartbeats 4000000 in
set_option maxRecDepth 100000 in
theorem root_walk (a : Nat) (ha : a < 65536) (w : World) :
    Calls Try.prog 53 #[.int .u16 (a : Int)] w fun e w' => ∃ x y : Int, e = .returned (.tuple #[.int .u16 x, .int .i64 y]) ∧ rootIs (rsol (rtab 15).1 (rtab 15).2 a 0 16) x y ∧ Below w.heap.size w w' := by
  obtain ⟨im15, him⟩ : ∃ f, f = (rtab 15).1 := ⟨_, rfl⟩
  obtain ⟨fr15, hfr⟩ : ∃ f, f = (rtab 15).2 := ⟨_, rfl⟩
  rw [← him, ← hfr]
  have HI := Aside0.mk him
  have HF := Aside0.mk hfr
  clear him hfr
  go_enter Try.func53, Try.ntmps53
  go_wp2_with fail
  have r0 := two_arrays w
  rw [z16] at r0
  have R0 := Aside0.mk r0
  clear r0
  obtain ⟨gi, hgi⟩ : ∃ g, g = w.heap.size := ⟨_, rfl⟩
  obtain ⟨gf, hgf⟩ : ∃ g, g = w.heap.size + 1 := ⟨_, rfl⟩
  rw [← hgf, ← hgi] at R0 ⊢
  have HG1 := Aside0.mk hgi
  have HG2 := Aside0.mk hgf
  clear hgi hgf
  go_loopg [6, 7, 8, 9] 15 (fun kq v6 v7 v8 v9 wr => ∃ j : Nat, kq = 15 - j ∧ j ≤ 15 ∧ v6 = .int .i64 ((j + 1 : Nat) : Int) ∧ RA w wr gi gf (rtab j).1 (rtab j).2)
  case atStart => exact ⟨0, rfl, by omega, rfl, R0.out⟩
  case round =>
    obtain ⟨j, rfl, hj, rfl, hR⟩ := hrel
    clear R0
    by_cases hlt : j < 15
    · obtain ⟨b1, b2⟩ := rtab_lt j (by omega)
      obtain ⟨im, him⟩ : ∃ f, f = (rtab j).1 := ⟨_, rfl⟩
      obtain ⟨fr, hfr⟩ : ∃ f, f = (rtab j).2 := ⟨_, rfl⟩
      have hsucc : rtab (j + 1) = rins im fr (m16 (2 ^ (j + 1)) (2 ^ (j + 1)) ^^^ 2 ^ (j + 1)) (2 ^ (j + 1)) 16 := by rw [him, hfr]; rfl
      rw [← him] at b1 hR
      rw [← hfr] at b2 hR
      obtain ⟨y0, hy0⟩ : ∃ y, y = 2 ^ (j + 1) := ⟨_, rfl⟩
      have hyw : IntKind.u16.wrap (2 ^ (j + 1)) = (y0 : Int) := by rw [hy0]; exact shl16 (by omega)
      have hyl : y0 < 65536 := by rw [hy0]; exact pow16 (by omega)
      rw [← hy0] at hsucc
      obtain ⟨q, hq⟩ : ∃ q, q = m16 y0 y0 := ⟨_, rfl⟩
      have hql : q < 65536 := by rw [hq]; exact m16_lt _ _
      obtain ⟨kc, hk⟩ := (RefMul hyl hyl).rounds
      rw [← hq] at hk hsucc
      have hxr : Go.bits .xor .u16 (q : Int) (y0 : Int) = ((q ^^^ y0 : Nat) : Int) := bits_xor16 hql hyl
      obtain ⟨v0, hv0⟩ : ∃ v, v = q ^^^ y0 := ⟨_, rfl⟩
      rw [← hv0] at hxr hsucc
      have hvl : v0 < 65536 := by rw [hv0]; exact xor16 hql hyl
      have HS := Aside0.mk hsucc
      have HK := Aside0.mk hk
      have HR := Aside0.mk hR
      have HB1 := Aside0.mk b1
      have HB2 := Aside0.mk b2
      clear hsucc hk hR b1 b2 him hfr hy0 hq hv0
      go_wp2_with fail
      refine (culletref03_Mul.calls kc _ _ _ _ HK.out).mono ?_
      rintro e w1 ⟨rfl, hD⟩
      obtain ⟨nd, rfl⟩ := hD.out
      have R1 := Aside0.mk (HR.out.drewN nd)
      clear hD HR HK
      go_wp2_with fail
      go_loopg [7, 8, 9] 16 (fun kq v7 v8 v9 wr => ∃ (hh v y : Nat) (z : Int), hh = kq ∧ hh ≤ 16 ∧ v9 = .int .i64 z ∧ Aside0 (z = (hh : Int) - 1) ∧ v7 = .int .u16 (y : Int) ∧ v8 = .int .u16 (v : Int) ∧ v < 65536 ∧ y < 65536 ∧ RA w wr gi gf im fr ∧ Aside0 (rins im fr v0 y0 16 = rins im fr v y hh))
      case atStart => exact ⟨16, v0, y0, 15, rfl, Nat.le_refl _, rfl, ⟨rfl⟩, rfl, rfl, hvl, hyl, R1.out, ⟨rfl⟩⟩
      case round =>
        obtain ⟨hh, v, y, z, rfl, hh16, rfl, HZ, rfl, rfl, hv, hy, hR, HE⟩ := hrel
        have R2 := Aside0.mk hR
        clear hR R1 hxr hyw
        cases hh with
        | zero =>
          obtain rfl : z = -1 := by have := HZ.out; omega
          go_wp2_with fail
          go_roundg (15 - (j + 1))
          case measure => omega
          case rel => exact ⟨j + 1, rfl, by omega, by go_num, by have := HS.out; rw [this, HE.out]; exact R2.out⟩
        | succ q =>
          obtain rfl : z = (q : Int) := by have := HZ.out; omega
          have hq16 : q < 16 := by omega
          have hbit := bit_u (n := q) hv
          cases hb : v.testBit q with
          | false =>
            rw [hb, if_neg (by decide)] at hbit
            have E2 := Aside0.mk (show rins im fr v0 y0 16 = rins im fr v y q by rw [HE.out, rins, if_neg (by rw [hb]; decide)])
            clear hb HE HZ
            go_wp2_with fail
            go_roundg q
            case measure => omega
            case rel => exact ⟨q, v, y, _, rfl, by omega, rfl, ⟨by omega⟩, rfl, rfl, hv, hy, R2.out, E2⟩
          | true =>
            rw [hb, if_pos rfl] at hbit
            have c1 := R2.out.ri.cell hq16
            have c2 := R2.out.rf.cell hq16
            obtain ⟨m, hm⟩ : ∃ m, m = im q := ⟨_, rfl⟩
            obtain ⟨f, hf⟩ : ∃ f, f = fr q := ⟨_, rfl⟩
            have hm6 : m < 65536 := by rw [hm]; exact HB1.out q
            have hf6 : f < 65536 := by rw [hf]; exact HB2.out q
            rw [← hm] at c1
            rw [← hf] at c2
            have HM := Aside0.mk hm
            have HFq := Aside0.mk hf
            have HBT := Aside0.mk hb
            clear hm hf hb
            by_cases h0 : m = 0
            · have E2 := Aside0.mk (show rins im fr v0 y0 16 = (fun j => if j = q then v else im j, fun j => if j = q then y else fr j) by rw [HE.out, rins, if_pos HBT.out, if_pos (by rw [← HM.out]; exact h0)])
              have hb0 : ((m : Int) == 0) = true := by rw [h0]; rfl
              have fz1 := R2.out.ri.frozen q
              have fz2 := R2.out.rf.frozen q
              have R3 := Aside0.mk (R2.out.put q v y)
              have c3 := (rowIs_far (i := q) R2.out.rf (Ne.symm R2.out.ne) (.int .u16 (v : Int))).cell hq16
              have fz3 := (rowIs_far (i := q) R2.out.rf (Ne.symm R2.out.ne) (.int .u16 (v : Int))).frozen q
              clear h0 HE HZ
              go_wp2_with fail
              go_roundg (15 - (j + 1))
              case measure => omega
              case rel => exact ⟨j + 1, rfl, by omega, by go_num, by have := HS.out; rw [this, E2.out]; exact R3.out⟩
            · have E2 := Aside0.mk (show rins im fr v0 y0 16 = rins im fr (v ^^^ m) (y ^^^ f) q by rw [HE.out, rins, if_pos HBT.out, if_neg (by rw [← HM.out]; exact h0), HM.out, HFq.out])
              have hb0 : ((m : Int) == 0) = false := beq_eq_false_iff_ne.2 (by omega)
              have x1 : Go.bits .xor .u16 (v : Int) (m : Int) = ((v ^^^ m : Nat) : Int) := bits_xor16 hv hm6
              have x2 : Go.bits .xor .u16 (y : Int) (f : Int) = ((y ^^^ f : Nat) : Int) := bits_xor16 hy hf6
              have l1 := xor16 hv hm6
              have l2 := xor16 hy hf6
              clear h0 HE HZ
              go_wp2_with fail
              go_roundg q
              case measure => omega
              case rel => exact ⟨q, v ^^^ m, y ^^^ f, _, rfl, by omega, rfl, ⟨by omega⟩, rfl, rfl, l1, l2, R2.out, E2⟩
    · obtain rfl : j = 15 := by omega
      rw [← HI.out, ← HF.out] at hR
      obtain ⟨b1, b2⟩ := rtab_lt 15 (by omega)
      rw [← HI.out] at b1
      rw [← HF.out] at b2
      have HB1 := Aside0.mk b1
      have HB2 := Aside0.mk b2
      have HR := Aside0.mk hR
      clear b1 b2 hR HI HF hlt hj
      go_wp2_with fail
      go_loopg [0, 10, 11] 16 (fun kq v0 v10 v11 wr => ∃ (hh b r : Nat) (z : Int), hh = kq ∧ hh ≤ 16 ∧ v11 = .int .i64 z ∧ Aside0 (z = (hh : Int) - 1) ∧ v0 = .int .u16 (b : Int) ∧ v10 = .int .u16 (r : Int) ∧ b < 65536 ∧ r < 65536 ∧ RA w wr gi gf im15 fr15 ∧ Aside0 (rsol im15 fr15 a 0 16 = rsol im15 fr15 b r hh))
      case atStart => exact ⟨16, a, 0, 15, rfl, Nat.le_refl _, rfl, ⟨rfl⟩, rfl, rfl, ha, by omega, HR.out, ⟨rfl⟩⟩
      case round =>
        obtain ⟨hh, b, r, z, rfl, hh16, rfl, HZ, rfl, rfl, hb6, hr6, hR, HE⟩ := hrel
        have R2 := Aside0.mk hR
        clear hR HR
        cases hh with
        | zero =>
          obtain rfl : z = -1 := by have := HZ.out; omega
          go_wp2_with fail
          go_ret2
          exact ⟨_, _, rfl, by rw [HE.out]; exact ⟨rfl, rfl⟩, R2.out.below⟩
        | succ q =>
          obtain rfl : z = (q : Int) := by have := HZ.out; omega
          have hq16 : q < 16 := by omega
          have hbit := bit_u (n := q) hb6
          cases hb : b.testBit q with
          | false =>
            rw [hb, if_neg (by decide)] at hbit
            have E2 := Aside0.mk (show rsol im15 fr15 a 0 16 = rsol im15 fr15 b r q by rw [HE.out, rsol, if_neg (by rw [hb]; decide)])
            clear hb HE HZ
            go_wp2_with fail
            go_roundg q
            case measure => omega
            case rel => exact ⟨q, b, r, _, rfl, by omega, rfl, ⟨by omega⟩, rfl, rfl, hb6, hr6, R2.out, E2⟩
          | true =>
            rw [hb, if_pos rfl] at hbit
            have c1 := R2.out.ri.cell hq16
            have c2 := R2.out.rf.cell hq16
            obtain ⟨m, hm⟩ : ∃ m, m = im15 q := ⟨_, rfl⟩
            obtain ⟨f, hf⟩ : ∃ f, f = fr15 q := ⟨_, rfl⟩
            have hm6 : m < 65536 := by rw [hm]; exact HB1.out q
            have hf6 : f < 65536 := by rw [hf]; exact HB2.out q
            rw [← hm] at c1
            rw [← hf] at c2
            have HM := Aside0.mk hm
            have HFq := Aside0.mk hf
            have HBT := Aside0.mk hb
            clear hm hf hb
            by_cases h0 : m = 0
            · have E2 := Aside0.mk (show rsol im15 fr15 a 0 16 = none by rw [HE.out, rsol, if_pos HBT.out, if_pos (by rw [← HM.out]; exact h0)])
              have hb0 : ((m : Int) == 0) = true := by rw [h0]; rfl
              clear h0 HE HZ
              go_wp2_with fail
              go_ret2
              exact ⟨_, _, rfl, by rw [E2.out]; exact ⟨rfl, rfl⟩, R2.out.below⟩
            · have E2 := Aside0.mk (show rsol im15 fr15 a 0 16 = rsol im15 fr15 (b ^^^ m) (r ^^^ f) q by rw [HE.out, rsol, if_pos HBT.out, if_neg (by rw [← HM.out]; exact h0), HM.out, HFq.out])
              have hb0 : ((m : Int) == 0) = false := beq_eq_false_iff_ne.2 (by omega)
              have x1 : Go.bits .xor .u16 (b : Int) (m : Int) = ((b ^^^ m : Nat) : Int) := bits_xor16 hb6 hm6
              have x2 : Go.bits .xor .u16 (r : Int) (f : Int) = ((r ^^^ f : Nat) : Int) := bits_xor16 hr6 hf6
              have l1 := xor16 hb6 hm6
              have l2 := xor16 hr6 hf6
              clear h0 HE HZ
              go_wp2_with fail
              go_roundg q
              case measure => omega
              case rel => exact ⟨q, b ^^^ m, r ^^^ f, _, rfl, by omega, rfl, ⟨by omega⟩, rfl, rfl, l1, l2, R2.out, E2⟩
end Go.Proofs.Ytedaifgbnojojaa.A
