import Derived.Test.YtkdoilmfchlpdaaT16
import Derived.Test.YtkdoilmfchlpdaaZ7
import Derived.Test.YtkdoilmfchlpdaaRowsI
import Derived.Test.YtkdoilmfchlpdaaShelf
namespace Go.Proofs.Ytkdoilmfchlpdaa.A
open Go.Proofs.Ytkdoilmfchlpdaa
open Go.RowKit Go.Deep Go.Proofs.YtkdoilmfchlpdaaW.PrintWords Go.Proofs.YtkdoilmfchlpdaaW.PrintLast Go.Proofs.YtkdoilmfchlpdaaW.PrintMore Go.Proofs.Ytkdoilmfchlpdaa.RI Go.Proofs.Ytkdoilmfchlpdaa.R GP
set_option linter.unusedVariables false
set_option linter.unusedSimpArgs false
theorem infoW16 : (Try.prog.info? 42).map (fun i => (i.zero, i.size, i.bytes)) = some (some (.int .u16 0), 1, 2) := by kernel_rfl
/-- The least power of two from m on. -/
def lgw (m : Int) : Nat := Lib.bitLen (m - 1).toNat
def wfac (u j i : Nat) : Nat := m16 (wel ((2 ^ u + i) / 2 ^ u)) (i16 (wel (j ^^^ (2 ^ u + i))))
/-- Words. -/
def gener_Words.f (k m j : Int) : Option (List Int × Int) :=
  if 1 ≤ k ∧ 1 ≤ m ∧ k ≤ 65536 ∧ m ≤ 65536 then (if ((2 ^ lgw m : Nat) : Int) + k ≤ 65536 then (if 0 ≤ j ∧ j < m then some ((List.range k.toNat).map (fun i => ((wfac (lgw m) j.toNat i : Nat) : Int)), 0) else some ([], 7)) else some ([], 4)) else some ([], 4)
theorem lgw_le {m : Nat} (h1 : 1 ≤ m) (h : m ≤ 65536) : lgw (m : Int) ≤ 16 ∧ m ≤ 2 ^ lgw (m : Int) := by
  unfold lgw
  rw [show ((m : Int) - 1).toNat = m - 1 by omega, bitLen_bl _ (by omega)]
  refine ⟨bl_le.2 (by omega), ?_⟩
  have := lt_pow_bl (m - 1)
  omega
theorem pow_w64 {r : Nat} (h : r ≤ 16) : wrap64 (2 ^ r) = ((2 ^ r : Nat) : Int) := by
  have : ∀ r : Fin 17, wrap64 (2 ^ r.val) = ((2 ^ r.val : Nat) : Int) := by decide +kernel
  exact this ⟨r, by omega⟩
theorem wel_ne0 {i : Nat} (hi : i < 65536) (h0 : i ≠ 0) : wel i ≠ 0 := by
  intro e
  have := wix_wel i hi
  rw [e] at this
  have h2 : wix 0 = 0 := by decide +kernel
  omega
set_option maxHeartbeats 4000000 in
set_option maxRecDepth 100000 in
theorem gener_Words.calls (a0 a1 a2 : Int) (r1 : List Int) (r2 : Int) (w : World) (h : gener_Words.f a0 a1 a2 = some (r1, r2)) :
    Calls Try.prog 26 #[.int .i64 a0, .int .i64 a1, .int .i64 a2] w fun e w' => ∃ v0_ : Value, e = .returned (.tuple #[v0_, .int .i64 r2]) ∧ Kd.R (Kd.int .u16) 42 w' w.heap.size (fun _ => True) v0_ r1 ∧ Below w.heap.size w w' := by
  unfold gener_Words.f at h
  have two : ∀ {x y : List Int × Int}, some x = some y → x.1 = y.1 ∧ x.2 = y.2 := fun e => by rw [Option.some.inj e]; exact ⟨rfl, rfl⟩
  by_cases hp : 1 ≤ a0 ∧ 1 ≤ a1 ∧ a0 ≤ 65536 ∧ a1 ≤ 65536
  rotate_left
  · rw [if_neg hp] at h
    obtain ⟨e1, e2⟩ := two h
    obtain rfl : r1 = [] := e1.symm
    obtain rfl : r2 = 4 := e2.symm
    have HP := Aside0.mk hp
    clear h hp two e1 e2
    go_enter Try.func26, Try.ntmps26
    go_wp2_with fail
    all_goals first
      | (go_ret2; exact ⟨_, rfl, Kd.R_nil _ _ _ _ _, Below.refl _ _⟩)
      | (exfalso; apply HP.out; refine ⟨?_, ?_, ?_, ?_⟩ <;> omega)
  rw [if_pos hp] at h
  obtain ⟨k, rfl⟩ := Int.eq_ofNat_of_zero_le (show 0 ≤ a0 by omega)
  obtain ⟨m, rfl⟩ := Int.eq_ofNat_of_zero_le (show 0 ≤ a1 by omega)
  obtain ⟨p1, p2, p3, p4⟩ := hp
  obtain ⟨hu16, hmp⟩ := lgw_le (m := m) (by omega) (by omega)
  obtain ⟨u, hu⟩ : ∃ u, u = lgw (m : Int) := ⟨_, rfl⟩
  rw [← hu] at h hu16 hmp
  obtain ⟨p, hpp⟩ : ∃ p, p = 2 ^ u := ⟨_, rfl⟩
  have hsh : wrap64 (2 ^ u) = (p : Int) := by rw [hpp]; exact pow_w64 hu16
  have hp0 : 1 ≤ p := by rw [hpp]; exact Nat.two_pow_pos _
  have hp6 : p ≤ 65536 := by rw [hpp]; exact (show 2 ^ u ≤ 2 ^ 16 from Nat.pow_le_pow_right (by decide) hu16)
  rw [← hpp] at h hmp
  have HL := Aside0.mk (show ∀ w', Calls Try.prog 51 #[.int .u64 ((m : Int) - 1)] w' fun e w2 => e = .returned (.int .i64 (u : Int)) ∧ w' = w2 from fun w' => by
    have := Try.bits_Len ((m : Int) - 1) w' (by omega) (by omega)
    rw [show (Lib.bitLen ((m : Int) - 1).toNat : Int) = (u : Int) by rw [hu]; rfl] at this
    exact this.mono (fun _ _ h => ⟨h.1, h.2.symm⟩))
  have HU := Aside0.mk hu
  have HPP := Aside0.mk hpp
  clear hu hpp
  by_cases hq : (p : Int) + (k : Int) ≤ 65536
  rotate_left
  · rw [if_neg hq] at h
    obtain ⟨e1, e2⟩ := two h
    obtain rfl : r1 = [] := e1.symm
    obtain rfl : r2 = 4 := e2.symm
    clear h two e1 e2
    go_enter Try.func26, Try.ntmps26
    go_wp2_with (go_at_call 51; refine (HL.out _).mono ?_; rintro e w2 ⟨rfl, rfl⟩)
    go_ret2
    exact ⟨_, rfl, Kd.R_nil _ _ _ _ _, Below.refl _ _⟩
  rw [if_pos hq] at h
  by_cases hj : 0 ≤ a2 ∧ a2 < (m : Int)
  rotate_left
  · rw [if_neg hj] at h
    obtain ⟨e1, e2⟩ := two h
    obtain rfl : r1 = [] := e1.symm
    obtain rfl : r2 = 7 := e2.symm
    have HJ := Aside0.mk hj
    clear h two e1 e2 hj
    go_enter Try.func26, Try.ntmps26
    go_wp2_with (go_at_call 51; refine (HL.out _).mono ?_; rintro e w2 ⟨rfl, rfl⟩)
    all_goals first
      | (go_ret2; exact ⟨_, rfl, Kd.R_nil _ _ _ _ _, Below.refl _ _⟩)
      | (exfalso; apply HJ.out; constructor <;> omega)
  rw [if_pos hj] at h
  obtain ⟨j, rfl⟩ := Int.eq_ofNat_of_zero_le hj.1
  obtain ⟨e1, e2⟩ := two h
  obtain rfl := e1.symm
  obtain rfl : r2 = 0 := e2.symm
  have hjm : j < m := by omega
  rw [Int.toNat_natCast, Int.toNat_natCast]
  obtain ⟨F, hF⟩ : ∃ F : Nat → Nat, F = wfac u j := ⟨_, rfl⟩
  rw [← hF]
  have HF := Aside0.mk hF
  obtain ⟨wj, hwj⟩ : ∃ x, x = wel j := ⟨_, rfl⟩
  have HWJ := Aside0.mk hwj
  have hwj6 : wj < 65536 := by rw [hwj]; exact wel_lt j
  have HEJ := Aside0.mk (show gf16_Element.f (j : Int) = some ((wj : Int), (0 : Int)) by rw [hwj]; exact Element (by omega))
  have hmk := run_make_row' (P := Try.prog) 41 42 (.int .u16 0) 2 Try.underlying41 infoW16 rfl .i64 .i64 k (by omega) (by omega)
  have hmf : ∀ (fn : Fn) (first cap : Array Value) (w : World), (Instr.makeFunc fn first cap).run Try.prog w = .ok (.func fn first cap) w := fun _ _ _ _ => rfl
  clear h two e1 e2 hF hwj hj
  go_enter Try.func26, Try.ntmps26
  by_cases hk : (256 : Int) < (k : Int)
  · go_wp2_with (go_at_call 51; refine (HL.out _).mono ?_; rintro e w2 ⟨rfl, rfl⟩)
    refine (gf16_New.calls w _ (Below.refl _ _) rfl).mono ?_
    rintro e w0 ⟨gt, rfl, hI, hB0, -⟩
    have I0 : Aside0 (IsS111 w0 w0 gt) := ⟨hI⟩
    have B0 := Aside0.mk hB0
    have hgt := IsS111.lt hI
    clear hI hB0
    go_wp2_with fail
    refine (gf16_Element.calls (j : Int) _ _ w0 HEJ.out).mono ?_
    rintro e w1 ⟨rfl, hb⟩
    have B1 : Aside0 (Below w.heap.size w w1) := ⟨B0.out.trans (hb.mono B0.out.size)⟩
    have hb1 := hb
    clear hb
    have I1 : Aside0 (IsS111 w1 w1 gt) := ⟨IsS111.below I0.out hb1⟩
    have HG1 := Aside0.mk (show gt < w1.heap.size from Nat.lt_of_lt_of_le hgt hb1.size)
    clear hb1
    obtain ⟨gw, hgw⟩ : ∃ gw, gw = w1.heap.size := ⟨_, rfl⟩
    have r0 := World.rowIs_made w1 (.int .u16 0) k 42
    rw [← hgw] at r0
    have HGW := Aside0.mk hgw
    have R0 := Aside0.mk r0
    have B2 : Aside0 (Below w.heap.size w (w1.alloc (.cells (madeCells #[.int .u16 0] k) 42))) := ⟨B1.out.alloc B1.out.size _⟩
    clear hgw r0
    go_wp2_with fail
    rw [← HGW.out]
    clear hmk hmf
    have I2 : Aside0 (IsS111 (w1.alloc (.cells (madeCells #[.int .u16 0] k) 42)) (w1.alloc (.cells (madeCells #[.int .u16 0] k) 42)) gt) := ⟨IsS111.below I1.out ((Below.refl _ _).alloc (Nat.le_refl _) _)⟩
    have HNE := Aside0.mk (show gt ≠ gw by have := HG1.out; have := HGW.out; omega)
    generalize w1.alloc (.cells (madeCells #[.int .u16 0] k) 42) = W1 at R0 B2 I2 ⊢
    go_loopg [12, 14, 15, 16, 17, 18, 66] k (fun kq v12 v14 v15 v16 v17 v18 v66 wr => ∃ i : Nat, kq = k - i ∧ i ≤ k ∧ v66 = .int .i64 (i : Int) ∧ wr.rowIs gw 42 k (fun a => .int .u16 (if a < i then ((F a : Nat) : Int) else 0)) ∧ Below w.heap.size w wr ∧ Kept W1 wr (fun k => k = gw))
    case atStart => exact ⟨0, rfl, Nat.zero_le _, rfl, R0.out.congr (fun a _ => by rw [if_neg (by omega)]), B2.out, Kept.refl _ _⟩
    case round =>
      obtain ⟨i, rfl, hi, rfl, hR, hB, hK⟩ := hrel
      clear R0 B2
      have R1 := Aside0.mk hR
      have B3 := Aside0.mk hB
      have K1 := Aside0.mk hK
      clear hK
      clear hR hB
      by_cases hlt : i < k
      · obtain ⟨d, hd⟩ : ∃ d, d = (p + i) / 2 ^ u := ⟨_, rfl⟩
        have hd6 : d < 65536 := by rw [hd]; exact Nat.lt_of_le_of_lt (Nat.div_le_self _ _) (by omega)
        have hds : ((p : Int) + (i : Int)) / 2 ^ u = (d : Int) := by rw [hd]; simp
        obtain ⟨q, hq2⟩ : ∃ q, q = p + i := ⟨_, rfl⟩
        have hq6 : q < 65536 := by omega
        have hqs : (p : Int) + (i : Int) = (q : Int) := by omega
        obtain ⟨wd, hwd⟩ : ∃ x, x = wel d := ⟨_, rfl⟩
        obtain ⟨wq, hwq⟩ : ∃ x, x = wel q := ⟨_, rfl⟩
        have hwd6 : wd < 65536 := by rw [hwd]; exact wel_lt d
        have hwq6 : wq < 65536 := by rw [hwq]; exact wel_lt q
        have E1 := Aside0.mk (show gf16_Element.f (d : Int) = some ((wd : Int), (0 : Int)) by rw [hwd]; exact Element hd6)
        have E2 := Aside0.mk (show gf16_Element.f (q : Int) = some ((wq : Int), (0 : Int)) by rw [hwq]; exact Element hq6)
        have hxr : Go.bits .xor .u16 (wj : Int) (wq : Int) = ((wj ^^^ wq : Nat) : Int) := bits_xor16 hwj6 hwq6
        obtain ⟨x, hx⟩ : ∃ x, x = wj ^^^ wq := ⟨_, rfl⟩
        have hx6 : x < 65536 := by rw [hx]; exact xor16 hwj6 hwq6
        have hx0 : x ≠ 0 := by
          rw [hx, HWJ.out, hwq, ← wel_xor]
          exact wel_ne0 (xor16 (by omega) hq6) (fun e => by have := xor_eq_zero.1 e; omega)
        rw [← hx] at hxr
        obtain ⟨y, hy⟩ : ∃ y, y = m16 wd (i16 x) := ⟨_, rfl⟩
        have HY : Aside0 (y = F i) := ⟨by rw [hy, HF.out]; unfold wfac; rw [hwd, hx, HWJ.out, hwq, hd, hq2, ← HPP.out, wel_xor]⟩
        have HDV := Aside0.mk (fun (w : World) (hI : IsS111 w w gt) => tdiv16 gt wd x hwd6 hx6 hx0 w hI)
        rw [← hy] at HDV
        have HQS := Aside0.mk hqs
        have HD := Aside0.mk (hwd)
        clear hd hwd hwq hx hq2 hy hqs
        have hgs : gw < wr.heap.size := R1.out.lt
        go_wp2_with fail
        refine (gf16_Element.calls (d : Int) _ _ wr E1.out).mono ?_
        rintro e w3 ⟨rfl, hb3⟩
        have R2 := Aside0.mk (R1.out.of_block (hb3.block gw hgs))
        have B4 := Aside0.mk (B3.out.trans (hb3.mono B3.out.size))
        have K2 := Aside0.mk (K1.out.below hb3)
        clear K1
        clear hb3 R1 B3 hds
        have hqs := HQS.out
        go_wp2_with fail
        have hgs3 : gw < w3.heap.size := R2.out.lt
        refine (gf16_Element.calls (q : Int) _ _ w3 E2.out).mono ?_
        rintro e w4 ⟨rfl, hb4⟩
        have R3 := Aside0.mk (R2.out.of_block (hb4.block gw hgs3))
        have B5 := Aside0.mk (B4.out.trans (hb4.mono B4.out.size))
        have K3 := Aside0.mk (K2.out.below hb4)
        clear K2
        clear hb4 R2 B4 hqs hgs hgs3
        have cw := R3.out.cell hlt
        have fw := R3.out.frozen i
        rw [if_neg (Nat.lt_irrefl i)] at cw
        go_wp2_with fail
        refine (HDV.out w4 (IsS111.kept I2.out K3.out HNE.out)).mono ?_
        rintro e w5 ⟨rfl, hD5⟩
        obtain ⟨n5, rfl⟩ := hD5.out
        go_wp2_with fail
        have R4 := Aside0.mk (((R3.out.of_block (w' := w4.drewN n5) rfl).set i (.int .u16 (y : Int))).congr (g := fun a => .int .u16 (if a < i + 1 then ((F a : Nat) : Int) else 0)) (fun a ha => by
          by_cases e : a = i
          · rw [if_pos e, if_pos (by omega), HY.out, e]
          · rw [if_neg e]
            have : a < i ↔ a < i + 1 := by omega
            simp only [this]))
        have B6 := Aside0.mk ((pw_below_drewN B5.out n5).setCell (p := ⟨gw, i, none⟩) (by have := HGW.out; have := B1.out.size; show w.heap.size ≤ gw; omega) (.int .u16 (y : Int)))
        have K4 := Aside0.mk ((K3.out.drewN n5).setCell (p := ⟨gw, i, none⟩) (.inl rfl) (.int .u16 (y : Int)))
        clear K3
        clear R3 B5 cw fw
        go_wp2_with fail
        go_roundg (k - (i + 1))
        case measure => omega
        case rel => exact ⟨i + 1, rfl, by omega, by go_num, R4.out, B6.out, K4.out⟩
      · obtain rfl : i = k := by omega
        have R2 := Aside0.mk (R1.out.congr (g := fun a => .int .u16 ((F a : Nat) : Int)) (fun a ha => by rw [if_pos ha]))
        clear R1
        go_wp2_with fail
        go_ret2
        exact ⟨_, rfl, rowR R2.out (by have := HGW.out; have := B1.out.size; omega) (by unfold maxLen; omega) trivial, B3.out⟩
  · go_wp2_with (go_at_call 51; refine (HL.out _).mono ?_; rintro e w2 ⟨rfl, rfl⟩)
    refine (gf16_Element.calls (j : Int) _ _ w HEJ.out).mono ?_
    rintro e w1 ⟨rfl, hb⟩
    have B1 : Aside0 (Below w.heap.size w w1) := ⟨hb⟩
    have hb1 := hb
    clear hb
    clear hb1
    obtain ⟨gw, hgw⟩ : ∃ gw, gw = w1.heap.size := ⟨_, rfl⟩
    have r0 := World.rowIs_made w1 (.int .u16 0) k 42
    rw [← hgw] at r0
    have HGW := Aside0.mk hgw
    have R0 := Aside0.mk r0
    have B2 : Aside0 (Below w.heap.size w (w1.alloc (.cells (madeCells #[.int .u16 0] k) 42))) := ⟨B1.out.alloc B1.out.size _⟩
    clear hgw r0
    go_wp2_with fail
    rw [← HGW.out]
    clear hmk hmf
    generalize w1.alloc (.cells (madeCells #[.int .u16 0] k) 42) = W1 at R0 B2 ⊢
    go_loopg [12, 14, 15, 16, 17, 18, 66] k (fun kq v12 v14 v15 v16 v17 v18 v66 wr => ∃ i : Nat, kq = k - i ∧ i ≤ k ∧ v66 = .int .i64 (i : Int) ∧ wr.rowIs gw 42 k (fun a => .int .u16 (if a < i then ((F a : Nat) : Int) else 0)) ∧ Below w.heap.size w wr)
    case atStart => exact ⟨0, rfl, Nat.zero_le _, rfl, R0.out.congr (fun a _ => by rw [if_neg (by omega)]), B2.out⟩
    case round =>
      obtain ⟨i, rfl, hi, rfl, hR, hB⟩ := hrel
      clear R0 B2
      have R1 := Aside0.mk hR
      have B3 := Aside0.mk hB
      clear hR hB
      by_cases hlt : i < k
      · obtain ⟨d, hd⟩ : ∃ d, d = (p + i) / 2 ^ u := ⟨_, rfl⟩
        have hd6 : d < 65536 := by rw [hd]; exact Nat.lt_of_le_of_lt (Nat.div_le_self _ _) (by omega)
        have hds : ((p : Int) + (i : Int)) / 2 ^ u = (d : Int) := by rw [hd]; simp
        obtain ⟨q, hq2⟩ : ∃ q, q = p + i := ⟨_, rfl⟩
        have hq6 : q < 65536 := by omega
        have hqs : (p : Int) + (i : Int) = (q : Int) := by omega
        obtain ⟨wd, hwd⟩ : ∃ x, x = wel d := ⟨_, rfl⟩
        obtain ⟨wq, hwq⟩ : ∃ x, x = wel q := ⟨_, rfl⟩
        have hwd6 : wd < 65536 := by rw [hwd]; exact wel_lt d
        have hwq6 : wq < 65536 := by rw [hwq]; exact wel_lt q
        have E1 := Aside0.mk (show gf16_Element.f (d : Int) = some ((wd : Int), (0 : Int)) by rw [hwd]; exact Element hd6)
        have E2 := Aside0.mk (show gf16_Element.f (q : Int) = some ((wq : Int), (0 : Int)) by rw [hwq]; exact Element hq6)
        have hxr : Go.bits .xor .u16 (wj : Int) (wq : Int) = ((wj ^^^ wq : Nat) : Int) := bits_xor16 hwj6 hwq6
        obtain ⟨x, hx⟩ : ∃ x, x = wj ^^^ wq := ⟨_, rfl⟩
        have hx6 : x < 65536 := by rw [hx]; exact xor16 hwj6 hwq6
        have hx0 : x ≠ 0 := by
          rw [hx, HWJ.out, hwq, ← wel_xor]
          exact wel_ne0 (xor16 (by omega) hq6) (fun e => by have := xor_eq_zero.1 e; omega)
        rw [← hx] at hxr
        obtain ⟨y, hy⟩ : ∃ y, y = m16 wd (i16 x) := ⟨_, rfl⟩
        have HY : Aside0 (y = F i) := ⟨by rw [hy, HF.out]; unfold wfac; rw [hwd, hx, HWJ.out, hwq, hd, hq2, ← HPP.out, wel_xor]⟩
        obtain ⟨kd, hkd⟩ := (Div16 hwd6 hx6 hx0).rounds
        rw [← hy] at hkd
        have HDV := Aside0.mk hkd
        clear hkd
        have HQS := Aside0.mk hqs
        have HD := Aside0.mk (hwd)
        clear hd hwd hwq hx hq2 hy hqs
        have hgs : gw < wr.heap.size := R1.out.lt
        go_wp2_with fail
        refine (gf16_Element.calls (d : Int) _ _ wr E1.out).mono ?_
        rintro e w3 ⟨rfl, hb3⟩
        have R2 := Aside0.mk (R1.out.of_block (hb3.block gw hgs))
        have B4 := Aside0.mk (B3.out.trans (hb3.mono B3.out.size))
        clear hb3 R1 B3 hds
        have hqs := HQS.out
        go_wp2_with fail
        have hgs3 : gw < w3.heap.size := R2.out.lt
        refine (gf16_Element.calls (q : Int) _ _ w3 E2.out).mono ?_
        rintro e w4 ⟨rfl, hb4⟩
        have R3 := Aside0.mk (R2.out.of_block (hb4.block gw hgs3))
        have B5 := Aside0.mk (B4.out.trans (hb4.mono B4.out.size))
        clear hb4 R2 B4 hqs hgs hgs3
        have cw := R3.out.cell hlt
        have fw := R3.out.frozen i
        rw [if_neg (Nat.lt_irrefl i)] at cw
        go_wp2_with fail
        refine (gf16_Div.calls kd _ _ _ _ _ HDV.out).mono ?_
        rintro e w5 ⟨rfl, hD5⟩
        obtain ⟨n5, rfl⟩ := hD5.out
        go_wp2_with fail
        have R4 := Aside0.mk (((R3.out.of_block (w' := w4.drewN n5) rfl).set i (.int .u16 (y : Int))).congr (g := fun a => .int .u16 (if a < i + 1 then ((F a : Nat) : Int) else 0)) (fun a ha => by
          by_cases e : a = i
          · rw [if_pos e, if_pos (by omega), HY.out, e]
          · rw [if_neg e]
            have : a < i ↔ a < i + 1 := by omega
            simp only [this]))
        have B6 := Aside0.mk ((pw_below_drewN B5.out n5).setCell (p := ⟨gw, i, none⟩) (by have := HGW.out; have := B1.out.size; show w.heap.size ≤ gw; omega) (.int .u16 (y : Int)))
        clear R3 B5 cw fw
        go_wp2_with fail
        go_roundg (k - (i + 1))
        case measure => omega
        case rel => exact ⟨i + 1, rfl, by omega, by go_num, R4.out, B6.out⟩
      · obtain rfl : i = k := by omega
        have R2 := Aside0.mk (R1.out.congr (g := fun a => .int .u16 ((F a : Nat) : Int)) (fun a ha => by rw [if_pos ha]))
        clear R1
        go_wp2_with fail
        go_ret2
        exact ⟨_, rfl, rowR R2.out (by have := HGW.out; have := B1.out.size; omega) (by unfold maxLen; omega) trivial, B3.out⟩
end Go.Proofs.Ytkdoilmfchlpdaa.A
