/- awake of layer 11, walked by hand. -/
import Derived.Test.YtkdoilmfchlpdaaZ8
import Derived.Test.YtkdoilmfchlpdaaLits
import Derived.Outline

namespace Go.Proofs.Ytkdoilmfchlpdaa.A
open Go.RowKit Go.Deep Go.Proofs.YtkdoilmfchlpdaaW.PrintWords Go.Proofs.YtkdoilmfchlpdaaW.PrintLast Go.Proofs.YtkdoilmfchlpdaaW.PrintMore Go.Proofs.Ytkdoilmfchlpdaa.R Go.Proofs.Ytkdoilmfchlpdaa.RI Go.Proofs.Ytkdoilmfchlpdaa.B
set_option linter.unusedVariables false
set_option linter.unusedSimpArgs false
def awk11.f : Option Bool := some true
set_option maxHeartbeats 4000000 in
set_option maxRecDepth 100000 in
theorem awk11.calls (r : Bool) (w : World) (h : awk11.f = some r) : Calls Try.prog 15 #[] w fun e w' => e = .returned (.bool r) ∧ Below w.heap.size w w' := by
  obtain rfl := Option.some.inj h
  clear h
  have P := Parity_of false (k := 2) (m := 1) (by omega) (by omega) (by omega)
  rw [awake1] at P
  have D := Decoder_of false (k := 2) (m := 1) (by omega) (by omega) (by omega) (pr := [1, 2]) (wa := [0]) (by decide +kernel) (by decide +kernel) (by decide)
  have D' : Ev (fun k => gener_Decoder.f k 0 2 1 [1, 2] [0]) ([[245, 244]], (0 : Int)) := by rw [← awake2]; exact D
  obtain ⟨k1, hk1⟩ := P.rounds
  obtain ⟨k2, hk2⟩ := D'.rounds
  obtain ⟨k3, hk3⟩ := (Equal_self (l := [[3, 2]]) (by decide) (by decide)).rounds
  obtain ⟨k4, hk4⟩ := (Equal_self (l := [[245, 244]]) (by decide) (by decide)).rounds
  obtain ⟨k5, hk5⟩ := (Alike_self (a := [1, 1, 1]) (by decide)).rounds
  obtain ⟨k6, hk6⟩ := (Same_self11 (a := [0, 3]) (by decide)).rounds
  have K1 := Aside0.mk hk1
  have K2 := Aside0.mk hk2
  have K3 := Aside0.mk hk3
  have K4 := Aside0.mk hk4
  have K5 := Aside0.mk hk5
  have K6 := Aside0.mk hk6
  clear hk1 hk2 hk3 hk4 hk5 hk6 P D D'
  go_enter Try.func15, Try.ntmps15
  go_wp2_with fail
  refine (gener_Parity.calls k1 0 2 1 [[3, 2]] 0 _ K1.out).mono ?_
  rintro e w1 ⟨v1, rfl, hS, hb⟩
  obtain ⟨A1, c1, rfl, hc1, hC1⟩ := Kd.Q_reads hS
  have C1 := Aside0.mk hC1
  have B1 := Aside0.mk hb
  clear hS hb hC1
  go_wp2_with fail
  obtain ⟨w2, hw2⟩ : ∃ w2, w2 = (w1.alloc (.cells #[.int .i64 1, .int .i64 2] 3)).alloc (.cells #[.int .i64 0] 3) := ⟨_, rfl⟩
  have L1 := lit_ints w1 .i64 3 [1, 2] (by decide)
  have L2 := lit_ints (w1.alloc (.cells #[.int .i64 1, .int .i64 2] 3)) .i64 3 [0] (by decide)
  have L1' := Kd.C_alloc L1 (.cells #[.int .i64 0] 3)
  have e1 : (w1.alloc (.cells #[.int .i64 1, .int .i64 2] 3)).heap.size = w1.heap.size + 1 := by simp
  rw [e1] at L2
  have B2 := Aside0.mk ((B1.out.alloc B1.out.size (.cells #[.int .i64 1, .int .i64 2] 3)).alloc (by rw [e1]; have := B1.out.size; omega) (.cells #[.int .i64 0] 3))
  have C2 := Aside0.mk (Kd.C_alloc (Kd.C_alloc C1.out (.cells #[.int .i64 1, .int .i64 2] 3)) (.cells #[.int .i64 0] 3))
  refine (gener_Decoder.calls k2 0 2 1 (some ⟨w1.heap.size, 0, none⟩) 2 [1, 2] (some ⟨w1.heap.size + 1, 0, none⟩) 1 [0] [[245, 244]] 0 _ L1' (by decide) L2 (by decide) K2.out).mono ?_
  rintro e w3 ⟨v2, rfl, hS, hb⟩
  obtain ⟨A2, c2, rfl, hc2, hC2⟩ := Kd.N_reads hS
  have D1 := Aside0.mk (Kd.C_below C2.out hb)
  have D2 := Aside0.mk hC2
  have B3 := Aside0.mk (B2.out.trans (hb.mono B2.out.size))
  clear hS hb hC2 L1 L2 L1' e1 B1 B2 C1 C2 hw2 w2
  go_wp2_with fail
  refine (gener_Words.calls 3 1 0 [1, 1, 1] 0 w3 awake3).mono ?_
  rintro e w4 ⟨v3, rfl, hS, hb⟩
  obtain ⟨A3, c3, rfl, hc3, hC3⟩ := Kd.R_reads hS
  have E1 := Aside0.mk (Kd.C_below D1.out hb)
  have E2 := Aside0.mk (Kd.C_below D2.out hb)
  have E3 := Aside0.mk hC3
  have B4 := Aside0.mk (B3.out.trans (hb.mono B3.out.size))
  clear hS hb hC3 D1 D2 B3
  go_wp2_with fail
  have L1 := lit_ints w4 .i64 3 [1, 2] (by decide)
  have B5 := Aside0.mk (B4.out.alloc B4.out.size (.cells #[.int .i64 1, .int .i64 2] 3))
  refine (gener_Lost.calls 4 (some ⟨w4.heap.size, 0, none⟩) 2 [1, 2] [0, 3] 0 _ L1 (by decide) awake4).mono ?_
  rintro e w5 ⟨v4, rfl, hS, hb⟩
  obtain ⟨A4, c4, rfl, hc4, hC4⟩ := Kd.R_reads hS
  have F1 := Aside0.mk (Kd.C_below (Kd.C_alloc E1.out (.cells #[.int .i64 1, .int .i64 2] 3)) hb)
  have F2 := Aside0.mk (Kd.C_below (Kd.C_alloc E2.out (.cells #[.int .i64 1, .int .i64 2] 3)) hb)
  have F3 := Aside0.mk (Kd.C_below (Kd.C_alloc E3.out (.cells #[.int .i64 1, .int .i64 2] 3)) hb)
  have F4 := Aside0.mk hC4
  have B6 := Aside0.mk (B5.out.trans (hb.mono B5.out.size))
  clear hS hb hC4 E1 E2 E3 B4 B5 L1
  go_wp2_with fail
  have L2 := lit_mat w5 .u8 5 22 2 [3, 2] (by decide) rfl
  have T1 := Aside0.mk (Kd.C_alloc (Kd.C_alloc F1.out (.cells #[.int .u8 3, .int .u8 2] 5)) (.cells #[.slice (some ⟨w5.heap.size, 0, none⟩) 2 2] 22))
  have S5 := Aside0.mk (below_alloc (below_alloc (Below.refl w5.heap.size w5) (.cells #[.int .u8 3, .int .u8 2] 5)) (.cells #[.slice (some ⟨w5.heap.size, 0, none⟩) 2 2] 22))
  refine (culletlaw11_equal.calls k3 A1 c1 [[3, 2]] (some ⟨w5.heap.size + 1, 0, none⟩) 1 [[3, 2]] true _ T1.out hc1 L2 (by decide) K3.out).mono ?_
  rintro e w6 ⟨rfl, hD⟩
  obtain ⟨n1, rfl⟩ := hD.out
  have S6 := Aside0.mk (pw_below_drewN S5.out n1)
  generalize (World.drewN _ n1 : World) = w6 at S6 ⊢
  clear hD L2 T1 S5
  have G2 := Aside0.mk (Kd.C_below F2.out S6.out)
  have G3 := Aside0.mk (Kd.C_below F3.out S6.out)
  have G4 := Aside0.mk (Kd.C_below F4.out S6.out)
  have B7 := Aside0.mk (B6.out.trans (S6.out.mono B6.out.size))
  clear F1 F2 F3 F4 B6 S6
  go_wp2_with fail
  have L2 := lit_mat w6 .u8 5 22 2 [245, 244] (by decide) rfl
  have T1 := Aside0.mk (Kd.C_alloc (Kd.C_alloc G2.out (.cells #[.int .u8 245, .int .u8 244] 5)) (.cells #[.slice (some ⟨w6.heap.size, 0, none⟩) 2 2] 22))
  have S5 := Aside0.mk (below_alloc (below_alloc (Below.refl w6.heap.size w6) (.cells #[.int .u8 245, .int .u8 244] 5)) (.cells #[.slice (some ⟨w6.heap.size, 0, none⟩) 2 2] 22))
  refine (culletlaw11_equal.calls k4 A2 c2 [[245, 244]] (some ⟨w6.heap.size + 1, 0, none⟩) 1 [[245, 244]] true _ T1.out hc2 L2 (by decide) K4.out).mono ?_
  rintro e w7 ⟨rfl, hD⟩
  obtain ⟨n2, rfl⟩ := hD.out
  have S7 := Aside0.mk (pw_below_drewN S5.out n2)
  generalize (World.drewN _ n2 : World) = w7 at S7 ⊢
  clear hD L2 T1 S5
  have H3 := Aside0.mk (Kd.C_below G3.out S7.out)
  have H4 := Aside0.mk (Kd.C_below G4.out S7.out)
  have B8 := Aside0.mk (B7.out.trans (S7.out.mono B7.out.size))
  clear G2 G3 G4 B7 S7
  go_wp2_with fail
  have L1 := lit_ints w7 .u16 42 [1, 1, 1] (by decide)
  have S5 := Aside0.mk (below_alloc (Below.refl w7.heap.size w7) (.cells #[.int .u16 1, .int .u16 1, .int .u16 1] 42))
  refine (culletlaw11_alike.calls k5 A3 c3 [1, 1, 1] (some ⟨w7.heap.size, 0, none⟩) 3 [1, 1, 1] true _ (Kd.C_below H3.out S5.out) hc3 L1 (by decide) K5.out).mono ?_
  rintro e w8 ⟨rfl, hD⟩
  obtain ⟨n3, rfl⟩ := hD.out
  have S8 := Aside0.mk (pw_below_drewN S5.out n3)
  generalize (World.drewN _ n3 : World) = w8 at S8 ⊢
  clear hD L1 S5
  have I4 := Aside0.mk (Kd.C_below H4.out S8.out)
  have B9 := Aside0.mk (B8.out.trans (S8.out.mono B8.out.size))
  clear H3 H4 B8 S8
  go_wp2_with fail
  have L1 := lit_ints w8 .i64 3 [0, 3] (by decide)
  have S5 := Aside0.mk (below_alloc (Below.refl w8.heap.size w8) (.cells #[.int .i64 0, .int .i64 3] 3))
  refine (culletlaw11_same.calls k6 A4 c4 [0, 3] (some ⟨w8.heap.size, 0, none⟩) 2 [0, 3] true _ (Kd.C_below I4.out S5.out) hc4 L1 (by decide) K6.out).mono ?_
  rintro e w9 ⟨rfl, hD⟩
  obtain ⟨n4, rfl⟩ := hD.out
  have B10 := Aside0.mk (B9.out.trans ((pw_below_drewN S5.out n4).mono B9.out.size))
  clear hD L1 S5
  go_wp2_with fail
  go_ret
  exact ⟨rfl, B10.out⟩
end Go.Proofs.Ytkdoilmfchlpdaa.A
