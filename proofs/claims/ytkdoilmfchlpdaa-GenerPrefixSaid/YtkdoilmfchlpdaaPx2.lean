import Derived.Test.YtkdoilmfchlpdaaPx0
-- Printed for this claim by mp.py, a program of its prover, through the kit's print. Lean checks it.
namespace Go.Proofs.Ytkdoilmfchlpdaa.P
open Go.RowKit Go.Proofs.YtkdoilmfchlpdaaW.PrintWords Go.Proofs.YtkdoilmfchlpdaaW.PrintLast Go.Proofs.YtkdoilmfchlpdaaW.PrintMore Go.Proofs.Ytkdoilmfchlpdaa.A Go.Proofs.Ytkdoilmfchlpdaa.B
attribute [local go_sem] max2_int min2_int max_two min_two max_three min_three max_four min_four   -- for this text's walks alone
set_option linter.unusedVariables false
set_option linter.unusedSimpArgs false

/-! ### culletlaw11_GenerPrefix: function 8 -/
mutual
def culletlaw11_GenerPrefix.j0 : Nat → Int → List Int → List Int → Bool → Option (Bool)
 | 0, _, _, _, _ => none
 | k + 1, x1, x9, x13, x95 => if x95 = true then (some false) else (culletlaw11_GenerPrefix.l0 k x1 x9 x13 0)
def culletlaw11_GenerPrefix.l0 : Nat → Int → List Int → List Int → Int → Option (Bool)
 | 0, _, _, _, _ => none
 | k + 1, x1, x9, x13, x17 => if x17 < x1 then (if 0 ≤ x17 then (if x17 < (x13.length : Int) then (if (rd x13 x17) = 1 then (if x17 < (x9.length : Int) then (if (rd x9 x17) = 0 then (some false) else (culletlaw11_GenerPrefix.l0 k x1 x9 x13 (wrap64 (x17 + 1)))) else (none)) else (some false)) else (none)) else (none)) else (some true)
end
def culletlaw11_GenerPrefix.f (k : Nat) (a0 : Int) (a1 : Int) (a2 : Int) (a3 : Int) : Option (Bool) := (culletlaw11_awake.f k).bind fun t101 => (if t101 = true then ((culletlaw11_into.f a0 1 300).bind fun t102 => ((culletlaw11_into.f a1 1 t102).bind fun t103 => ((culletlaw11_into.f a2 1 70).bind fun t104 => ((culletlaw11_into.f a3 0 (wrap64 (t104 - 1))).bind fun t105 => ((gener_Words.f t102 t104 t105).bind fun bt106 => ((gener_Words.f t103 t104 t105).bind fun bt110 => ((gener_Words.f t103 1 0).bind fun bt114 => ((gener_Words.f t103 t104 t104).bind fun bt118 => (if bt106.2 = 0 then (if bt110.2 = 0 then (if bt114.2 = 0 then (if bt118.2 = 7 then (if (bt118.1.length : Int) = 0 then (if (bt106.1.length : Int) = t102 then (if (bt114.1.length : Int) = t103 then (if 0 ≤ t103 then (if t103 ≤ (bt106.1.length : Int) then ((culletlaw11_alike.f k (bt106.1.take (t103 : Int).toNat) bt110.1).bind fun t126 => (culletlaw11_GenerPrefix.j0 k t103 bt106.1 bt114.1 (!t126))) else (none)) else (none)) else (culletlaw11_GenerPrefix.j0 k t103 bt106.1 bt114.1 true)) else (culletlaw11_GenerPrefix.j0 k t103 bt106.1 bt114.1 true)) else (culletlaw11_GenerPrefix.j0 k t103 bt106.1 bt114.1 true)) else (culletlaw11_GenerPrefix.j0 k t103 bt106.1 bt114.1 true)) else (culletlaw11_GenerPrefix.j0 k t103 bt106.1 bt114.1 true)) else (culletlaw11_GenerPrefix.j0 k t103 bt106.1 bt114.1 true)) else (culletlaw11_GenerPrefix.j0 k t103 bt106.1 bt114.1 true)))))))))) else (some false))
theorem culletlaw11_GenerPrefix.mono_l : ∀ k, (∀ y0 y1 y2 y3, LeO (culletlaw11_GenerPrefix.j0 k y0 y1 y2 y3) (culletlaw11_GenerPrefix.j0 (k + 1) y0 y1 y2 y3)) ∧ (∀ y0 y1 y2 y3, LeO (culletlaw11_GenerPrefix.l0 k y0 y1 y2 y3) (culletlaw11_GenerPrefix.l0 (k + 1) y0 y1 y2 y3))
 | 0 => ⟨fun _ _ _ _ r h => by simp [culletlaw11_GenerPrefix.j0] at h, fun _ _ _ _ r h => by simp [culletlaw11_GenerPrefix.l0] at h⟩
 | k + 1 => by
  obtain ⟨ih0, ih1⟩ := culletlaw11_GenerPrefix.mono_l k
  refine ⟨?_, ?_⟩
  ·intro y0 y1 y2 y3
   unfold culletlaw11_GenerPrefix.j0
   repeat' first
   | (with_reducible exact ih0 _ _ _ _)
   | (with_reducible exact ih1 _ _ _ _)
   | (with_reducible exact culletlaw11_alike.mono _ _ _)
   | (with_reducible exact culletlaw11_awake.mono _)
   | (with_reducible exact LeO.refl _)
   | (with_reducible exact LeO.none _)
   | (with_reducible refine LeO.ite ?_ ?_)
   | (with_reducible refine LeO.bind ?_ (fun _ => ?_))
   | exact ih0 _ _ _ _
   | exact ih1 _ _ _ _
   | exact culletlaw11_alike.mono _ _ _
   | exact culletlaw11_awake.mono _
   | exact LeO.none _
   | refine LeO.ite ?_ ?_
   | refine LeO.bind ?_ (fun _ => ?_)
  ·intro y0 y1 y2 y3
   unfold culletlaw11_GenerPrefix.l0
   repeat' first
   | (with_reducible exact ih0 _ _ _ _)
   | (with_reducible exact ih1 _ _ _ _)
   | (with_reducible exact culletlaw11_alike.mono _ _ _)
   | (with_reducible exact culletlaw11_awake.mono _)
   | (with_reducible exact LeO.refl _)
   | (with_reducible exact LeO.none _)
   | (with_reducible refine LeO.ite ?_ ?_)
   | (with_reducible refine LeO.bind ?_ (fun _ => ?_))
   | exact ih0 _ _ _ _
   | exact ih1 _ _ _ _
   | exact culletlaw11_alike.mono _ _ _
   | exact culletlaw11_awake.mono _
   | exact LeO.none _
   | refine LeO.ite ?_ ?_
   | refine LeO.bind ?_ (fun _ => ?_)
theorem culletlaw11_GenerPrefix.mono : ∀ a0 a1 a2 a3 k, LeO (culletlaw11_GenerPrefix.f k a0 a1 a2 a3) (culletlaw11_GenerPrefix.f (k + 1) a0 a1 a2 a3) := by
 intro a0 a1 a2 a3 k
 obtain ⟨ih0, ih1⟩ := culletlaw11_GenerPrefix.mono_l k
 unfold culletlaw11_GenerPrefix.f
 repeat' first
   | (with_reducible exact ih0 _ _ _ _)
   | (with_reducible exact ih1 _ _ _ _)
   | (with_reducible exact culletlaw11_alike.mono _ _ _)
   | (with_reducible exact culletlaw11_awake.mono _)
   | (with_reducible exact LeO.refl _)
   | (with_reducible exact LeO.none _)
   | (with_reducible refine LeO.ite ?_ ?_)
   | (with_reducible refine LeO.bind ?_ (fun _ => ?_))
   | exact ih0 _ _ _ _
   | exact ih1 _ _ _ _
   | exact culletlaw11_alike.mono _ _ _
   | exact culletlaw11_awake.mono _
   | exact LeO.none _
   | refine LeO.ite ?_ ?_
   | refine LeO.bind ?_ (fun _ => ?_)
set_option maxHeartbeats 8000000 in
set_option maxRecDepth 100000 in
theorem culletlaw11_GenerPrefix.calls (k : Nat) (a0 : Int) (a1 : Int) (a2 : Int) (a3 : Int) (r : Bool) (w : World) (h : culletlaw11_GenerPrefix.f k a0 a1 a2 a3 = some r) :
  Calls Try.prog 8 #[.int .i64 a0, .int .i64 a1, .int .i64 a2, .int .i64 a3] w fun e w' => e = .returned (.bool r) ∧ Below w.heap.size w w' := by
 have HB := Aside0.mk (Below.refl w.heap.size w)
 have H : ((culletlaw11_awake.f k).bind fun t101 => (if t101 = true then ((culletlaw11_into.f a0 1 300).bind fun t102 => ((culletlaw11_into.f a1 1 t102).bind fun t103 => ((culletlaw11_into.f a2 1 70).bind fun t104 => ((culletlaw11_into.f a3 0 (wrap64 (t104 - 1))).bind fun t105 => ((gener_Words.f t102 t104 t105).bind fun bt106 => ((gener_Words.f t103 t104 t105).bind fun bt110 => ((gener_Words.f t103 1 0).bind fun bt114 => ((gener_Words.f t103 t104 t104).bind fun bt118 => (if bt106.2 = 0 then (if bt110.2 = 0 then (if bt114.2 = 0 then (if bt118.2 = 7 then (if (bt118.1.length : Int) = 0 then (if (bt106.1.length : Int) = t102 then (if (bt114.1.length : Int) = t103 then (if 0 ≤ t103 then (if t103 ≤ (bt106.1.length : Int) then ((culletlaw11_alike.f k (bt106.1.take (t103 : Int).toNat) bt110.1).bind fun t126 => (culletlaw11_GenerPrefix.j0 k t103 bt106.1 bt114.1 (!t126))) else (none)) else (none)) else (culletlaw11_GenerPrefix.j0 k t103 bt106.1 bt114.1 true)) else (culletlaw11_GenerPrefix.j0 k t103 bt106.1 bt114.1 true)) else (culletlaw11_GenerPrefix.j0 k t103 bt106.1 bt114.1 true)) else (culletlaw11_GenerPrefix.j0 k t103 bt106.1 bt114.1 true)) else (culletlaw11_GenerPrefix.j0 k t103 bt106.1 bt114.1 true)) else (culletlaw11_GenerPrefix.j0 k t103 bt106.1 bt114.1 true)) else (culletlaw11_GenerPrefix.j0 k t103 bt106.1 bt114.1 true)))))))))) else (some false))) = some r := h
 clear h
 replace H := Option.bind_eq_some_iff.mp H
 obtain ⟨t101, A50, H⟩ := H
 replace H : (if t101 = true then ((culletlaw11_into.f a0 1 300).bind fun t102 => ((culletlaw11_into.f a1 1 t102).bind fun t103 => ((culletlaw11_into.f a2 1 70).bind fun t104 => ((culletlaw11_into.f a3 0 (wrap64 (t104 - 1))).bind fun t105 => ((gener_Words.f t102 t104 t105).bind fun bt106 => ((gener_Words.f t103 t104 t105).bind fun bt110 => ((gener_Words.f t103 1 0).bind fun bt114 => ((gener_Words.f t103 t104 t104).bind fun bt118 => (if bt106.2 = 0 then (if bt110.2 = 0 then (if bt114.2 = 0 then (if bt118.2 = 7 then (if (bt118.1.length : Int) = 0 then (if (bt106.1.length : Int) = t102 then (if (bt114.1.length : Int) = t103 then (if 0 ≤ t103 then (if t103 ≤ (bt106.1.length : Int) then ((culletlaw11_alike.f k (bt106.1.take (t103 : Int).toNat) bt110.1).bind fun t126 => (culletlaw11_GenerPrefix.j0 k t103 bt106.1 bt114.1 (!t126))) else (none)) else (none)) else (culletlaw11_GenerPrefix.j0 k t103 bt106.1 bt114.1 true)) else (culletlaw11_GenerPrefix.j0 k t103 bt106.1 bt114.1 true)) else (culletlaw11_GenerPrefix.j0 k t103 bt106.1 bt114.1 true)) else (culletlaw11_GenerPrefix.j0 k t103 bt106.1 bt114.1 true)) else (culletlaw11_GenerPrefix.j0 k t103 bt106.1 bt114.1 true)) else (culletlaw11_GenerPrefix.j0 k t103 bt106.1 bt114.1 true)) else (culletlaw11_GenerPrefix.j0 k t103 bt106.1 bt114.1 true)))))))))) else (some false)) = some r := H
 have A5 := Aside0.mk A50
 clear A50
 by_cases c6 : t101 = true
 ·subst c6
  have H1 : ((culletlaw11_into.f a0 1 300).bind fun t102 => ((culletlaw11_into.f a1 1 t102).bind fun t103 => ((culletlaw11_into.f a2 1 70).bind fun t104 => ((culletlaw11_into.f a3 0 (wrap64 (t104 - 1))).bind fun t105 => ((gener_Words.f t102 t104 t105).bind fun bt106 => ((gener_Words.f t103 t104 t105).bind fun bt110 => ((gener_Words.f t103 1 0).bind fun bt114 => ((gener_Words.f t103 t104 t104).bind fun bt118 => (if bt106.2 = 0 then (if bt110.2 = 0 then (if bt114.2 = 0 then (if bt118.2 = 7 then (if (bt118.1.length : Int) = 0 then (if (bt106.1.length : Int) = t102 then (if (bt114.1.length : Int) = t103 then (if 0 ≤ t103 then (if t103 ≤ (bt106.1.length : Int) then ((culletlaw11_alike.f k (bt106.1.take (t103 : Int).toNat) bt110.1).bind fun t126 => (culletlaw11_GenerPrefix.j0 k t103 bt106.1 bt114.1 (!t126))) else (none)) else (none)) else (culletlaw11_GenerPrefix.j0 k t103 bt106.1 bt114.1 true)) else (culletlaw11_GenerPrefix.j0 k t103 bt106.1 bt114.1 true)) else (culletlaw11_GenerPrefix.j0 k t103 bt106.1 bt114.1 true)) else (culletlaw11_GenerPrefix.j0 k t103 bt106.1 bt114.1 true)) else (culletlaw11_GenerPrefix.j0 k t103 bt106.1 bt114.1 true)) else (culletlaw11_GenerPrefix.j0 k t103 bt106.1 bt114.1 true)) else (culletlaw11_GenerPrefix.j0 k t103 bt106.1 bt114.1 true)))))))))) = some r := by rw [if_pos rfl] at H; exact H
  clear H
  have H := H1
  clear H1
  replace H := Option.bind_eq_some_iff.mp H
  obtain ⟨t102, A70, H⟩ := H
  replace H : ((culletlaw11_into.f a1 1 t102).bind fun t103 => ((culletlaw11_into.f a2 1 70).bind fun t104 => ((culletlaw11_into.f a3 0 (wrap64 (t104 - 1))).bind fun t105 => ((gener_Words.f t102 t104 t105).bind fun bt106 => ((gener_Words.f t103 t104 t105).bind fun bt110 => ((gener_Words.f t103 1 0).bind fun bt114 => ((gener_Words.f t103 t104 t104).bind fun bt118 => (if bt106.2 = 0 then (if bt110.2 = 0 then (if bt114.2 = 0 then (if bt118.2 = 7 then (if (bt118.1.length : Int) = 0 then (if (bt106.1.length : Int) = t102 then (if (bt114.1.length : Int) = t103 then (if 0 ≤ t103 then (if t103 ≤ (bt106.1.length : Int) then ((culletlaw11_alike.f k (bt106.1.take (t103 : Int).toNat) bt110.1).bind fun t126 => (culletlaw11_GenerPrefix.j0 k t103 bt106.1 bt114.1 (!t126))) else (none)) else (none)) else (culletlaw11_GenerPrefix.j0 k t103 bt106.1 bt114.1 true)) else (culletlaw11_GenerPrefix.j0 k t103 bt106.1 bt114.1 true)) else (culletlaw11_GenerPrefix.j0 k t103 bt106.1 bt114.1 true)) else (culletlaw11_GenerPrefix.j0 k t103 bt106.1 bt114.1 true)) else (culletlaw11_GenerPrefix.j0 k t103 bt106.1 bt114.1 true)) else (culletlaw11_GenerPrefix.j0 k t103 bt106.1 bt114.1 true)) else (culletlaw11_GenerPrefix.j0 k t103 bt106.1 bt114.1 true))))))))) = some r := H
  have A7 := Aside0.mk A70
  clear A70
  replace H := Option.bind_eq_some_iff.mp H
  obtain ⟨t103, A80, H⟩ := H
  replace H : ((culletlaw11_into.f a2 1 70).bind fun t104 => ((culletlaw11_into.f a3 0 (wrap64 (t104 - 1))).bind fun t105 => ((gener_Words.f t102 t104 t105).bind fun bt106 => ((gener_Words.f t103 t104 t105).bind fun bt110 => ((gener_Words.f t103 1 0).bind fun bt114 => ((gener_Words.f t103 t104 t104).bind fun bt118 => (if bt106.2 = 0 then (if bt110.2 = 0 then (if bt114.2 = 0 then (if bt118.2 = 7 then (if (bt118.1.length : Int) = 0 then (if (bt106.1.length : Int) = t102 then (if (bt114.1.length : Int) = t103 then (if 0 ≤ t103 then (if t103 ≤ (bt106.1.length : Int) then ((culletlaw11_alike.f k (bt106.1.take (t103 : Int).toNat) bt110.1).bind fun t126 => (culletlaw11_GenerPrefix.j0 k t103 bt106.1 bt114.1 (!t126))) else (none)) else (none)) else (culletlaw11_GenerPrefix.j0 k t103 bt106.1 bt114.1 true)) else (culletlaw11_GenerPrefix.j0 k t103 bt106.1 bt114.1 true)) else (culletlaw11_GenerPrefix.j0 k t103 bt106.1 bt114.1 true)) else (culletlaw11_GenerPrefix.j0 k t103 bt106.1 bt114.1 true)) else (culletlaw11_GenerPrefix.j0 k t103 bt106.1 bt114.1 true)) else (culletlaw11_GenerPrefix.j0 k t103 bt106.1 bt114.1 true)) else (culletlaw11_GenerPrefix.j0 k t103 bt106.1 bt114.1 true)))))))) = some r := H
  have A8 := Aside0.mk A80
  clear A80
  replace H := Option.bind_eq_some_iff.mp H
  obtain ⟨t104, A90, H⟩ := H
  replace H : ((culletlaw11_into.f a3 0 (wrap64 (t104 - 1))).bind fun t105 => ((gener_Words.f t102 t104 t105).bind fun bt106 => ((gener_Words.f t103 t104 t105).bind fun bt110 => ((gener_Words.f t103 1 0).bind fun bt114 => ((gener_Words.f t103 t104 t104).bind fun bt118 => (if bt106.2 = 0 then (if bt110.2 = 0 then (if bt114.2 = 0 then (if bt118.2 = 7 then (if (bt118.1.length : Int) = 0 then (if (bt106.1.length : Int) = t102 then (if (bt114.1.length : Int) = t103 then (if 0 ≤ t103 then (if t103 ≤ (bt106.1.length : Int) then ((culletlaw11_alike.f k (bt106.1.take (t103 : Int).toNat) bt110.1).bind fun t126 => (culletlaw11_GenerPrefix.j0 k t103 bt106.1 bt114.1 (!t126))) else (none)) else (none)) else (culletlaw11_GenerPrefix.j0 k t103 bt106.1 bt114.1 true)) else (culletlaw11_GenerPrefix.j0 k t103 bt106.1 bt114.1 true)) else (culletlaw11_GenerPrefix.j0 k t103 bt106.1 bt114.1 true)) else (culletlaw11_GenerPrefix.j0 k t103 bt106.1 bt114.1 true)) else (culletlaw11_GenerPrefix.j0 k t103 bt106.1 bt114.1 true)) else (culletlaw11_GenerPrefix.j0 k t103 bt106.1 bt114.1 true)) else (culletlaw11_GenerPrefix.j0 k t103 bt106.1 bt114.1 true))))))) = some r := H
  have A9 := Aside0.mk A90
  clear A90
  replace H := Option.bind_eq_some_iff.mp H
  obtain ⟨t105, A100, H⟩ := H
  replace H : ((gener_Words.f t102 t104 t105).bind fun bt106 => ((gener_Words.f t103 t104 t105).bind fun bt110 => ((gener_Words.f t103 1 0).bind fun bt114 => ((gener_Words.f t103 t104 t104).bind fun bt118 => (if bt106.2 = 0 then (if bt110.2 = 0 then (if bt114.2 = 0 then (if bt118.2 = 7 then (if (bt118.1.length : Int) = 0 then (if (bt106.1.length : Int) = t102 then (if (bt114.1.length : Int) = t103 then (if 0 ≤ t103 then (if t103 ≤ (bt106.1.length : Int) then ((culletlaw11_alike.f k (bt106.1.take (t103 : Int).toNat) bt110.1).bind fun t126 => (culletlaw11_GenerPrefix.j0 k t103 bt106.1 bt114.1 (!t126))) else (none)) else (none)) else (culletlaw11_GenerPrefix.j0 k t103 bt106.1 bt114.1 true)) else (culletlaw11_GenerPrefix.j0 k t103 bt106.1 bt114.1 true)) else (culletlaw11_GenerPrefix.j0 k t103 bt106.1 bt114.1 true)) else (culletlaw11_GenerPrefix.j0 k t103 bt106.1 bt114.1 true)) else (culletlaw11_GenerPrefix.j0 k t103 bt106.1 bt114.1 true)) else (culletlaw11_GenerPrefix.j0 k t103 bt106.1 bt114.1 true)) else (culletlaw11_GenerPrefix.j0 k t103 bt106.1 bt114.1 true)))))) = some r := H
  have A10 := Aside0.mk A100
  clear A100
  replace H := Option.bind_eq_some_iff.mp H
  obtain ⟨⟨t106, t107⟩, A110, H⟩ := H
  replace H : ((gener_Words.f t103 t104 t105).bind fun bt110 => ((gener_Words.f t103 1 0).bind fun bt114 => ((gener_Words.f t103 t104 t104).bind fun bt118 => (if t107 = 0 then (if bt110.2 = 0 then (if bt114.2 = 0 then (if bt118.2 = 7 then (if (bt118.1.length : Int) = 0 then (if (t106.length : Int) = t102 then (if (bt114.1.length : Int) = t103 then (if 0 ≤ t103 then (if t103 ≤ (t106.length : Int) then ((culletlaw11_alike.f k (t106.take (t103 : Int).toNat) bt110.1).bind fun t126 => (culletlaw11_GenerPrefix.j0 k t103 t106 bt114.1 (!t126))) else (none)) else (none)) else (culletlaw11_GenerPrefix.j0 k t103 t106 bt114.1 true)) else (culletlaw11_GenerPrefix.j0 k t103 t106 bt114.1 true)) else (culletlaw11_GenerPrefix.j0 k t103 t106 bt114.1 true)) else (culletlaw11_GenerPrefix.j0 k t103 t106 bt114.1 true)) else (culletlaw11_GenerPrefix.j0 k t103 t106 bt114.1 true)) else (culletlaw11_GenerPrefix.j0 k t103 t106 bt114.1 true)) else (culletlaw11_GenerPrefix.j0 k t103 t106 bt114.1 true))))) = some r := H
  have A11 := Aside0.mk A110
  clear A110
  replace H := Option.bind_eq_some_iff.mp H
  obtain ⟨⟨t110, t111⟩, A120, H⟩ := H
  replace H : ((gener_Words.f t103 1 0).bind fun bt114 => ((gener_Words.f t103 t104 t104).bind fun bt118 => (if t107 = 0 then (if t111 = 0 then (if bt114.2 = 0 then (if bt118.2 = 7 then (if (bt118.1.length : Int) = 0 then (if (t106.length : Int) = t102 then (if (bt114.1.length : Int) = t103 then (if 0 ≤ t103 then (if t103 ≤ (t106.length : Int) then ((culletlaw11_alike.f k (t106.take (t103 : Int).toNat) t110).bind fun t126 => (culletlaw11_GenerPrefix.j0 k t103 t106 bt114.1 (!t126))) else (none)) else (none)) else (culletlaw11_GenerPrefix.j0 k t103 t106 bt114.1 true)) else (culletlaw11_GenerPrefix.j0 k t103 t106 bt114.1 true)) else (culletlaw11_GenerPrefix.j0 k t103 t106 bt114.1 true)) else (culletlaw11_GenerPrefix.j0 k t103 t106 bt114.1 true)) else (culletlaw11_GenerPrefix.j0 k t103 t106 bt114.1 true)) else (culletlaw11_GenerPrefix.j0 k t103 t106 bt114.1 true)) else (culletlaw11_GenerPrefix.j0 k t103 t106 bt114.1 true)))) = some r := H
  have A12 := Aside0.mk A120
  clear A120
  replace H := Option.bind_eq_some_iff.mp H
  obtain ⟨⟨t114, t115⟩, A130, H⟩ := H
  replace H : ((gener_Words.f t103 t104 t104).bind fun bt118 => (if t107 = 0 then (if t111 = 0 then (if t115 = 0 then (if bt118.2 = 7 then (if (bt118.1.length : Int) = 0 then (if (t106.length : Int) = t102 then (if (t114.length : Int) = t103 then (if 0 ≤ t103 then (if t103 ≤ (t106.length : Int) then ((culletlaw11_alike.f k (t106.take (t103 : Int).toNat) t110).bind fun t126 => (culletlaw11_GenerPrefix.j0 k t103 t106 t114 (!t126))) else (none)) else (none)) else (culletlaw11_GenerPrefix.j0 k t103 t106 t114 true)) else (culletlaw11_GenerPrefix.j0 k t103 t106 t114 true)) else (culletlaw11_GenerPrefix.j0 k t103 t106 t114 true)) else (culletlaw11_GenerPrefix.j0 k t103 t106 t114 true)) else (culletlaw11_GenerPrefix.j0 k t103 t106 t114 true)) else (culletlaw11_GenerPrefix.j0 k t103 t106 t114 true)) else (culletlaw11_GenerPrefix.j0 k t103 t106 t114 true))) = some r := H
  have A13 := Aside0.mk A130
  clear A130
  replace H := Option.bind_eq_some_iff.mp H
  obtain ⟨⟨t118, t119⟩, A140, H⟩ := H
  replace H : (if t107 = 0 then (if t111 = 0 then (if t115 = 0 then (if t119 = 7 then (if (t118.length : Int) = 0 then (if (t106.length : Int) = t102 then (if (t114.length : Int) = t103 then (if 0 ≤ t103 then (if t103 ≤ (t106.length : Int) then ((culletlaw11_alike.f k (t106.take (t103 : Int).toNat) t110).bind fun t126 => (culletlaw11_GenerPrefix.j0 k t103 t106 t114 (!t126))) else (none)) else (none)) else (culletlaw11_GenerPrefix.j0 k t103 t106 t114 true)) else (culletlaw11_GenerPrefix.j0 k t103 t106 t114 true)) else (culletlaw11_GenerPrefix.j0 k t103 t106 t114 true)) else (culletlaw11_GenerPrefix.j0 k t103 t106 t114 true)) else (culletlaw11_GenerPrefix.j0 k t103 t106 t114 true)) else (culletlaw11_GenerPrefix.j0 k t103 t106 t114 true)) else (culletlaw11_GenerPrefix.j0 k t103 t106 t114 true)) = some r := H
  have A14 := Aside0.mk A140
  clear A140
  have HC15 := Aside0.mk H
  clear H
  go_enter Try.func8, Try.ntmps8
  go_upto_region 11 with (first | ((with_reducible refine gate_callee (f := 15) rfl ?_); refine goesL_ (some 18) rfl rfl Try.func15 (by kernel_rfl) rfl #[] rfl (by (try simp only [List.map_toArray, List.map_cons, List.map_nil]); first | done | rfl | (simp only [tb_wrap8]; done) | (simp only [tb_wrap8]; rfl) | (simp only [List.length_drop, List.length_take]; rfl)) ?_; (with_reducible refine (culletlaw11_awake.calls k  true _ A5.out).mono ?_); rintro e w16 ⟨rfl, hb⟩; refine ⟨_, rfl, ?_⟩; have n0_ := Aside0.mk (below_step (by repeat (first | (with_reducible first | exact HB.out | apply below_alloc | apply pw_below_drewN | apply below_drew1) | exact HB.out)) hb); clear HB; have HB := n0_; clear n0_; (try clear hb); (try clear hb2); (try clear hk); (try clear hi)) | ((with_reducible refine gate_callee (f := 16) rfl ?_); refine goesL_ (some 21) rfl rfl Try.func16 (by kernel_rfl) rfl #[.int .i64 a0, .int .i64 1, .int .i64 300] rfl (by (try simp only [List.map_toArray, List.map_cons, List.map_nil]); first | done | rfl | (simp only [tb_wrap8]; done) | (simp only [tb_wrap8]; rfl) | (simp only [List.length_drop, List.length_take]; rfl)) ?_; (with_reducible refine (culletlaw11_into.calls a0 1 300 t102 _ A7.out).mono ?_); rintro e w' ⟨rfl, ⟨nd, rfl⟩⟩; refine ⟨_, rfl, ?_⟩) | ((with_reducible refine gate_callee (f := 16) rfl ?_); refine goesL_ (some 24) rfl rfl Try.func16 (by kernel_rfl) rfl #[.int .i64 a1, .int .i64 1, .int .i64 t102] rfl (by (try simp only [List.map_toArray, List.map_cons, List.map_nil]); first | done | rfl | (simp only [tb_wrap8]; done) | (simp only [tb_wrap8]; rfl) | (simp only [List.length_drop, List.length_take]; rfl)) ?_; (with_reducible refine (culletlaw11_into.calls a1 1 t102 t103 _ A8.out).mono ?_); rintro e w' ⟨rfl, ⟨nd, rfl⟩⟩; refine ⟨_, rfl, ?_⟩) | ((with_reducible refine gate_callee (f := 16) rfl ?_); refine goesL_ (some 26) rfl rfl Try.func16 (by kernel_rfl) rfl #[.int .i64 a2, .int .i64 1, .int .i64 70] rfl (by (try simp only [List.map_toArray, List.map_cons, List.map_nil]); first | done | rfl | (simp only [tb_wrap8]; done) | (simp only [tb_wrap8]; rfl) | (simp only [List.length_drop, List.length_take]; rfl)) ?_; (with_reducible refine (culletlaw11_into.calls a2 1 70 t104 _ A9.out).mono ?_); rintro e w' ⟨rfl, ⟨nd, rfl⟩⟩; refine ⟨_, rfl, ?_⟩) | ((with_reducible refine gate_callee (f := 16) rfl ?_); refine goesL_ (some 30) rfl rfl Try.func16 (by kernel_rfl) rfl #[.int .i64 a3, .int .i64 0, .int .i64 (wrap64 (t104 - 1))] rfl (by (try simp only [List.map_toArray, List.map_cons, List.map_nil]); first | done | rfl | (simp only [tb_wrap8]; done) | (simp only [tb_wrap8]; rfl) | (simp only [List.length_drop, List.length_take]; rfl)) ?_; (with_reducible refine (culletlaw11_into.calls a3 0 (wrap64 (t104 - 1)) t105 _ A10.out).mono ?_); rintro e w' ⟨rfl, ⟨nd, rfl⟩⟩; refine ⟨_, rfl, ?_⟩) | ((with_reducible refine gate_callee (f := 26) rfl ?_); refine goesL_ (some 35) rfl rfl Try.func26 (by kernel_rfl) rfl #[.int .i64 t102, .int .i64 t104, .int .i64 t105] rfl (by (try simp only [List.map_toArray, List.map_cons, List.map_nil]); first | done | rfl | (simp only [tb_wrap8]; done) | (simp only [tb_wrap8]; rfl) | (simp only [List.length_drop, List.length_take]; rfl)) ?_; (with_reducible refine (gener_Words.calls t102 t104 t105 t106 t107 _ A11.out).mono ?_); rintro e w17 ⟨v108, rfl, ho0, hb⟩; refine ⟨_, rfl, ?_⟩; have n0_ := Aside0.mk (Kd.R_lower ho0 (below_size (by repeat (first | (with_reducible first | exact HB.out | apply below_alloc | apply pw_below_drewN | apply below_drew1) | exact HB.out)))); have n1_ := Aside0.mk (below_step (by repeat (first | (with_reducible first | exact HB.out | apply below_alloc | apply pw_below_drewN | apply below_drew1) | exact HB.out)) hb); clear HB; have HO109 := n0_; have HB := n1_; clear n0_ n1_; (try clear hb); (try clear hb2); (try clear hk); (try clear hi); (try clear ho0)) | ((with_reducible refine gate_callee (f := 26) rfl ?_); refine goesL_ (some 42) rfl rfl Try.func26 (by kernel_rfl) rfl #[.int .i64 t103, .int .i64 t104, .int .i64 t105] rfl (by (try simp only [List.map_toArray, List.map_cons, List.map_nil]); first | done | rfl | (simp only [tb_wrap8]; done) | (simp only [tb_wrap8]; rfl) | (simp only [List.length_drop, List.length_take]; rfl)) ?_; (with_reducible refine (gener_Words.calls t103 t104 t105 t110 t111 _ A12.out).mono ?_); rintro e w18 ⟨v112, rfl, ho0, hb⟩; refine ⟨_, rfl, ?_⟩; have n0_ := Aside0.mk (Kd.R_elder' (by (with_reducible repeat (first | apply Kd.R_alloc | apply Kd.R_drewN | apply Kd.R_drew)); exact HO109.out) (Kd.R_base ho0) hb); have n1_ := Aside0.mk (Kd.R_lower (Kd.R_new' ho0 (Kd.R_lt (by (with_reducible repeat (first | apply Kd.R_alloc | apply Kd.R_drewN | apply Kd.R_drew)); exact HO109.out))) (below_size (by repeat (first | (with_reducible first | exact HB.out | apply below_alloc | apply pw_below_drewN | apply below_drew1) | exact HB.out)))); have n2_ := Aside0.mk (below_step (by repeat (first | (with_reducible first | exact HB.out | apply below_alloc | apply pw_below_drewN | apply below_drew1) | exact HB.out)) hb); clear HO109; clear HB; have HO109 := n0_; have HO113 := n1_; have HB := n2_; clear n0_ n1_ n2_; (try clear hb); (try clear hb2); (try clear hk); (try clear hi); (try clear ho0)) | ((with_reducible refine gate_callee (f := 26) rfl ?_); refine goesL_ (some 47) rfl rfl Try.func26 (by kernel_rfl) rfl #[.int .i64 t103, .int .i64 1, .int .i64 0] rfl (by (try simp only [List.map_toArray, List.map_cons, List.map_nil]); first | done | rfl | (simp only [tb_wrap8]; done) | (simp only [tb_wrap8]; rfl) | (simp only [List.length_drop, List.length_take]; rfl)) ?_; (with_reducible refine (gener_Words.calls t103 1 0 t114 t115 _ A13.out).mono ?_); rintro e w19 ⟨v116, rfl, ho0, hb⟩; refine ⟨_, rfl, ?_⟩; have n0_ := Aside0.mk (Kd.R_elder' (by (with_reducible repeat (first | apply Kd.R_alloc | apply Kd.R_drewN | apply Kd.R_drew)); exact HO109.out) (Kd.R_base ho0) hb); have n1_ := Aside0.mk (Kd.R_elder' (by (with_reducible repeat (first | apply Kd.R_alloc | apply Kd.R_drewN | apply Kd.R_drew)); exact HO113.out) (Kd.R_base ho0) hb); have n2_ := Aside0.mk (Kd.R_lower (Kd.R_new' (Kd.R_new' ho0 (Kd.R_lt (by (with_reducible repeat (first | apply Kd.R_alloc | apply Kd.R_drewN | apply Kd.R_drew)); exact HO109.out))) (Kd.R_lt (by (with_reducible repeat (first | apply Kd.R_alloc | apply Kd.R_drewN | apply Kd.R_drew)); exact HO113.out))) (below_size (by repeat (first | (with_reducible first | exact HB.out | apply below_alloc | apply pw_below_drewN | apply below_drew1) | exact HB.out)))); have n3_ := Aside0.mk (below_step (by repeat (first | (with_reducible first | exact HB.out | apply below_alloc | apply pw_below_drewN | apply below_drew1) | exact HB.out)) hb); clear HO109; clear HO113; clear HB; have HO109 := n0_; have HO113 := n1_; have HO117 := n2_; have HB := n3_; clear n0_ n1_ n2_ n3_; (try clear hb); (try clear hb2); (try clear hk); (try clear hi); (try clear ho0)) | ((with_reducible refine gate_callee (f := 26) rfl ?_); refine goesL_ (some 54) rfl rfl Try.func26 (by kernel_rfl) rfl #[.int .i64 t103, .int .i64 t104, .int .i64 t104] rfl (by (try simp only [List.map_toArray, List.map_cons, List.map_nil]); first | done | rfl | (simp only [tb_wrap8]; done) | (simp only [tb_wrap8]; rfl) | (simp only [List.length_drop, List.length_take]; rfl)) ?_; (with_reducible refine (gener_Words.calls t103 t104 t104 t118 t119 _ A14.out).mono ?_); rintro e w20 ⟨v120, rfl, ho0, hb⟩; refine ⟨_, rfl, ?_⟩; have n0_ := Aside0.mk (Kd.R_elder' (by (with_reducible repeat (first | apply Kd.R_alloc | apply Kd.R_drewN | apply Kd.R_drew)); exact HO109.out) (Kd.R_base ho0) hb); have n1_ := Aside0.mk (Kd.R_elder' (by (with_reducible repeat (first | apply Kd.R_alloc | apply Kd.R_drewN | apply Kd.R_drew)); exact HO113.out) (Kd.R_base ho0) hb); have n2_ := Aside0.mk (Kd.R_elder' (by (with_reducible repeat (first | apply Kd.R_alloc | apply Kd.R_drewN | apply Kd.R_drew)); exact HO117.out) (Kd.R_base ho0) hb); have n3_ := Aside0.mk (Kd.R_lower (Kd.R_new' (Kd.R_new' (Kd.R_new' ho0 (Kd.R_lt (by (with_reducible repeat (first | apply Kd.R_alloc | apply Kd.R_drewN | apply Kd.R_drew)); exact HO109.out))) (Kd.R_lt (by (with_reducible repeat (first | apply Kd.R_alloc | apply Kd.R_drewN | apply Kd.R_drew)); exact HO113.out))) (Kd.R_lt (by (with_reducible repeat (first | apply Kd.R_alloc | apply Kd.R_drewN | apply Kd.R_drew)); exact HO117.out))) (below_size (by repeat (first | (with_reducible first | exact HB.out | apply below_alloc | apply pw_below_drewN | apply below_drew1) | exact HB.out)))); have n4_ := Aside0.mk (below_step (by repeat (first | (with_reducible first | exact HB.out | apply below_alloc | apply pw_below_drewN | apply below_drew1) | exact HB.out)) hb); clear HO109; clear HO113; clear HO117; clear HB; have HO109 := n0_; have HO113 := n1_; have HO117 := n2_; have HO121 := n3_; have HB := n4_; clear n0_ n1_ n2_ n3_ n4_; (try clear hb); (try clear hb2); (try clear hk); (try clear hi); (try clear ho0)))
  (try simp only [Act.put, List.setIfInBounds_toArray, List.set_cons_zero, List.set_cons_succ])
  go_cut [95] (fun v95 wc => ∃ (kq : Nat) (x95_14 : Bool), v95 = .bool x95_14 ∧ Aside0 (culletlaw11_GenerPrefix.j0 kq t103 t106 t114 x95_14 = some r) ∧ Aside0 (kq ≤ k) ∧ Aside0 (Kd.R (Kd.int .u16) 42 wc w.heap.size (fun k_ => some k_ ≠ (v116 : Value).ownBlock) v108 t106) ∧ Aside0 (Kd.R (Kd.int .u16) 42 wc w.heap.size (fun k_ => some k_ ≠ (v108 : Value).ownBlock) v116 t114) ∧ Aside0 (Below w.heap.size w wc))
  case first =>
   have H := HC15.out
   clear HC15
   by_cases c21 : t107 = 0
   ·rw [if_pos c21] at H
    have c21b0 : (t107 == 0) = true := beq_iff_eq.mpr c21
    have c21b1 : (t107 != 0) = false := bne_eq_false_iff_eq.mpr c21
    clear c21
    (first | rw [c21b0] | (simp only [i64_w, i32_w]; rw [c21b0]) | skip)
    by_cases c22 : t111 = 0
    ·rw [if_pos c22] at H
     have c22b0 : (t111 == 0) = true := beq_iff_eq.mpr c22
     have c22b1 : (t111 != 0) = false := bne_eq_false_iff_eq.mpr c22
     clear c22
     by_cases c23 : t115 = 0
     ·rw [if_pos c23] at H
      have c23b0 : (t115 == 0) = true := beq_iff_eq.mpr c23
      have c23b1 : (t115 != 0) = false := bne_eq_false_iff_eq.mpr c23
      clear c23
      by_cases c24 : t119 = 7
      ·rw [if_pos c24] at H
       have c24b0 : (t119 == 7) = true := beq_iff_eq.mpr c24
       have c24b1 : (t119 != 7) = false := bne_eq_false_iff_eq.mpr c24
       clear c24
       by_cases c25 : (t118.length : Int) = 0
       ·rw [if_pos c25] at H
        have c25b0 : ((t118.length : Int) == 0) = true := beq_iff_eq.mpr c25
        have c25b1 : ((t118.length : Int) != 0) = false := bne_eq_false_iff_eq.mpr c25
        clear c25
        by_cases c26 : (t106.length : Int) = t102
        ·rw [if_pos c26] at H
         have c26b0 : ((t106.length : Int) == t102) = true := beq_iff_eq.mpr c26
         have c26b1 : ((t106.length : Int) != t102) = false := bne_eq_false_iff_eq.mpr c26
         clear c26
         by_cases c27 : (t114.length : Int) = t103
         ·rw [if_pos c27] at H
          have c27b0 : ((t114.length : Int) == t103) = true := beq_iff_eq.mpr c27
          have c27b1 : ((t114.length : Int) != t103) = false := bne_eq_false_iff_eq.mpr c27
          clear c27
          by_cases c28 : 0 ≤ t103
          ·rw [if_pos c28] at H
           have c28b0 := eq_true c28
           have c28b1 : decide (0 ≤ t103) = true := decide_eq_true c28
           clear c28
           by_cases c29 : t103 ≤ (t106.length : Int)
           ·rw [if_pos c29] at H
            have c29b0 := eq_true c29
            have c29b1 : decide (t103 ≤ (t106.length : Int)) = true := decide_eq_true c29
            clear c29
            obtain ⟨y122, hy122⟩ : ∃ y_ : List Int, y_ = (t106.take (t103 : Int).toNat) := ⟨_, rfl⟩
            replace H : ((culletlaw11_alike.f k y122 t110).bind fun t126 => (culletlaw11_GenerPrefix.j0 k t103 t106 t114 (!t126))) = some r := by first | (rw [hy122]; with_reducible exact H) | (have H2_ := (Option.bind_some _ _).symm.trans H; rw [hy122]; with_reducible exact H2_) | (have H2_ := (Option.bind_some _ _).symm.trans H; with_reducible exact H2_) | with_reducible exact H | (rw [hy122]; exact H) | exact H
            have Ny122 := Aside0.mk hy122
            clear hy122
            replace H := Option.bind_eq_some_iff.mp H
            obtain ⟨t126, A300, H⟩ := H
            replace H : (culletlaw11_GenerPrefix.j0 k t103 t106 t114 (!t126)) = some r := H
            have A30 := Aside0.mk A300
            clear A300
            have H' := Aside0.mk H
            clear H
            obtain ⟨Ao31, co31, eo31⟩ := Kd.R_slice HO121.out
            subst eo31
            obtain ⟨Ao32, co32, eo32⟩ := Kd.R_slice HO109.out
            subst eo32
            obtain ⟨Ao33, co33, eo33⟩ := Kd.R_slice HO117.out
            subst eo33
            have q34 : (t103 : Int) ≤ ((t106.length : Int) : Int) := of_decide_eq_true (by first | (with_reducible assumption) | assumption)
            obtain ⟨i034, hi034, _, hsz34, _⟩ := info_parts info42
            have hroom34 : t106.length ≤ co32 := (Kd.R_reads' HO109.out).2.1
            have hC34 : Kd.C (Kd.int .u16) _ Ao32 t106.length t106 := (Kd.R_reads' HO109.out).2.2
            have hcut34 := cut_to (P := Try.prog) 41 42 .i64 Try.underlying41 hi034 Ao32 t106.length co32 t103 (of_decide_eq_true (by first | (with_reducible assumption) | assumption)) q34 hroom34
            have hr34 := Kd.C_take (m := (t103 : Int).toNat) hC34 (by omega)
            have hy34 : y122.length = (t103 : Int).toNat := (by rw [Ny122.out, List.length_take]; omega)
            rw [← Ny122.out] at hr34
            rw [← hy34] at hcut34
            have HR125 := Aside0.mk hr34
            have HC125 := Aside0.mk (show y122.length ≤ co32 from by omega)
            clear hr34 hC34 hroom34 hi034 hsz34
            have KY34 := Aside0.mk hy34
            clear hy34
            have KL34 := Aside0.mk (show (t103 : Int).toNat ≤ t106.length from by omega)
            replace q34 := eq_true q34
            obtain ⟨Ao35, co35, eo35⟩ := Kd.R_slice HO113.out
            subst eo35
            go_wp2_with (first | (go_at_call 29; (with_reducible refine (culletlaw11_alike.calls k _ _ y122 _ _ t110 t126 _ ?side1 ?side2 ?side3 ?side4 A30.out).mono ?_); (case side1 => repeat (first | exact (by repeat (first | (with_reducible exact HR125.out) | (with_reducible refine Kd.C_alloc ?_ _) | (with_reducible refine Kd.C_drewN ?_ _) | (with_reducible refine Kd.C_drew ?_) | exact HR125.out)) | (with_reducible refine Kd.C_alloc ?_ _) | (with_reducible refine Kd.C_drewN ?_ _) | (with_reducible refine Kd.C_drew ?_))); (case side2 => exact HC125.out); (case side3 => repeat (first | exact (Kd.R_reads' HO113.out).2.2 | (with_reducible refine Kd.C_alloc ?_ _) | (with_reducible refine Kd.C_drewN ?_ _) | (with_reducible refine Kd.C_drew ?_))); (case side4 => exact (Kd.R_reads' HO113.out).2.1); rintro e w' ⟨rfl, ⟨nd, rfl⟩⟩))
            go_meet
            case rel => exact ⟨_, (!t126), (by first | rfl | (simp; done) | (simp [*]; done)), H', ⟨by first | omega | exact Nat.le_refl _⟩, ⟨by (with_reducible repeat (first | apply Kd.R_alloc | apply Kd.R_drewN | apply Kd.R_drew)); exact Kd.R_mono HO109.out (fun _ hk => hk.1.2)⟩, ⟨by (with_reducible repeat (first | apply Kd.R_alloc | apply Kd.R_drewN | apply Kd.R_drew)); exact Kd.R_mono HO117.out (fun _ hk => hk.1.1.2)⟩, ⟨by repeat (first | (with_reducible first | exact HB.out | apply below_alloc | apply pw_below_drewN | apply below_drew1) | exact HB.out)⟩⟩
           ·rw [if_neg c29] at H
            exact absurd H (by simp)
          ·rw [if_neg c28] at H
           exact absurd H (by simp)
         ·rw [if_neg c27] at H
          have c27b0 : ((t114.length : Int) == t103) = false := beq_eq_false_iff_ne.mpr c27
          have c27b1 : ((t114.length : Int) != t103) = true := bne_iff_ne.mpr c27
          have H' := Aside0.mk H
          clear H
          obtain ⟨Ao36, co36, eo36⟩ := Kd.R_slice HO121.out
          subst eo36
          obtain ⟨Ao37, co37, eo37⟩ := Kd.R_slice HO109.out
          subst eo37
          obtain ⟨Ao38, co38, eo38⟩ := Kd.R_slice HO117.out
          subst eo38
          go_wp2
          go_meet
          case rel => exact ⟨_, (true), (by first | rfl | (simp; done) | (simp [*]; done)), H', ⟨by first | omega | exact Nat.le_refl _⟩, ⟨by (with_reducible repeat (first | apply Kd.R_alloc | apply Kd.R_drewN | apply Kd.R_drew)); exact Kd.R_mono HO109.out (fun _ hk => hk.1.2)⟩, ⟨by (with_reducible repeat (first | apply Kd.R_alloc | apply Kd.R_drewN | apply Kd.R_drew)); exact Kd.R_mono HO117.out (fun _ hk => hk.1.1.2)⟩, ⟨by repeat (first | (with_reducible first | exact HB.out | apply below_alloc | apply pw_below_drewN | apply below_drew1) | exact HB.out)⟩⟩
        ·rw [if_neg c26] at H
         have c26b0 : ((t106.length : Int) == t102) = false := beq_eq_false_iff_ne.mpr c26
         have c26b1 : ((t106.length : Int) != t102) = true := bne_iff_ne.mpr c26
         have H' := Aside0.mk H
         clear H
         obtain ⟨Ao39, co39, eo39⟩ := Kd.R_slice HO121.out
         subst eo39
         obtain ⟨Ao40, co40, eo40⟩ := Kd.R_slice HO109.out
         subst eo40
         go_wp2
         go_meet
         case rel => exact ⟨_, (true), (by first | rfl | (simp; done) | (simp [*]; done)), H', ⟨by first | omega | exact Nat.le_refl _⟩, ⟨by (with_reducible repeat (first | apply Kd.R_alloc | apply Kd.R_drewN | apply Kd.R_drew)); exact Kd.R_mono HO109.out (fun _ hk => hk.1.2)⟩, ⟨by (with_reducible repeat (first | apply Kd.R_alloc | apply Kd.R_drewN | apply Kd.R_drew)); exact Kd.R_mono HO117.out (fun _ hk => hk.1.1.2)⟩, ⟨by repeat (first | (with_reducible first | exact HB.out | apply below_alloc | apply pw_below_drewN | apply below_drew1) | exact HB.out)⟩⟩
       ·rw [if_neg c25] at H
        have c25b0 : ((t118.length : Int) == 0) = false := beq_eq_false_iff_ne.mpr c25
        have c25b1 : ((t118.length : Int) != 0) = true := bne_iff_ne.mpr c25
        have c25b2 : ¬ (t118 = []) := fun h_ => c25 (by rw [h_]; rfl)
        have H' := Aside0.mk H
        clear H
        obtain ⟨Ao41, co41, eo41⟩ := Kd.R_slice HO121.out
        subst eo41
        go_wp2
        go_meet
        case rel => exact ⟨_, (true), (by first | rfl | (simp; done) | (simp [*]; done)), H', ⟨by first | omega | exact Nat.le_refl _⟩, ⟨by (with_reducible repeat (first | apply Kd.R_alloc | apply Kd.R_drewN | apply Kd.R_drew)); exact Kd.R_mono HO109.out (fun _ hk => hk.1.2)⟩, ⟨by (with_reducible repeat (first | apply Kd.R_alloc | apply Kd.R_drewN | apply Kd.R_drew)); exact Kd.R_mono HO117.out (fun _ hk => hk.1.1.2)⟩, ⟨by repeat (first | (with_reducible first | exact HB.out | apply below_alloc | apply pw_below_drewN | apply below_drew1) | exact HB.out)⟩⟩
      ·rw [if_neg c24] at H
       have c24b0 : (t119 == 7) = false := beq_eq_false_iff_ne.mpr c24
       have c24b1 : (t119 != 7) = true := bne_iff_ne.mpr c24
       have H' := Aside0.mk H
       clear H
       go_wp2
       go_meet
       case rel => exact ⟨_, (true), (by first | rfl | (simp; done) | (simp [*]; done)), H', ⟨by first | omega | exact Nat.le_refl _⟩, ⟨by (with_reducible repeat (first | apply Kd.R_alloc | apply Kd.R_drewN | apply Kd.R_drew)); exact Kd.R_mono HO109.out (fun _ hk => hk.1.2)⟩, ⟨by (with_reducible repeat (first | apply Kd.R_alloc | apply Kd.R_drewN | apply Kd.R_drew)); exact Kd.R_mono HO117.out (fun _ hk => hk.1.1.2)⟩, ⟨by repeat (first | (with_reducible first | exact HB.out | apply below_alloc | apply pw_below_drewN | apply below_drew1) | exact HB.out)⟩⟩
     ·rw [if_neg c23] at H
      have c23b0 : (t115 == 0) = false := beq_eq_false_iff_ne.mpr c23
      have c23b1 : (t115 != 0) = true := bne_iff_ne.mpr c23
      have H' := Aside0.mk H
      clear H
      go_wp2
      go_meet
      case rel => exact ⟨_, (true), (by first | rfl | (simp; done) | (simp [*]; done)), H', ⟨by first | omega | exact Nat.le_refl _⟩, ⟨by (with_reducible repeat (first | apply Kd.R_alloc | apply Kd.R_drewN | apply Kd.R_drew)); exact Kd.R_mono HO109.out (fun _ hk => hk.1.2)⟩, ⟨by (with_reducible repeat (first | apply Kd.R_alloc | apply Kd.R_drewN | apply Kd.R_drew)); exact Kd.R_mono HO117.out (fun _ hk => hk.1.1.2)⟩, ⟨by repeat (first | (with_reducible first | exact HB.out | apply below_alloc | apply pw_below_drewN | apply below_drew1) | exact HB.out)⟩⟩
    ·rw [if_neg c22] at H
     have c22b0 : (t111 == 0) = false := beq_eq_false_iff_ne.mpr c22
     have c22b1 : (t111 != 0) = true := bne_iff_ne.mpr c22
     have H' := Aside0.mk H
     clear H
     go_wp2
     go_meet
     case rel => exact ⟨_, (true), (by first | rfl | (simp; done) | (simp [*]; done)), H', ⟨by first | omega | exact Nat.le_refl _⟩, ⟨by (with_reducible repeat (first | apply Kd.R_alloc | apply Kd.R_drewN | apply Kd.R_drew)); exact Kd.R_mono HO109.out (fun _ hk => hk.1.2)⟩, ⟨by (with_reducible repeat (first | apply Kd.R_alloc | apply Kd.R_drewN | apply Kd.R_drew)); exact Kd.R_mono HO117.out (fun _ hk => hk.1.1.2)⟩, ⟨by repeat (first | (with_reducible first | exact HB.out | apply below_alloc | apply pw_below_drewN | apply below_drew1) | exact HB.out)⟩⟩
   ·rw [if_neg c21] at H
    have c21b0 : (t107 == 0) = false := beq_eq_false_iff_ne.mpr c21
    have c21b1 : (t107 != 0) = true := bne_iff_ne.mpr c21
    (first | rw [c21b0] | (simp only [i64_w, i32_w]; rw [c21b0]) | skip)
    have H' := Aside0.mk H
    clear H
    go_wp2
    go_meet
    case rel => exact ⟨_, (true), (by first | rfl | (simp; done) | (simp [*]; done)), H', ⟨by first | omega | exact Nat.le_refl _⟩, ⟨by (with_reducible repeat (first | apply Kd.R_alloc | apply Kd.R_drewN | apply Kd.R_drew)); exact Kd.R_mono HO109.out (fun _ hk => hk.1.2)⟩, ⟨by (with_reducible repeat (first | apply Kd.R_alloc | apply Kd.R_drewN | apply Kd.R_drew)); exact Kd.R_mono HO117.out (fun _ hk => hk.1.1.2)⟩, ⟨by repeat (first | (with_reducible first | exact HB.out | apply below_alloc | apply pw_below_drewN | apply below_drew1) | exact HB.out)⟩⟩
  case rest =>
   clear HC15
   try clear c1
   try clear c2
   try clear p2
   try clear q3
   try clear c6
   try clear p6
   try clear c8
   try clear p8
   try clear c15
   try clear c16
   try clear c21
   try clear c21b0
   try clear c21b1
   try clear c22
   try clear c22b0
   try clear c22b1
   try clear c23
   try clear c23b0
   try clear c23b1
   try clear c24
   try clear c24b0
   try clear c24b1
   try clear c25
   try clear c25b0
   try clear c25b1
   try clear c25b2
   try clear c26
   try clear c26b0
   try clear c26b1
   try clear c27
   try clear c27b0
   try clear c27b1
   try clear c28
   try clear c28b0
   try clear c28b1
   try clear c29
   try clear c29b0
   try clear c29b1
   try clear q34
   try clear q34
   obtain ⟨kq, x95_14, rfl, HA, HJ14, HO_9, HO_13, HB⟩ := hcut
   cases kq with
   | zero => exact absurd HA.out (by simp [culletlaw11_GenerPrefix.j0])
   | succ kj14 =>
    have H := HA.out
    clear HA
    simp only [culletlaw11_GenerPrefix.j0] at H
    by_cases c42 : x95_14 = true
    ·subst c42
     have H1 : (some false) = some r := by rw [if_pos rfl] at H; exact H
     clear H
     have H := H1
     clear H1
     obtain rfl := Option.some.inj H
     go_wp2
     go_ret
     exact ⟨by first | rfl | (simp [errW_none, errW_some] <;> rfl) | (simp [*, errW_none, errW_some] <;> rfl), by repeat (first | (with_reducible first | exact HB.out | apply below_alloc | apply pw_below_drewN | apply below_drew1) | exact HB.out)⟩
    ·replace c42 := Bool.eq_false_iff.mpr c42
     subst c42
     have H1 : (culletlaw11_GenerPrefix.l0 kj14 t103 t106 t114 0) = some r := by rw [if_neg (show ¬ (false = true) by decide)] at H; exact H
     clear H
     have H := H1
     clear H1
     have H' := Aside0.mk H
     clear H
     go_wp2
     go_loopg [17] kj14 (fun kq v17 w' => ∃ (x17_2 : Int), v17 = .int .i64 x17_2 ∧ Aside0 (culletlaw11_GenerPrefix.l0 kq t103 t106 t114 x17_2 = some r) ∧ Aside0 (kq ≤ kj14) ∧ Aside0 (Kd.R (Kd.int .u16) 42 w' w.heap.size (fun k_ => some k_ ≠ (v116 : Value).ownBlock) v108 t106) ∧ Aside0 (Kd.R (Kd.int .u16) 42 w' w.heap.size (fun k_ => some k_ ≠ (v108 : Value).ownBlock) v116 t114) ∧ Aside0 (Below w.heap.size w w'))
     case atStart => exact ⟨(0), (by first | rfl | (simp; done) | (simp [*]; done)), H', ⟨Nat.le_refl _⟩, ⟨by (with_reducible repeat (first | apply Kd.R_alloc | apply Kd.R_drewN | apply Kd.R_drew)); exact HO_9.out⟩, ⟨by (with_reducible repeat (first | apply Kd.R_alloc | apply Kd.R_drewN | apply Kd.R_drew)); exact HO_13.out⟩, ⟨by repeat (first | (with_reducible first | exact HB.out | apply below_alloc | apply pw_below_drewN | apply below_drew1) | exact HB.out)⟩⟩
     case round =>
      clear H'
      try clear c1
      try clear c2
      try clear p2
      try clear q3
      try clear c4
      try clear c6
      try clear p6
      try clear c8
      try clear p8
      try clear c15
      try clear c16
      try clear c21
      try clear c21b0
      try clear c21b1
      try clear c22
      try clear c22b0
      try clear c22b1
      try clear c23
      try clear c23b0
      try clear c23b1
      try clear c24
      try clear c24b0
      try clear c24b1
      try clear c25
      try clear c25b0
      try clear c25b1
      try clear c25b2
      try clear c26
      try clear c26b0
      try clear c26b1
      try clear c27
      try clear c27b0
      try clear c27b1
      try clear c28
      try clear c28b0
      try clear c28b1
      try clear c29
      try clear c29b0
      try clear c29b1
      try clear q34
      try clear c42
      try clear p2
      try clear p6
      try clear p8
      try clear q3
      try clear q34
      obtain ⟨x17_2, rfl, HA, HK2, HO_9, HO_13, HB⟩ := hrel
      cases gk with
      | zero => exact absurd HA.out (by simp [culletlaw11_GenerPrefix.l0])
      | succ k2 =>
       have H := HA.out
       clear HA
       simp only [culletlaw11_GenerPrefix.l0] at H
       by_cases c43 : x17_2 < t103
       ·rw [if_pos c43] at H
        have c43b0 : decide (x17_2 < t103) = true := decide_eq_true c43
        clear c43
        by_cases c44 : 0 ≤ x17_2
        ·rw [if_pos c44] at H
         have c44b0 : decide (0 ≤ x17_2) = true := decide_eq_true c44
         clear c44
         by_cases c45 : x17_2 < (t114.length : Int)
         ·rw [if_pos c45] at H
          have c45b0 : decide (x17_2 < (t114.length : Int)) = true := decide_eq_true c45
          clear c45
          by_cases c46 : (rd t114 x17_2) = 1
          ·rw [if_pos c46] at H
           have c46b0 : ((rd t114 x17_2) == 1) = true := beq_iff_eq.mpr c46
           have c46b1 : ((rd t114 x17_2) != 1) = false := bne_eq_false_iff_eq.mpr c46
           clear c46
           by_cases c47 : x17_2 < (t106.length : Int)
           ·rw [if_pos c47] at H
            have c47b0 : decide (x17_2 < (t106.length : Int)) = true := decide_eq_true c47
            clear c47
            by_cases c48 : (rd t106 x17_2) = 0
            ·rw [if_pos c48] at H
             have c48b0 : ((rd t106 x17_2) == 0) = true := beq_iff_eq.mpr c48
             have c48b1 : ((rd t106 x17_2) != 0) = false := bne_eq_false_iff_eq.mpr c48
             clear c48
             obtain rfl := Option.some.inj H
             obtain ⟨Ao49, co49, eo49⟩ := Kd.R_slice HO_13.out
             subst eo49
             have p127 : 0 ≤ (x17_2 : Int) := of_decide_eq_true (by first | (with_reducible assumption) | assumption)
             have q127 : x17_2 < (t114.length : Int) := of_decide_eq_true (by first | (with_reducible assumption) | assumption)
             obtain ⟨ad127, e127, hx127_0⟩ := Kd.at_int (Kd.R_reads' HO_13.out).2.2 x17_2 p127 q127
             cases e127
             replace p127 := eq_true p127
             replace q127 := eq_true q127
             obtain ⟨Ao50, co50, eo50⟩ := Kd.R_slice HO_9.out
             subst eo50
             have p128 : 0 ≤ (x17_2 : Int) := of_decide_eq_true (by first | (with_reducible assumption) | assumption)
             have q128 : x17_2 < (t106.length : Int) := of_decide_eq_true (by first | (with_reducible assumption) | assumption)
             obtain ⟨ad128, e128, hx128_0⟩ := Kd.at_int (Kd.R_reads' HO_9.out).2.2 x17_2 p128 q128
             cases e128
             replace p128 := eq_true p128
             replace q128 := eq_true q128
             go_wp2
             go_ret
             exact ⟨by first | rfl | (simp [errW_none, errW_some] <;> rfl) | (simp [*, errW_none, errW_some] <;> rfl), by repeat (first | (with_reducible first | exact HB.out | apply below_alloc | apply pw_below_drewN | apply below_drew1) | exact HB.out)⟩
            ·rw [if_neg c48] at H
             have c48b0 : ((rd t106 x17_2) == 0) = false := beq_eq_false_iff_ne.mpr c48
             have c48b1 : ((rd t106 x17_2) != 0) = true := bne_iff_ne.mpr c48
             have H' := Aside0.mk H
             clear H
             obtain ⟨Ao51, co51, eo51⟩ := Kd.R_slice HO_13.out
             subst eo51
             have p127 : 0 ≤ (x17_2 : Int) := of_decide_eq_true (by first | (with_reducible assumption) | assumption)
             have q127 : x17_2 < (t114.length : Int) := of_decide_eq_true (by first | (with_reducible assumption) | assumption)
             obtain ⟨ad127, e127, hx127_0⟩ := Kd.at_int (Kd.R_reads' HO_13.out).2.2 x17_2 p127 q127
             cases e127
             replace p127 := eq_true p127
             replace q127 := eq_true q127
             obtain ⟨Ao52, co52, eo52⟩ := Kd.R_slice HO_9.out
             subst eo52
             have p128 : 0 ≤ (x17_2 : Int) := of_decide_eq_true (by first | (with_reducible assumption) | assumption)
             have q128 : x17_2 < (t106.length : Int) := of_decide_eq_true (by first | (with_reducible assumption) | assumption)
             obtain ⟨ad128, e128, hx128_0⟩ := Kd.at_int (Kd.R_reads' HO_9.out).2.2 x17_2 p128 q128
             cases e128
             replace p128 := eq_true p128
             replace q128 := eq_true q128
             go_wp2
             go_roundg k2
             case measure => have := HJ14.out; have := HK2.out; omega
             case rel => exact ⟨(wrap64 (x17_2 + 1)), (by first | rfl | (simp; done) | (simp [*]; done)), H', ⟨by have := HJ14.out; have := HK2.out; omega⟩, ⟨by (with_reducible repeat (first | apply Kd.R_alloc | apply Kd.R_drewN | apply Kd.R_drew)); exact HO_9.out⟩, ⟨by (with_reducible repeat (first | apply Kd.R_alloc | apply Kd.R_drewN | apply Kd.R_drew)); exact HO_13.out⟩, ⟨by repeat (first | (with_reducible first | exact HB.out | apply below_alloc | apply pw_below_drewN | apply below_drew1) | exact HB.out)⟩⟩
           ·rw [if_neg c47] at H
            exact absurd H (by simp)
          ·rw [if_neg c46] at H
           have c46b0 : ((rd t114 x17_2) == 1) = false := beq_eq_false_iff_ne.mpr c46
           have c46b1 : ((rd t114 x17_2) != 1) = true := bne_iff_ne.mpr c46
           obtain rfl := Option.some.inj H
           obtain ⟨Ao53, co53, eo53⟩ := Kd.R_slice HO_13.out
           subst eo53
           have p127 : 0 ≤ (x17_2 : Int) := of_decide_eq_true (by first | (with_reducible assumption) | assumption)
           have q127 : x17_2 < (t114.length : Int) := of_decide_eq_true (by first | (with_reducible assumption) | assumption)
           obtain ⟨ad127, e127, hx127_0⟩ := Kd.at_int (Kd.R_reads' HO_13.out).2.2 x17_2 p127 q127
           cases e127
           replace p127 := eq_true p127
           replace q127 := eq_true q127
           go_wp2
           go_ret
           exact ⟨by first | rfl | (simp [errW_none, errW_some] <;> rfl) | (simp [*, errW_none, errW_some] <;> rfl), by repeat (first | (with_reducible first | exact HB.out | apply below_alloc | apply pw_below_drewN | apply below_drew1) | exact HB.out)⟩
         ·rw [if_neg c45] at H
          exact absurd H (by simp)
        ·rw [if_neg c44] at H
         exact absurd H (by simp)
       ·rw [if_neg c43] at H
        have c43b0 : decide (x17_2 < t103) = false := decide_eq_false c43
        clear c43
        obtain rfl := Option.some.inj H
        go_wp2
        go_ret
        exact ⟨by first | rfl | (simp [errW_none, errW_some] <;> rfl) | (simp [*, errW_none, errW_some] <;> rfl), by repeat (first | (with_reducible first | exact HB.out | apply below_alloc | apply pw_below_drewN | apply below_drew1) | exact HB.out)⟩
 ·replace c6 := Bool.eq_false_iff.mpr c6
  subst c6
  have H1 : (some false) = some r := by rw [if_neg (show ¬ (false = true) by decide)] at H; exact H
  clear H
  have H := H1
  clear H1
  obtain rfl := Option.some.inj H
  go_enter Try.func8, Try.ntmps8
  go_wp2_with (first | ((with_reducible refine gate_callee (f := 15) rfl ?_); refine goesL_ (some 18) rfl rfl Try.func15 (by kernel_rfl) rfl #[] rfl (by (try simp only [List.map_toArray, List.map_cons, List.map_nil]); first | done | rfl | (simp only [tb_wrap8]; done) | (simp only [tb_wrap8]; rfl) | (simp only [List.length_drop, List.length_take]; rfl)) ?_; (with_reducible refine (culletlaw11_awake.calls k  false _ A5.out).mono ?_); rintro e w54 ⟨rfl, hb⟩; refine ⟨_, rfl, ?_⟩; have n0_ := Aside0.mk (below_step (by repeat (first | (with_reducible first | exact HB.out | apply below_alloc | apply pw_below_drewN | apply below_drew1) | exact HB.out)) hb); clear HB; have HB := n0_; clear n0_; (try clear hb); (try clear hb2); (try clear hk); (try clear hi)))
  go_ret
  exact ⟨by first | rfl | (simp [errW_none, errW_some] <;> rfl) | (simp [*, errW_none, errW_some] <;> rfl), by repeat (first | (with_reducible first | exact HB.out | apply below_alloc | apply pw_below_drewN | apply below_drew1) | exact HB.out)⟩

/-- THE ONE PURE STATEMENT of culletlaw11_GenerPrefix: yours. -/
def culletlaw11_GenerPrefix.Pure : Prop := ∀ (a0 : Int) (a1 : Int) (a2 : Int) (a3 : Int), (Lit.int .i64 a0).wf = true → (Lit.int .i64 a1).wf = true → (Lit.int .i64 a2).wf = true → (Lit.int .i64 a3).wf = true → ∃ k, culletlaw11_GenerPrefix.f k a0 a1 a2 a3 = some true
theorem culletlaw11_GenerPrefix.walk (P : culletlaw11_GenerPrefix.Pure) (a0 : Int) (a1 : Int) (a2 : Int) (a3 : Int) (w : World) (w0 : (Lit.int .i64 a0).wf = true) (w1 : (Lit.int .i64 a1).wf = true) (w2 : (Lit.int .i64 a2).wf = true) (w3 : (Lit.int .i64 a3).wf = true) :
  Calls Try.prog 8 #[.int .i64 a0, .int .i64 a1, .int .i64 a2, .int .i64 a3] w fun e w' => e = .returned (.bool true) ∧ Below w.heap.size w w' := by
 obtain ⟨k, h⟩ := P a0 a1 a2 a3 w0 w1 w2 w3
 refine (culletlaw11_GenerPrefix.calls k a0 a1 a2 a3 true w h).mono ?_
 rintro e w' ⟨rfl, hd⟩
 exact ⟨rfl, hd⟩

end Go.Proofs.Ytkdoilmfchlpdaa.P
