/- The document's Read. -/
import Derived.Test.YtdgfbamhnmnliaaDoorPF
namespace Go.Proofs.YtdgfbamhnmnliaaDoor.A
open Go.RowKit Go.Deep Go.Proofs.YtdgfbamhnmnliaaDoor.R Go.Proofs.YtdgfbamhnmnliaaDoorW.PrintWords Go.Proofs.YtdgfbamhnmnliaaDoorW.PrintLast Go.Proofs.YtdgfbamhnmnliaaDoorW.PrintMore
set_option linter.unusedVariables false
set_option linter.unusedSimpArgs false
set_option maxRecDepth 100000
/-- The document's source at block h. -/
structure Rsr (W : World) (h : Nat) (A : Option Addr) (cD : Nat) (A' : Option Addr) (cC : Nat) (D C : List Int) (f pl tu : Int) : Prop where
  blk : W.heap[h]? = some (.cells #[.slice A D.length cD, .slice A' C.length cC, .int .i64 f, .int .i64 pl, .int .i64 tu] 68 (0, 0))
  data : Kd.C (Kd.int .u8) W A D.length D
  chunks : Kd.C (Kd.int .i64) W A' C.length C
  dn : 0 < D.length → ∀ ad, A = some ad → ad.block ≠ h
theorem add_block (a : Addr) (n : Nat) : (a.add n).block = a.block := by unfold Addr.add; split <;> rfl
theorem C_other {k : IntKind} {W W' : World} {A : Option Addr} {n : Nat} {D : List Int} (h : Kd.C (Kd.int k) W A n D) (hb : 0 < n → ∀ ad, A = some ad → W'.heap[ad.block]? = W.heap[ad.block]?) : Kd.C (Kd.int k) W' A n D := by
  refine ⟨h.1, h.2.1, fun hn => ?_⟩
  obtain ⟨ad, rfl, hc⟩ := h.2.2 hn
  refine ⟨ad, rfl, fun j x hj => ?_⟩
  obtain ⟨c, c1, c2, c3⟩ := hc j x hj
  refine ⟨c, c1, c2, fun i u hu => ?_⟩
  have h1 := c3 i u hu
  have h2 := hb hn ad rfl
  simpa [World.cell?, add_block, h2] using h1
theorem ref_none (h : Nat) (n : Int) (w : World) (hn : n ≤ 0) : Calls Tryd.prog 13 #[.pointer (some ⟨h, 0, none⟩), .int .i64 n] w fun e w' => e = .returned (.tuple #[.slice none 0 0, .int .i64 0]) ∧ w = w' := by
  have h0 : decide (n ≤ 0) = true := decide_eq_true hn
  go_enter Tryd.func13, Tryd.ntmps13
  go_wp2
  go_ret2
  exact ⟨rfl, rfl⟩
set_option maxHeartbeats 1000000 in
theorem ref_broken (h : Nat) (A A' : Option Addr) (cD cC : Nat) (D C : List Int) (f : Int) (pl tu : Nat) (n : Nat) (w : World) (hS : Rsr w h A cD A' cC D C f pl tu) (hn : 0 < n) (hn2 : n ≤ 140737488355328) (hf : 0 ≤ f) (hfp : (pl : Int) = f) :
    Calls Tryd.prog 13 #[.pointer (some ⟨h, 0, none⟩), .int .i64 (n : Int)] w fun e w' => e = .returned (.tuple #[.slice none 0 0, .int .i64 2]) ∧ ∃ m, w' = w.drewN m := by
  have k2 := cell_of_row w h 2 _ 68 (0, 0) hS.blk
  have k3 := cell_of_row w h 3 _ 68 (0, 0) hS.blk
  simp only [List.getElem?_toArray, List.getElem?_cons_succ, List.getElem?_cons_zero] at k2 k3
  have h0 : decide ((n : Int) ≤ 0) = false := decide_eq_false (by omega)
  have hpf : ((pl : Int) == f) = true := beq_iff_eq.2 hfp
  have hf0 : decide (0 ≤ f) = true := decide_eq_true hf
  clear hS hfp
  go_enter Tryd.func13, Tryd.ntmps13
  go_wp2
  go_quiet (fail)
  go_wp2
  go_ret2
  exact ⟨rfl, _, by first | rfl | rw [World.drewN_drewN]⟩
set_option maxHeartbeats 1000000 in
theorem ref_end (h : Nat) (A A' : Option Addr) (cD cC : Nat) (D C : List Int) (f : Int) (pl tu : Nat) (n : Nat) (w : World) (hS : Rsr w h A cD A' cC D C f pl tu) (hn : 0 < n) (hn2 : n ≤ 140737488355328) (hfp : 0 ≤ f → ¬ (pl : Int) = f) (hpl : pl = D.length) :
    Calls Tryd.prog 13 #[.pointer (some ⟨h, 0, none⟩), .int .i64 (n : Int)] w fun e w' => e = .returned (.tuple #[.slice none 0 0, .int .i64 1]) ∧ ∃ m, w' = w.drewN m := by
  have k0 := cell_of_row w h 0 _ 68 (0, 0) hS.blk
  have k2 := cell_of_row w h 2 _ 68 (0, 0) hS.blk
  have k3 := cell_of_row w h 3 _ 68 (0, 0) hS.blk
  simp only [List.getElem?_toArray, List.getElem?_cons_succ, List.getElem?_cons_zero] at k0 k2 k3
  have h0 : decide ((n : Int) ≤ 0) = false := decide_eq_false (by omega)
  have hl1 : ((pl : Int) == (D.length : Int)) = true := beq_iff_eq.2 (by omega)
  clear hS hpl
  go_enter Tryd.func13, Tryd.ntmps13
  by_cases hf : 0 ≤ f
  · have hf0 : decide (0 ≤ f) = true := decide_eq_true hf
    have hpf : ((pl : Int) == f) = false := beq_eq_false_iff_ne.2 (hfp hf)
    clear hfp
    go_wp2
    go_quiet (fail)
    go_wp2
    go_quiet (fail)
    go_wp2
    go_ret2
    exact ⟨rfl, _, by first | rfl | (rw [World.drewN_drewN]; done) | (rw [World.drewN_drewN, World.drewN_drewN]; done) | (rw [World.drewN_drewN, World.drewN_drewN, World.drewN_drewN])⟩
  · have hf0 : decide (0 ≤ f) = false := decide_eq_false hf
    clear hfp
    go_wp2
    go_quiet (fail)
    go_wp2
    go_quiet (fail)
    go_wp2
    go_ret2
    exact ⟨rfl, _, by first | rfl | (rw [World.drewN_drewN]; done) | (rw [World.drewN_drewN, World.drewN_drewN]; done) | (rw [World.drewN_drewN, World.drewN_drewN, World.drewN_drewN])⟩
theorem C_sub {W : World} {ad : Addr} {n : Nat} {D : List Int} (h : Kd.C (Kd.int .u8) W (some ad) n D) (p m : Nat) (hpm : p + m ≤ n) : Kd.C (Kd.int .u8) W (some (ad.add p)) m ((D.drop p).take m) := by
  have h1 := h.1
  have h2 := h.2.1
  refine ⟨by rw [List.length_take, List.length_drop]; omega, by omega, fun hm => ⟨_, rfl, ?_⟩⟩
  obtain ⟨ad', he, hc⟩ := h.2.2 (by omega)
  obtain rfl : ad = ad' := Option.some.inj he
  intro j x hj
  have hjm : j < m := by
    rcases Nat.lt_or_ge j m with h | h
    · exact h
    · rw [List.getElem?_eq_none (by rw [List.length_take]; omega)] at hj; cases hj
  rw [List.getElem?_take_of_lt hjm, List.getElem?_drop] at hj
  obtain ⟨c, c1, c2, c3⟩ := hc _ _ hj
  refine ⟨c, c1, c2, fun i u hu => ?_⟩
  rw [addr_add]
  have := c3 i u hu
  rw [show (p + j) * (Kd.int .u8).sz + i = p + (j * (Kd.int .u8).sz + i) from by show (p + j) * 1 + i = p + (j * 1 + i); omega] at this
  exact this
set_option maxHeartbeats 4000000 in
theorem ref_main (h : Nat) (A A' : Option Addr) (cD cC : Nat) (D C : List Int) (f : Int) (pl tu : Nat) (n : Nat) (w : World) (hS : Rsr w h A cD A' cC D C f pl tu) (hn : 0 < n) (hn2 : n ≤ 140737488355328) (hfp : 0 ≤ f → (pl : Int) < f) (hf2 : f ≤ 9223372036854775807) (hpl : pl < D.length) (hD : D.length ≤ 140737488355328) (hcD : D.length ≤ cD) (hCl : C.length ≤ 140737488355328) (htu : tu < 2 ^ 60) (kk : Nat) (hkk : kk = (rdM D C f pl tu n).toNat) :
    Calls Tryd.prog 13 #[.pointer (some ⟨h, 0, none⟩), .int .i64 (n : Int)] w fun e w' => ∃ v, e = .returned (.tuple #[v, .int .i64 0]) ∧ Kd.R (Kd.int .u8) 5 w' w.heap.size (fun _ => True) v ((D.drop pl).take kk) ∧
      w'.heap[h]? = some (.cells #[.slice A D.length cD, .slice A' C.length cC, .int .i64 f, .int .i64 ((pl + kk : Nat) : Int), .int .i64 ((tu + 1 : Nat) : Int)] 68 (0, 0)) ∧ Fr (fun k => k = h) w w' := by
  have HKK := Aside0.mk hkk
  have k0 := cell_of_row w h 0 _ 68 (0, 0) hS.blk
  have k1 := cell_of_row w h 1 _ 68 (0, 0) hS.blk
  have k2 := cell_of_row w h 2 _ 68 (0, 0) hS.blk
  have k3 := cell_of_row w h 3 _ 68 (0, 0) hS.blk
  have k4 := cell_of_row w h 4 _ 68 (0, 0) hS.blk
  have f4 : w.frozen? ⟨h, 4, none⟩ = false := blk_frozen hS.blk _
  simp only [List.getElem?_toArray, List.getElem?_cons_succ, List.getElem?_cons_zero] at k0 k1 k2 k3 k4
  have HS := Aside0.mk hS
  have h0 : decide ((n : Int) ≤ 0) = false := decide_eq_false (by omega)
  have hl1 : ((pl : Int) == (D.length : Int)) = false := beq_eq_false_iff_ne.2 (by omega)
  have hpf : ((pl : Int) == f) = false := beq_eq_false_iff_ne.2 (fun e => by have := hfp (by omega); omega)
  have ed : IntKind.i64.wrap ((D.length : Int) - (pl : Int)) = (D.length : Int) - (pl : Int) := by rw [IntKind.wrap_i64]; omega
  obtain ⟨hA1, hA2⟩ := rdA_le D pl n
  obtain ⟨hB1, hB2⟩ := rdB_le D f pl n
  have hA3 := rdM_le D C f pl tu n
  obtain ⟨a1, ha1⟩ : ∃ a1, a1 = rdA D pl n := ⟨_, rfl⟩
  obtain ⟨a2, ha2⟩ : ∃ a2, a2 = rdB D f pl n := ⟨_, rfl⟩
  obtain ⟨a3, ha3⟩ : ∃ a3, a3 = rdM D C f pl tu n := ⟨_, rfl⟩
  rw [← ha1] at hA1 hA2 hB1
  rw [← ha2] at hB1 hB2 hA3
  rw [← ha3] at hA3
  have H1 := Aside0.mk ha1
  have H2 := Aside0.mk ha2
  have H3 := Aside0.mk ha3
  clear hS ha1 ha2 ha3 hkk
  go_enter Tryd.func13, Tryd.ntmps13
  go_upto_region 3 with fail
  go_cut [26] (fun v26 wx => v26 = .bool false ∧ ∃ m, wx = w.drewN m)
  case first =>
    by_cases hf : 0 ≤ f
    · have hf0 : decide (0 ≤ f) = true := decide_eq_true hf
      go_quiet (fail)
      go_wp2
      go_meet
      exact ⟨rfl, _, rfl⟩
    · have hf0 : decide (0 ≤ f) = false := decide_eq_false hf
      go_quiet (fail)
      go_wp2
      go_meet
      exact ⟨rfl, _, rfl⟩
  case rest =>
  obtain ⟨rfl, m0, rfl⟩ := hcut
  go_wp2
  go_quiet (fail)
  go_wp2
  go_quiet (fail)
  go_upto_if 49 with fail
  go_cut [6] (fun v6 wx => v6 = .int .i64 a1 ∧ ∃ m, wx = w.drewN m)
  case first =>
    by_cases hA : (D.length : Int) - (pl : Int) < (n : Int)
    · have hA0 : decide ((D.length : Int) - (pl : Int) < (n : Int)) = true := decide_eq_true hA
      go_wp2
      go_quiet (fail)
      go_wp2
      go_meet
      exact ⟨congrArg (Value.int .i64) (by rw [H1.out]; unfold rdA; split <;> omega), _, by first | rfl | (rw [World.drewN_drewN]; done) | (rw [World.drewN_drewN, World.drewN_drewN]; done) | (rw [World.drewN_drewN, World.drewN_drewN, World.drewN_drewN])⟩
    · have hA0 : decide ((D.length : Int) - (pl : Int) < (n : Int)) = false := decide_eq_false hA
      go_wp2
      go_meet
      exact ⟨congrArg (Value.int .i64) (by rw [H1.out]; unfold rdA; split <;> omega), _, by first | rfl | (rw [World.drewN_drewN]; done) | (rw [World.drewN_drewN, World.drewN_drewN]; done) | (rw [World.drewN_drewN, World.drewN_drewN, World.drewN_drewN])⟩
  case rest =>
  obtain ⟨rfl, m1, rfl⟩ := hcut
  go_upto_region 10 with fail
  go_cut [77] (fun v77 wx => v77 = .bool (decide (0 ≤ f) && decide (f - (pl : Int) < a1)) ∧ ∃ m, wx = w.drewN m)
  case first =>
    by_cases hf : 0 ≤ f
    · have hf0 : decide (0 ≤ f) = true := decide_eq_true hf
      have ef : IntKind.i64.wrap (f - (pl : Int)) = f - (pl : Int) := by rw [IntKind.wrap_i64]; omega
      go_quiet (fail)
      go_wp2
      go_meet
      exact ⟨by rw [hf0, Bool.true_and], _, by first | rfl | (rw [World.drewN_drewN]; done) | (rw [World.drewN_drewN, World.drewN_drewN]; done) | (rw [World.drewN_drewN, World.drewN_drewN, World.drewN_drewN])⟩
    · have hf0 : decide (0 ≤ f) = false := decide_eq_false hf
      go_quiet (fail)
      go_wp2
      go_meet
      exact ⟨by rw [hf0, Bool.false_and], _, by first | rfl | (rw [World.drewN_drewN]; done) | (rw [World.drewN_drewN, World.drewN_drewN]; done) | (rw [World.drewN_drewN, World.drewN_drewN, World.drewN_drewN])⟩
  case rest =>
  obtain ⟨rfl, m1b, rfl⟩ := hcut
  go_upto_if 77 with fail
  go_cut [6] (fun v6 wx => v6 = .int .i64 a2 ∧ ∃ m, wx = w.drewN m)
  case first =>
    by_cases hf : 0 ≤ f ∧ f - (pl : Int) < a1
    · have hf0 : (decide (0 ≤ f) && decide (f - (pl : Int) < a1)) = true := by rw [decide_eq_true hf.1, decide_eq_true hf.2]; rfl
      rw [hf0]
      have ef : IntKind.i64.wrap (f - (pl : Int)) = f - (pl : Int) := by rw [IntKind.wrap_i64]; omega
      go_wp2
      go_quiet (fail)
      go_wp2
      go_meet
      exact ⟨congrArg (Value.int .i64) (by rw [H2.out]; unfold rdB; rw [if_pos hf.1, ← H1.out]; split <;> omega), _, by first | rfl | (rw [World.drewN_drewN]; done) | (rw [World.drewN_drewN, World.drewN_drewN]; done) | (rw [World.drewN_drewN, World.drewN_drewN, World.drewN_drewN])⟩
    · have hf0 : (decide (0 ≤ f) && decide (f - (pl : Int) < a1)) = false := by
        rcases Classical.em (0 ≤ f) with h | h
        · rw [decide_eq_false (fun e => hf ⟨h, e⟩), Bool.and_false]
        · rw [decide_eq_false h]; rfl
      rw [hf0]
      go_wp2
      go_meet
      exact ⟨congrArg (Value.int .i64) (by rw [H2.out]; unfold rdB; rw [← H1.out]; split <;> first | rfl | (split <;> omega)), _, by first | rfl | (rw [World.drewN_drewN]; done) | (rw [World.drewN_drewN, World.drewN_drewN]; done) | (rw [World.drewN_drewN, World.drewN_drewN, World.drewN_drewN])⟩
  case rest =>
  obtain ⟨rfl, m2, rfl⟩ := hcut
  go_upto_if 92 with fail
  go_cut [6] (fun v6 wx => v6 = .int .i64 a3 ∧ ∃ m, wx = w.drewN m)
  case first =>
    by_cases hC : C.length = 0
    · have hc0 : decide (((C.length : Nat) : Int) > 0) = false := decide_eq_false (by omega)
      go_wp2
      go_meet
      exact ⟨congrArg (Value.int .i64) (by rw [H3.out]; unfold rdM; rw [if_pos (List.eq_nil_of_length_eq_zero hC), ← H2.out]), _, by first | rfl | rw [World.drewN_drewN]⟩
    · have hc0 : decide (((C.length : Nat) : Int) > 0) = true := decide_eq_true (by omega)
      have hmod := Nat.mod_lt tu (show 0 < C.length by omega)
      obtain ⟨r, hr⟩ : ∃ r, r = tu % C.length := ⟨_, rfl⟩
      obtain ⟨ad, hAC, hcell⟩ := Kd.at_int HS.out.chunks (r : Int) (by omega) (by omega)
      subst hAC
      rw [Int.toNat_natCast] at hcell
      have em : Int.tmod (tu : Int) (C.length : Int) = (r : Int) := by rw [hr, Int.tmod_eq_emod_of_nonneg (by omega)]; exact (Int.natCast_emod _ _).symm
      have hz0 : ((C.length : Int) == 0) = false := beq_eq_false_iff_ne.2 (by omega)
      have hr1 : (r : Int) < (C.length : Int) := by omega
      have HC3 := Aside0.mk (show a3 = if a2 ≤ rd C (r : Int) then a2 else rd C (r : Int) by
        rw [H3.out]; unfold rdM
        rw [if_neg (fun e => hC (by rw [e]; rfl)), ← H2.out, ← hr]; rfl)
      obtain ⟨z, hz⟩ : ∃ z, z = rd C (r : Int) := ⟨_, rfl⟩
      rw [← hz] at hcell HC3
      clear hz hr hmod
      go_wp2
      go_quiet (fail)
      go_wp2
      all_goals
        go_meet
        exact ⟨congrArg (Value.int .i64) (by rw [HC3.out]; split <;> omega), _, by first | rfl | (rw [World.drewN_drewN]; done) | (rw [World.drewN_drewN, World.drewN_drewN]; done) | (rw [World.drewN_drewN, World.drewN_drewN, World.drewN_drewN])⟩
  case rest =>
  obtain ⟨rfl, m3, rfl⟩ := hcut
  by_cases hm : a3 ≤ 0
  · have hm0 : decide (a3 ≤ 0) = true := decide_eq_true hm
    go_wp2
    obtain rfl : kk = 0 := by rw [HKK.out, ← H3.out]; omega
    go_ret2
    have hb := blk_put (blk_drewN HS.out.blk m3) 4 (.int .i64 ((tu : Int) + 1)) rfl
    refine ⟨_, rfl, Kd.R_nil _ _ _ _ _, hb, ((Fr.refl (fun k => k = h) _).drewN m3).setCell (p := ⟨h, 4, none⟩) rfl _⟩
  · have hm0 : decide (a3 ≤ 0) = false := decide_eq_false hm
    obtain ⟨m, rfl⟩ : ∃ m : Nat, a3 = (m : Int) := ⟨a3.toNat, by omega⟩
    obtain ⟨ad, hAD, hcD⟩ := HS.out.data.2.2 (by omega)
    subst hAD
    obtain rfl : m = kk := by rw [HKK.out, ← H3.out]; omega
    have es : IntKind.i64.wrap ((pl : Int) + (m : Int)) = (pl : Int) + (m : Int) := by rw [IntKind.wrap_i64]; omega
    have es2 : (pl : Int) + (m : Int) ≤ (cD : Int) := by omega
    have es3 : (pl : Int) ≤ (pl : Int) + (m : Int) := by omega
    have hsl : Value.slice (if cD = pl then some ad else some (ad.add pl)) (((pl : Int) + (m : Int)).toNat - pl) (cD - pl) = .slice (some (ad.add pl)) m (cD - pl) := by
      rw [if_neg (by omega)]; congr 1; omega
    have HSL := Aside0.mk hsl
    have hb4 := blk_put (blk_drewN HS.out.blk m3) 4 (.int .i64 ((tu : Int) + 1)) rfl
    have HF4 := Aside0.mk (((Fr.refl (fun k => k = h) w).drewN m3).setCell (p := ⟨h, 4, none⟩) rfl (.int .i64 ((tu : Int) + 1)))
    have HC4 := Aside0.mk (C_sub (C_other (W' := (w.drewN m3).setCell ⟨h, 4, none⟩ (.int .i64 ((tu : Int) + 1))) HS.out.data (fun _ a ha => Below.heap_setCell _ _ _ _ (HS.out.dn (by omega) a ha))) pl m (by omega))
    have HSZ := Aside0.mk (show ((w.drewN m3).setCell ⟨h, 4, none⟩ (.int .i64 ((tu : Int) + 1))).heap.size = w.heap.size by simp [World.setCell])
    clear hcD hsl
    go_wp2
    generalize (w.drewN m3).setCell ⟨h, 4, none⟩ (.int .i64 ((tu : Int) + 1)) = w4 at hb4 HF4 HC4 HSZ ⊢
    clear k0 k1 k2 k3 k4 f4
    have k0 := cell_of_row w4 h 0 _ 68 (0, 0) hb4
    have k3 := cell_of_row w4 h 3 _ 68 (0, 0) hb4
    simp only [List.getElem?_toArray, List.getElem?_cons_succ, List.getElem?_cons_zero, List.setIfInBounds_toArray, List.set_cons_succ, List.set_cons_zero] at hb4 k0 k3
    have HB4 := Aside0.mk hb4
    have hBR := Below.refl w4.heap.size w4
    clear hb4
    go_region_held3 (fun w' => w'.cell? ⟨h, 0, none⟩ = some (.slice (some ad) D.length cD) ∧ w'.cell? ⟨h, 3, none⟩ = some (.int .i64 pl) ∧ Below w4.heap.size w4 w')
      (first
        | ((refine ⟨?_, ?_, ?_⟩) <;> (first | assumption | exact below_drew ‹_› | exact pw_cell_below hbD k0 | exact pw_cell_below hbD k3 | exact pw_cell_below (below_alloc (Below.refl _ _) _) (‹_ ∧ _ ∧ Below w4.heap.size w4 _›).1 | exact pw_cell_below (below_alloc (Below.refl _ _) _) (‹_ ∧ _ ∧ Below w4.heap.size w4 _›).2.1 | exact below_alloc (‹_ ∧ _ ∧ Below w4.heap.size w4 _›).2.2 _ | go_keep))
        | go_keep)
      (first
        | (have hBel := (‹_ ∧ _ ∧ Below w4.heap.size w4 _›).2.2; (refine held_of (by rfl) (Kd.R_append_rows_step (Kd.int .u8) w4.heap.size ?_ (.tmp 122) (.tmp 137) 22 5 (.int .u8 0) 1 ?_ Tryd.underlying22 inf5 rfl (by decide) (by decide) (.slice (some ⟨w4.heap.size, 0, none⟩) 0 0) [] ((D.drop pl).take m) (some (ad.add pl)) m (cD - pl) (fun _ => True) (fun _ => False) ?_ ?_
                (empty_R .u8 5 w4.drew (Nat.le_refl _) trivial) (Kd.C_below HC4.out hBel) (fun x cs h => h) (fun _ h => h.elim) (fun _ _ => trivial) hBel (Below.size hBel) (by show (0 + m) * 1 ≤ _; omega) ?_)); rfl; rfl; rfl; exact HSL.out; intro vD wD hRD hbD hgD hatD; obtain ⟨AD, cD', rfl⟩ := Kd.R_slice hRD))
    have HD := Aside0.mk hRD
    have HB5 := Aside0.mk (blk_below HB4.out hbD)
    have q3 := cell_of_row wD h 3 _ 68 (0, 0) HB5.out
    have f3 : wD.frozen? ⟨h, 3, none⟩ = false := blk_frozen HB5.out _
    simp only [List.getElem?_toArray, List.getElem?_cons_succ, List.getElem?_cons_zero] at q3
    have HBD := Aside0.mk hbD
    have hmin : min m (D.length - pl) = m := by omega
    have hlt : ((D.drop pl).take m).length = m := by rw [List.length_take, List.length_drop]; omega
    rw [List.nil_append, hlt] at HD
    clear k0 k3 hBR hbD hRD hgD hatD hBel hlt
    go_wp2
    go_ret2
    clear h
    have hh : h < w.heap.size := blk_lt HS.out.blk
    refine ⟨_, rfl, ?_, blk_put HB5.out 3 (.int .i64 ((pl : Int) + (m : Int))) rfl, (HF4.out.trans (Fr.of_below HBD.out) (fun b hb (e : b = h) => e)).setCell (p := ⟨h, 3, none⟩) rfl _⟩
    have := HD.out
    rw [HSZ.out] at this
    exact Kd.R_mono (Kd.R_far (Kd.R_bound this) (p := ⟨h, 3, none⟩) (fun k hk e => by have := hk.2.1; have e : k = h := e; omega) _) (fun _ _ => trivial)
end Go.Proofs.YtdgfbamhnmnliaaDoor.A
