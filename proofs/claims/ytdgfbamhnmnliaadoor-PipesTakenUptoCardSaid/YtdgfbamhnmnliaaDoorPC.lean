/- Sources and sinks: the small ways, NewSink, Write, Bytes, Failure, Taken. -/
import Derived.Test.YtdgfbamhnmnliaaDoorPB
import Derived.StillTailTactics
import Derived.WalkSpells
namespace Go.Proofs.YtdgfbamhnmnliaaDoor.A
open Go.RowKit Go.Deep Go.Proofs.YtdgfbamhnmnliaaDoor.R Go.Proofs.YtdgfbamhnmnliaaDoorW.PrintWords Go.Proofs.YtdgfbamhnmnliaaDoorW.PrintLast Go.Proofs.YtdgfbamhnmnliaaDoorW.PrintMore
set_option linter.unusedVariables false
set_option linter.unusedSimpArgs false
def errNil : Value := .iface 45 (.int .i64 1)
set_option maxRecDepth 100000
theorem read_nil (A : Option Addr) (n cap : Nat) (w : World) : Calls Tryd.prog 12 #[.pointer none, .slice A n cap] w fun e w' => e = .returned (.tuple #[.int .i64 0, .iface 45 (.int .i64 1)]) ∧ w = w' := by
  go_enter Tryd.func12, Tryd.ntmps12
  go_wp2
  go_ret2
  exact ⟨rfl, rfl⟩
theorem read_none (g : Nat) (A : Option Addr) (cap : Nat) (w : World) : Calls Tryd.prog 12 #[.pointer (some ⟨g, 0, none⟩), .slice A 0 cap] w fun e w' => e = .returned (.tuple #[.int .i64 0, .nilIface]) ∧ w = w' := by
  go_enter Tryd.func12, Tryd.ntmps12
  go_wp2
  go_ret2
  exact ⟨rfl, rfl⟩
set_option maxHeartbeats 4000000 in
theorem read_broken (lo hi g bk : Nat) (vD vC : Value) (D C : List Int) (f code : Int) (pl tu : Nat) (A : Option Addr) (n cap : Nat) (w : World) (hS : Src w lo hi g bk vD vC D C f code pl tu) (hn : 0 < n) (hn2 : n ≤ 140737488355328) (hf : 0 ≤ f) (hfp : (pl : Int) = f) :
    Calls Tryd.prog 12 #[.pointer (some ⟨g, 0, none⟩), .slice A n cap] w fun e w' => e = .returned (.tuple #[.int .i64 0, .iface 59 (.pointer (some ⟨bk, 0, none⟩))]) ∧ ∃ m, w' = w.drewN m := by
  have k2 := cell_of_row w g 2 _ 66 (0, 0) hS.blk
  have k3 := cell_of_row w g 3 _ 66 (0, 0) hS.blk
  have k4 := cell_of_row w g 4 _ 66 (0, 0) hS.blk
  simp only [List.getElem?_toArray, List.getElem?_cons_succ, List.getElem?_cons_zero] at k2 k3 k4
  have hl0 : ((n : Int) == 0) = false := beq_eq_false_iff_ne.2 (by omega)
  have hpf : ((pl : Int) == f) = true := beq_iff_eq.2 hfp
  have hf0 : decide (0 ≤ f) = true := decide_eq_true hf
  clear hS hfp
  go_enter Tryd.func12, Tryd.ntmps12
  go_wp2
  go_quiet (fail)
  go_wp2
  go_quiet (fail)
  go_wp2
  go_ret2
  exact ⟨rfl, _, by first | rfl | (rw [World.drewN_drewN]; done) | (rw [World.drewN_drewN, World.drewN_drewN])⟩
set_option maxHeartbeats 4000000 in
theorem read_end (lo hi g bk : Nat) (vD vC : Value) (D C : List Int) (f code : Int) (pl tu : Nat) (A : Option Addr) (n cap : Nat) (ae : Addr) (te : TypeId) (w : World) (hS : Src w lo hi g bk vD vC D C f code pl tu) (hn : 0 < n) (hn2 : n ≤ 140737488355328) (hfp : 0 ≤ f → ¬ (pl : Int) = f) (hpl : pl = D.length) (hE : w.cell? ⟨0, 0, none⟩ = some (.iface te (.pointer (some ae)))) :
    Calls Tryd.prog 12 #[.pointer (some ⟨g, 0, none⟩), .slice A n cap] w fun e w' => e = .returned (.tuple #[.int .i64 0, .iface te (.pointer (some ae))]) ∧ ∃ m, w' = w.drewN m := by
  obtain ⟨AD, cD, rfl⟩ := Kd.R_slice hS.data
  have k0 := cell_of_row w g 0 _ 66 (0, 0) hS.blk
  have k2 := cell_of_row w g 2 _ 66 (0, 0) hS.blk
  have k4 := cell_of_row w g 4 _ 66 (0, 0) hS.blk
  simp only [List.getElem?_toArray, List.getElem?_cons_succ, List.getElem?_cons_zero] at k0 k2 k4
  have hl0 : ((n : Int) == 0) = false := beq_eq_false_iff_ne.2 (by omega)
  have hl1 : ((pl : Int) == (D.length : Int)) = true := beq_iff_eq.2 (by omega)
  clear hS hpl
  go_enter Tryd.func12, Tryd.ntmps12
  by_cases hf : 0 ≤ f
  · have hf0 : decide (0 ≤ f) = true := decide_eq_true hf
    have hpf : ((pl : Int) == f) = false := beq_eq_false_iff_ne.2 (hfp hf)
    clear hfp
    go_wp2
    go_quiet (fail)
    go_wp2
    go_quiet (fail)
    go_wp2
    go_quiet (fail)
    go_wp2
    go_ret2
    exact ⟨rfl, _, by first | rfl | (rw [World.drewN_drewN]; done) | (rw [World.drewN_drewN, World.drewN_drewN])⟩
  · have hf0 : decide (0 ≤ f) = false := decide_eq_false hf
    clear hfp
    go_wp2
    go_quiet (fail)
    go_wp2
    go_quiet (fail)
    go_wp2
    go_quiet (fail)
    go_wp2
    go_ret2
    exact ⟨rfl, _, by first | rfl | (rw [World.drewN_drewN]; done) | (rw [World.drewN_drewN, World.drewN_drewN])⟩
/-- A sink at block g. -/
structure Snk (W : World) (lo g bk : Nat) (vD : Value) (D : List Int) (f code : Int) : Prop where
  blk : W.heap[g]? = some (.cells #[vD, .int .i64 f, .pointer (some ⟨bk, 0, none⟩)] 77 (0, 0))
  brk : W.heap[bk]? = some (.cells #[.int .i64 code] 61 (0, 0))
  g1 : lo ≤ g
  b1 : lo ≤ bk
  data : Kd.R (Kd.int .u8) 5 W lo (fun k => lo ≤ k ∧ k ≠ g) vD D
theorem newSink (f code : Int) (w : World) : Calls Tryd.prog 19 #[.agg #[.int .i64 f, .int .i64 code]] w fun e w' => ∃ g bk, e = .returned (.pointer (some ⟨g, 0, none⟩)) ∧ Snk w' w.heap.size g bk (.slice none 0 0) [] f code ∧ Below w.heap.size w w' := by
  go_enter Tryd.func19, Tryd.ntmps19
  go_wp2
  go_ret
  refine ⟨_, w.heap.size + 1, rfl, ⟨?_, ?_, ?_, ?_, Kd.R_nil _ _ _ _ _⟩, ((Below.refl _ _).alloc (Nat.le_refl _) _ |>.alloc (by simp) _).alloc (by simp; omega) _⟩
  · have := blk_new ((w.alloc (.cells #[.int .i64 f, .int .i64 code] 51)).alloc (.cells #[.int .i64 code] 61)) (.cells #[.slice none 0 0, .int .i64 f, .pointer (some ⟨w.heap.size + 1, 0, none⟩)] 77 (0, 0))
    simpa using this
  · have := blk_alloc (blk_new (w.alloc (.cells #[.int .i64 f, .int .i64 code] 51)) (.cells #[.int .i64 code] 61 (0, 0))) (.cells #[.slice none 0 0, .int .i64 f, .pointer (some ⟨w.heap.size + 1, 0, none⟩)] 77 (0, 0))
    simpa using this
  · omega
  · omega
set_option maxHeartbeats 4000000 in
theorem write_nil (A : Option Addr) (n cap : Nat) (w : World) : Calls Tryd.prog 27 #[.pointer none, .slice A n cap] w fun e w' => e = .returned (.tuple #[.int .i64 0, .iface 45 (.int .i64 1)]) ∧ w = w' := by
  go_enter Tryd.func27, Tryd.ntmps27
  go_wp2
  go_ret2
  exact ⟨rfl, rfl⟩
set_option maxHeartbeats 4000000 in
theorem write_full (lo g bk : Nat) (vD : Value) (D P : List Int) (f code : Int) (A : Option Addr) (cap : Nat) (w : World) (hS : Snk w lo g bk vD D f code) (hP : Kd.C (Kd.int .u8) w A P.length P) (hl : D.length + P.length ≤ 140737488355328) (hf2 : f ≤ 9223372036854775807) (hroom : 0 ≤ f → (P.length : Int) ≤ f - (D.length : Int)) (hlo : lo ≤ w.heap.size) :
    Calls Tryd.prog 27 #[.pointer (some ⟨g, 0, none⟩), .slice A P.length cap] w fun e w' => ∃ vD', e = .returned (.tuple #[.int .i64 (P.length : Int), .nilIface]) ∧ Snk w' lo g bk vD' (D ++ P) f code ∧ Fr (fun k => k = g ∨ vD.ownBlock = some k) w w' ∧ (vD'.ownBlock = vD.ownBlock ∨ ∃ b, vD'.ownBlock = some b ∧ w.heap.size ≤ b) := by
  obtain ⟨AD, cD, rfl⟩ := Kd.R_slice hS.data
  have k0 := cell_of_row w g 0 _ 77 (0, 0) hS.blk
  have k1 := cell_of_row w g 1 _ 77 (0, 0) hS.blk
  have f0 : w.frozen? ⟨g, 0, none⟩ = false := blk_frozen hS.blk _
  simp only [List.getElem?_toArray, List.getElem?_cons_succ, List.getElem?_cons_zero] at k0 k1
  have HS := Aside0.mk hS
  have HP := Aside0.mk hP
  have HL := Aside0.mk hl
  have HLO := Aside0.mk hlo
  clear hS hP hlo
  go_enter Tryd.func27, Tryd.ntmps27
  go_upto_region 3 with fail
  go_cut [29] (fun v29 wx => v29 = .bool false ∧ ∃ m, wx = w.drewN m)
  case first =>
    by_cases hf : 0 ≤ f
    · have hf0 : decide (0 ≤ f) = true := decide_eq_true hf
      have hr := hroom hf
      have ef : IntKind.i64.wrap (f - (D.length : Int)) = f - (D.length : Int) := by rw [IntKind.wrap_i64]; omega
      have hlt : decide (f - (D.length : Int) < (P.length : Int)) = false := decide_eq_false (by omega)
      clear hroom
      go_quiet (fail)
      go_wp2
      go_meet
      exact ⟨rfl, _, rfl⟩
    · have hf0 : decide (0 ≤ f) = false := decide_eq_false hf
      clear hroom
      go_quiet (fail)
      go_wp2
      go_meet
      exact ⟨rfl, _, rfl⟩
  case rest =>
  obtain ⟨rfl, m, rfl⟩ := hcut
  have hng : some g ≠ (Value.slice AD D.length cD).ownBlock := fun e => by
    obtain ⟨cells, hc⟩ := own_typed (Kd.own_of_R HS.out.data) g e.symm
    rw [HS.out.blk] at hc
    injection hc with hc
    injection hc with _ hc
    cases hc
  have HNG := Aside0.mk hng
  have HFR := Aside0.mk (show ∀ k, w.heap.size ≤ k → lo ≤ k ∧ k ≠ g from fun k hk => ⟨Nat.le_trans HLO.out hk, fun e => by have := blk_lt HS.out.blk; omega⟩)
  clear hng
  go_wp2_with (first
    | (refine Kd.R_append_row (w0 := w.drewN m) (Value.int .u8) 0 lo rfl (.tmp 61) (.tmp 62) 22 5 (.int .u8 0) 1 rfl Tryd.underlying22 inf5 rfl (by decide) (.slice AD D.length cD) D P A P.length cap (fun k => lo ≤ k ∧ k ≠ g) rfl rfl HFR.out (Kd.R_drewN HS.out.data m) (Kd.C_drewN HP.out m) (Below.refl _ _) HLO.out (by have := HL.out; omega) ?_
       intro v1 w1 hR hb hg hat
       obtain ⟨A1, c1, rfl⟩ := Kd.R_slice hR
       have hb1 := blk_grown (blk_drewN HS.out.blk m) hg HNG.out
       have q0 := cell_of_row w1 g 0 _ 77 (0, 0) hb1
       have g0 : w1.frozen? ⟨g, 0, none⟩ = false := blk_frozen hb1 _
       simp only [List.getElem?_toArray, List.getElem?_cons_zero] at q0
       have HB1 := Aside0.mk hb1
       have HR1 := Aside0.mk hR
       have HG1 := Aside0.mk hg
       have HAT := Aside0.mk hat
       clear hb1 hR hb hg hat k0 f0))
  go_ret2
  have hbk : w1.heap[bk]? = some (.cells #[.int .i64 code] 61 (0, 0)) := blk_grown (blk_drewN HS.out.brk m) HG1.out (fun e => by
    obtain ⟨cells, hc⟩ := own_typed (Kd.own_of_R HS.out.data) bk e.symm
    rw [HS.out.brk] at hc
    injection hc with hc
    injection hc with _ hc
    cases hc)
  have hbg : bk ≠ g := by
    intro e
    have h1 := HS.out.brk
    rw [e, HS.out.blk] at h1
    injection h1 with h1
    injection h1 with _ h1
    cases h1
  rw [List.length_append] at HR1 HAT
  exact ⟨_, rfl, ⟨blk_put HB1.out 0 _ rfl, blk_far hbk (p := ⟨g, 0, none⟩) hbg _, HS.out.g1, HS.out.b1, Kd.R_far HR1.out (p := ⟨g, 0, none⟩) (fun k hk => hk.2) _⟩,
    (⟨HG1.out.os, HG1.out.tape, HG1.out.output, HG1.out.size, fun k hk hn => HG1.out.block k hk (fun e => hn (.inr e.symm))⟩ : Fr _ w w1).setCell (p := ⟨g, 0, none⟩) (.inl rfl) _, HAT.out⟩
theorem bytes_nil (w : World) : Calls Tryd.prog 23 #[.pointer none] w fun e w' => e = .returned (.slice none 0 0) ∧ w = w' := by
  go_enter Tryd.func23, Tryd.ntmps23
  go_wp2
  go_ret
  exact ⟨rfl, rfl⟩
set_option maxHeartbeats 4000000 in
theorem bytes_is (lo g bk : Nat) (vD : Value) (D : List Int) (f code : Int) (w : World) (hS : Snk w lo g bk vD D f code) (hl : D.length ≤ 140737488355328) :
    Calls Tryd.prog 23 #[.pointer (some ⟨g, 0, none⟩)] w fun e w' => ∃ v, e = .returned v ∧ Kd.R (Kd.int .u8) 5 w' w.heap.size (fun _ => True) v D ∧ Below w.heap.size w w' := by
  obtain ⟨AD, cD, rfl⟩ := Kd.R_slice hS.data
  have k0 := cell_of_row w g 0 _ 77 (0, 0) hS.blk
  simp only [List.getElem?_toArray, List.getElem?_cons_zero] at k0
  have HP := Aside0.mk (Kd.R_reads' hS.data).2.2
  have HL := Aside0.mk hl
  clear hS hl
  go_enter Tryd.func23, Tryd.ntmps23
  go_wp2_with (first
    | (refine Kd.R_append_row (w0 := w) (Value.int .u8) 0 w.heap.size rfl (.const (.slice none 0 0)) (.tmp 8) 22 5 (.int .u8 0) 1 rfl Tryd.underlying22 inf5 rfl (by decide) (.slice none 0 0) [] D AD D.length cD (fun _ => True) rfl rfl (fun _ _ => trivial) (Kd.R_nil _ _ _ _ _) HP.out (Below.refl _ _) (Nat.le_refl _) (by show (0 + D.length) * 1 ≤ _; have := HL.out; omega) ?_
       intro v1 w1 hR hb hg hat
       have HR1 := Aside0.mk hR
       have HB1 := Aside0.mk hb
       clear hR hb hg hat k0))
  go_ret
  rw [List.nil_append] at HR1
  exact ⟨v1, rfl, HR1.out, HB1.out⟩
theorem sfail_nil (w : World) : Calls Tryd.prog 22 #[.pointer none] w fun e w' => e = .returned .nilIface ∧ w = w' := by
  go_enter Tryd.func22, Tryd.ntmps22
  go_wp2
  go_ret
  exact ⟨rfl, rfl⟩
theorem sfail_none (lo g bk : Nat) (vD : Value) (D : List Int) (f code : Int) (w : World) (hS : Snk w lo g bk vD D f code) (hf : f < 0) : Calls Tryd.prog 22 #[.pointer (some ⟨g, 0, none⟩)] w fun e w' => e = .returned .nilIface ∧ w = w' := by
  have k1 := cell_of_row w g 1 _ 77 (0, 0) hS.blk
  simp only [List.getElem?_toArray, List.getElem?_cons_succ, List.getElem?_cons_zero] at k1
  have hf0 : decide (f < 0) = true := decide_eq_true hf
  clear hS
  go_enter Tryd.func22, Tryd.ntmps22
  go_wp2
  go_ret
  exact ⟨rfl, rfl⟩
theorem sfail_is (lo g bk : Nat) (vD : Value) (D : List Int) (f code : Int) (w : World) (hS : Snk w lo g bk vD D f code) (hf : 0 ≤ f) : Calls Tryd.prog 22 #[.pointer (some ⟨g, 0, none⟩)] w fun e w' => e = .returned (.iface 59 (.pointer (some ⟨bk, 0, none⟩))) ∧ w = w' := by
  have k1 := cell_of_row w g 1 _ 77 (0, 0) hS.blk
  have k2 := cell_of_row w g 2 _ 77 (0, 0) hS.blk
  simp only [List.getElem?_toArray, List.getElem?_cons_succ, List.getElem?_cons_zero] at k1 k2
  have hf0 : decide (f < 0) = false := decide_eq_false (by omega)
  clear hS
  go_enter Tryd.func22, Tryd.ntmps22
  go_wp2
  go_ret
  exact ⟨rfl, rfl⟩
theorem fail_nil (w : World) : Calls Tryd.prog 15 #[.pointer none] w fun e w' => e = .returned .nilIface ∧ w = w' := by
  go_enter Tryd.func15, Tryd.ntmps15
  go_wp2
  go_ret
  exact ⟨rfl, rfl⟩
theorem fail_none (lo hi g bk : Nat) (vD vC : Value) (D C : List Int) (f code pl tu : Int) (w : World) (hS : Src w lo hi g bk vD vC D C f code pl tu) (hf : f < 0) : Calls Tryd.prog 15 #[.pointer (some ⟨g, 0, none⟩)] w fun e w' => e = .returned .nilIface ∧ w = w' := by
  have k2 := cell_of_row w g 2 _ 66 (0, 0) hS.blk
  simp only [List.getElem?_toArray, List.getElem?_cons_succ, List.getElem?_cons_zero] at k2
  have hf0 : decide (f < 0) = true := decide_eq_true hf
  clear hS
  go_enter Tryd.func15, Tryd.ntmps15
  go_wp2
  go_ret
  exact ⟨rfl, rfl⟩
theorem fail_is (lo hi g bk : Nat) (vD vC : Value) (D C : List Int) (f code pl tu : Int) (w : World) (hS : Src w lo hi g bk vD vC D C f code pl tu) (hf : 0 ≤ f) : Calls Tryd.prog 15 #[.pointer (some ⟨g, 0, none⟩)] w fun e w' => e = .returned (.iface 59 (.pointer (some ⟨bk, 0, none⟩))) ∧ w = w' := by
  have k2 := cell_of_row w g 2 _ 66 (0, 0) hS.blk
  have k3 := cell_of_row w g 3 _ 66 (0, 0) hS.blk
  simp only [List.getElem?_toArray, List.getElem?_cons_succ, List.getElem?_cons_zero] at k2 k3
  have hf0 : decide (f < 0) = false := decide_eq_false (by omega)
  clear hS
  go_enter Tryd.func15, Tryd.ntmps15
  go_wp2
  go_ret
  exact ⟨rfl, rfl⟩
theorem taken_nil (w : World) : Calls Tryd.prog 26 #[.pointer none] w fun e w' => e = .returned (.int .i64 0) ∧ w = w' := by
  go_enter Tryd.func26, Tryd.ntmps26
  go_wp2
  go_ret
  exact ⟨rfl, rfl⟩
theorem taken_is (lo hi g bk : Nat) (vD vC : Value) (D C : List Int) (f code pl tu : Int) (w : World) (hS : Src w lo hi g bk vD vC D C f code pl tu) : Calls Tryd.prog 26 #[.pointer (some ⟨g, 0, none⟩)] w fun e w' => e = .returned (.int .i64 pl) ∧ w = w' := by
  have k4 := cell_of_row w g 4 _ 66 (0, 0) hS.blk
  simp only [List.getElem?_toArray, List.getElem?_cons_succ, List.getElem?_cons_zero] at k4
  clear hS
  go_enter Tryd.func26, Tryd.ntmps26
  go_wp2
  go_ret
  exact ⟨rfl, rfl⟩
end Go.Proofs.YtdgfbamhnmnliaaDoor.A
