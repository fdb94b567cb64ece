/- Sources: what lies in memory; NewSource. -/
import Derived.Test.YtdgfbamhnmnliaaDoorProg
import Derived.Test.YtdgfbamhnmnliaaDoorWWords
import Derived.Test.YtdgfbamhnmnliaaDoorWMore
import Derived.Deep.RegionHeld3
import Derived.Deep.OwnRows
import Derived.Deep.LoopGhost
import Derived.Outline
import Derived.BigQuiet
import Derived.Deep.QuietTactic
namespace Go.Proofs.YtdgfbamhnmnliaaDoor.A
open Go.RowKit Go.Deep Go.Proofs.YtdgfbamhnmnliaaDoorW.PrintWords Go.Proofs.YtdgfbamhnmnliaaDoorW.PrintLast Go.Proofs.YtdgfbamhnmnliaaDoorW.PrintMore
set_option linter.unusedVariables false
set_option linter.unusedSimpArgs false
theorem inf5 : (Tryd.prog.info? 5).map (fun i => (i.zero, i.size, i.bytes)) = some (some (.int .u8 0), 1, 1) := by kernel_rfl
theorem inf3 : (Tryd.prog.info? 3).map (fun i => (i.zero, i.size, i.bytes)) = some (some (.int .i64 0), 1, 8) := by kernel_rfl
theorem below_of_grown {W w1 : World} (hg : W.grownBy w1 none) : Below W.heap.size W w1 := ⟨hg.os, hg.tape, hg.output, hg.size, fun i hi => hg.block i hi (by simp)⟩
theorem held_of {P : Program} {ops : Array Oper} {o : Oper} {a : Act} {W : World} {K : Act → World → Prop} {Q : Exit → Act → World → Prop} {E : Prop} (hgd : o.guard = none)
    (h : if Region.wanted o (yielded ops a.tmps) = true then Oper.wp P o a W K Q else K (a.put o.dst undef) W) : if Region.wanted o (yielded ops a.tmps) = true then Oper.wp P o a W K Q else E := by
  have hw : Region.wanted o (yielded ops a.tmps) = true := by simp [Region.wanted, hgd]
  rw [if_pos hw] at h
  rw [if_pos hw]
  exact h
/-- A source at block g: all its blocks lie from lo on, below hi. -/
structure Src (W : World) (lo hi g bk : Nat) (vD vC : Value) (D C : List Int) (f code pl tu : Int) : Prop where
  blk : W.heap[g]? = some (.cells #[vD, vC, .int .i64 f, .pointer (some ⟨bk, 0, none⟩), .int .i64 pl, .int .i64 tu] 66 (0, 0))
  brk : W.heap[bk]? = some (.cells #[.int .i64 code] 61 (0, 0))
  g1 : lo ≤ g
  g2 : g < hi
  b1 : lo ≤ bk
  b2 : bk < hi
  data : Kd.R (Kd.int .u8) 5 W lo (fun k => lo ≤ k ∧ k < hi ∧ k ≠ g) vD D
  chunks : Kd.R (Kd.int .i64) 3 W lo (fun k => lo ≤ k ∧ k < hi ∧ k ≠ g) vC C
  top : hi ≤ W.heap.size
theorem R_hi {k : IntKind} {e lo g t : Nat} {W : World} {ok : Nat → Prop} {v : Value} {xs : List Int} {cs : Array Value} (hg : W.heap[g]? = some (.cells cs t (0, 0))) (hne : e ≠ t) (h : Kd.R (Kd.int k) e W lo ok v xs) : Kd.R (Kd.int k) e W lo (fun b => lo ≤ b ∧ b < W.heap.size ∧ b ≠ g) v xs :=
  Kd.R_of_own (Kd.own_of_R h) (fun b hb => ⟨own_base (Kd.own_of_R h) b hb, own_lt (Kd.own_of_R h) b hb, fun e0 => by
    obtain ⟨cells, hc⟩ := own_typed (Kd.own_of_R h) b hb
    rw [e0, hg] at hc
    injection hc with hc
    injection hc with _ hc
    exact hne hc.symm⟩)
/-- The source lives on: only its own block may have turned, in its place and its turns. -/
theorem Src.step {W W' : World} {lo hi g bk : Nat} {vD vC : Value} {D C : List Int} {f code pl tu pl' tu' : Int} (h : Src W lo hi g bk vD vC D C f code pl tu) (hg : W'.heap[g]? = some (.cells #[vD, vC, .int .i64 f, .pointer (some ⟨bk, 0, none⟩), .int .i64 pl', .int .i64 tu'] 66 (0, 0))) (hs : W.heap.size ≤ W'.heap.size)
    (hk : ∀ k, lo ≤ k → k < hi → k ≠ g → W'.heap[k]? = W.heap[k]?) : Src W' lo hi g bk vD vC D C f code pl' tu' := by
  have hbg : bk ≠ g := by
    intro e
    have h1 := h.brk
    rw [e, h.blk] at h1
    injection h1 with h1
    injection h1 with _ h1
    cases h1
  exact ⟨hg, (hk bk h.b1 h.b2 hbg).trans h.brk, h.g1, h.g2, h.b1, h.b2, Kd.R_step h.data (fun k hok _ => hk k hok.1 hok.2.1 hok.2.2), Kd.R_step h.chunks (fun k hok _ => hk k hok.1 hok.2.1 hok.2.2), Nat.le_trans h.top hs⟩
theorem Src.keep {W W' : World} {lo hi g bk : Nat} {vD vC : Value} {D C : List Int} {f code pl tu : Int} (h : Src W lo hi g bk vD vC D C f code pl tu) (hs : W.heap.size ≤ W'.heap.size) (hk : ∀ k, lo ≤ k → k < hi → W'.heap[k]? = W.heap[k]?) : Src W' lo hi g bk vD vC D C f code pl tu :=
  h.step ((hk g h.g1 h.g2).trans h.blk) hs (fun k h1 h2 _ => hk k h1 h2)
theorem src_of {w W : World} {g bk : Nat} {vD vC : Value} {D C : List Int} {f code : Int} (hg : g = W.heap.size) (hB : Below w.heap.size w W) (hbk : W.heap[bk]? = some (.cells #[.int .i64 code] 61 (0, 0))) (hb1 : w.heap.size ≤ bk) (hRD : Kd.R (Kd.int .u8) 5 W w.heap.size (fun _ => True) vD D) (hRC : Kd.R (Kd.int .i64) 3 W w.heap.size (fun _ => True) vC C) :
    Src (W.alloc (.cells #[vD, vC, .int .i64 f, .pointer (some ⟨bk, 0, none⟩), .int .i64 0, .int .i64 0] 66)) w.heap.size (W.alloc (.cells #[vD, vC, .int .i64 f, .pointer (some ⟨bk, 0, none⟩), .int .i64 0, .int .i64 0] 66)).heap.size g bk vD vC D C f code 0 0 ∧ Below w.heap.size w (W.alloc (.cells #[vD, vC, .int .i64 f, .pointer (some ⟨bk, 0, none⟩), .int .i64 0, .int .i64 0] 66)) := by
  have hsz : ∀ o, (W.alloc o).heap.size = W.heap.size + 1 := fun o => by simp
  have hlt := blk_lt hbk
  subst hg
  refine ⟨⟨blk_new W _, blk_alloc hbk _, hB.size, by rw [hsz]; omega, hb1, by rw [hsz]; omega, R_hi (blk_new W _) (by decide) (Kd.R_alloc hRD _), R_hi (blk_new W _) (by decide) (Kd.R_alloc hRC _), Nat.le_refl _⟩, below_alloc hB _⟩
set_option maxHeartbeats 4000000 in
set_option maxRecDepth 100000 in
theorem newSource (A A' : Option Addr) (c c' : Nat) (D C : List Int) (f code : Int) (w : World) (hD : Kd.C (Kd.int .u8) w A D.length D) (hC : Kd.C (Kd.int .i64) w A' C.length C) (hlD : D.length * 1 ≤ 140737488355328) (hlC : C.length * 8 ≤ 140737488355328) :
    Calls Tryd.prog 10 #[.slice A D.length c, .agg #[.slice A' C.length c', .int .i64 f, .int .i64 code]] w fun e w' => ∃ g bk vD vC, e = .returned (.pointer (some ⟨g, 0, none⟩)) ∧ Src w' w.heap.size w'.heap.size g bk vD vC D C f code 0 0 ∧ Below w.heap.size w w' := by
  have HD := Aside0.mk hD
  have HC := Aside0.mk hC
  have HL := Aside0.mk (And.intro hlD hlC)
  clear hD hC hlD hlC
  go_enter Tryd.func10, Tryd.ntmps10
  go_wp2
  have hb1 := blk_new w (.cells #[.slice A' C.length c', .int .i64 f, .int .i64 code] 30 (0, 0))
  have hB1 := below_alloc (Below.refl w.heap.size w) (.cells #[.slice A' C.length c', .int .i64 f, .int .i64 code] 30 (0, 0))
  generalize w.alloc (.cells #[.slice A' C.length c', .int .i64 f, .int .i64 code] 30 (0, 0)) = w1 at hb1 hB1 ⊢
  have k0 : w1.cell? ⟨w.heap.size, 0, none⟩ = some (.slice A' C.length c') := cell_of_row w1 _ 0 _ 30 (0, 0) hb1
  have k1 : w1.cell? ⟨w.heap.size, 1, none⟩ = some (.int .i64 f) := cell_of_row w1 _ 1 _ 30 (0, 0) hb1
  have k2 : w1.cell? ⟨w.heap.size, 2, none⟩ = some (.int .i64 code) := cell_of_row w1 _ 2 _ 30 (0, 0) hb1
  clear hb1
  go_region_held3 (fun w' => w'.cell? ⟨w.heap.size, 0, none⟩ = some (.slice A' C.length c') ∧ w'.cell? ⟨w.heap.size, 1, none⟩ = some (.int .i64 f) ∧ w'.cell? ⟨w.heap.size, 2, none⟩ = some (.int .i64 code) ∧ Below w.heap.size w w')
    (first
      | ((refine ⟨?_, ?_, ?_, ?_⟩) <;> (first | assumption | exact below_drew ‹_› | exact pw_cell_below hBqC (‹_ ∧ _ ∧ _ ∧ Below w.heap.size w _›).1 | exact pw_cell_below hBqC (‹_ ∧ _ ∧ _ ∧ Below w.heap.size w _›).2.1 | exact pw_cell_below hBqC (‹_ ∧ _ ∧ _ ∧ Below w.heap.size w _›).2.2.1 | exact hBel.trans (hBqC.mono hBel.size) | exact pw_cell_below hBqD (‹_ ∧ _ ∧ _ ∧ Below w.heap.size w _›).1 | exact pw_cell_below hBqD (‹_ ∧ _ ∧ _ ∧ Below w.heap.size w _›).2.1 | exact pw_cell_below hBqD (‹_ ∧ _ ∧ _ ∧ Below w.heap.size w _›).2.2.1 | exact hBel.trans (hBqD.mono hBel.size) | exact below_alloc (‹_ ∧ _ ∧ _ ∧ Below w.heap.size w _›).2.2.2 _ | go_keep))
      | go_keep)
    (first
      | (have hBel := (‹_ ∧ _ ∧ _ ∧ Below w.heap.size w _›).2.2.2; (refine held_of (by rfl) (Kd.R_append_rows_step (Kd.int .u8) w.heap.size ?_ (.const (.slice none 0 0)) (.tmp 5) 22 5 (.int .u8 0) 1 ?_ Tryd.underlying22 inf5 rfl (by decide) (by decide) (.slice none 0 0) [] D A D.length c (fun _ => True) (fun _ => True) ?_ ?_
              (Kd.R_nil _ _ _ _ _) (Kd.C_below HD.out hBel) (fun x cs h => h) (fun _ _ => ⟨trivial, by simp [Value.ownBlock]⟩) (fun _ _ => trivial) (Below.refl _ _) (Below.size hBel) (by show (0 + D.length) * 1 ≤ _; have := HL.out.1; omega) ?_)); rfl; rfl; rfl; rfl; intro vD wD hRD hbD hgD hatD; obtain ⟨AD, cD, rfl⟩ := Kd.R_slice hRD; have hBqD := below_of_grown hgD)
      | (have hBel := (‹_ ∧ _ ∧ _ ∧ Below w.heap.size w _›).2.2.2; (refine held_of (by rfl) (Kd.R_append_rows_step (Kd.int .i64) w.heap.size ?_ (.const (.slice none 0 0)) (.tmp 8) 23 3 (.int .i64 0) 8 ?_ Tryd.underlying23 inf3 rfl (by decide) (by decide) (.slice none 0 0) [] C A' C.length c' (fun _ => True) (fun _ => True) ?_ ?_
              (Kd.R_nil _ _ _ _ _) (Kd.C_below HC.out hBel) (fun x cs h => h) (fun _ _ => ⟨trivial, by simp [Value.ownBlock]⟩) (fun _ _ => trivial) (Below.refl _ _) (Below.size hBel) (by show (0 + C.length) * 8 ≤ _; have := HL.out.2; omega) ?_)); rfl; rfl; rfl; rfl; intro vC wC hRC hbC hgC hatC; obtain ⟨AC, cC, rfl⟩ := Kd.R_slice hRC; have hBqC := below_of_grown hgC))
  · go_wp2
    go_ret
    rw [List.nil_append] at hRD hRC
    exact ⟨_, _, _, _, rfl, src_of (by simp) (below_alloc (hBel.trans hbC) _) (blk_new wC _) (by have := hBel.size; have := hBqC.size; omega) (Kd.R_alloc (Kd.R_below hRD hBqC) _) (Kd.R_alloc hRC _)⟩
  · go_wp2
    go_ret
    rw [List.nil_append] at hRD hRC
    exact ⟨_, _, _, _, rfl, src_of rfl (hBel.trans hbC) (blk_below (blk_new wD _) hBqC) (by have := hbD.size; have := hBqD.size; have := hB1.size; simp at *; omega) (Kd.R_below (Kd.R_alloc hRD _) hBqC) hRC⟩
  · go_wp2
    go_ret
    rw [List.nil_append] at hRD hRC
    exact ⟨_, _, _, _, rfl, src_of rfl (hBel.trans hbC) (blk_below (blk_below (show (w1.alloc (.cells #[.int .i64 code] 61)).drew.heap[w1.heap.size]? = _ from blk_new w1 _) hBqD) hBqC) (by have := hB1.size; simp; omega) (Kd.R_below hRD hBqC) hRC⟩
end Go.Proofs.YtdgfbamhnmnliaaDoor.A
