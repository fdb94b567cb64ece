import Derived.Test.YtkdoilmfchlpdaaProg
import Derived.Below
import Derived.Deep.Draws
import Derived.Deep.AppendLies
import Derived.Maps.AppendAt
import Derived.OwnWalk
import Derived.Laws.BytesArg
import Derived.Laws.MakeOwn
import Derived.Laws.OwnMore
import Derived.Deep.OwnRows
import Derived.Tactics
import Derived.Lib.ConvBytes
import Derived.Laws.Slices
import Derived.WalkKit
import Derived.KernelRfl
import Derived.RowKit3
import Derived.Deep.LoopGhost
import Derived.Deep.QuietTactic
import Derived.BigQuiet
import Derived.WideLaws
import Derived.Deep.DeepCutAuto
import Derived.Deep.CutBlock
import Derived.Deep.RegionHeld3
import Derived.Laws.Rows
import Derived.Lib.AppendStr
import Derived.ArgAppend
import Derived.Laws.IdiomCopy
import Derived.OrdersHeld
import Derived.Laws.BitsLemmas
import Derived.RowKit
import Derived.Test.YtkdoilmfchlpdaaShelf
import Derived.Laws.Tables
import Derived.Test.YtkdoilmfchlpdaaMake0
import Derived.Test.YtkdoilmfchlpdaaZ1
import Derived.Test.YtkdoilmfchlpdaaZ2
section
-- Printed for this claim by mp.py, a program of its prover, through the kit's print. Lean checks it.
namespace Go.Proofs.Ytkdoilmfchlpdaa.A
open Go.RowKit Go.Proofs.YtkdoilmfchlpdaaW.PrintWords Go.Proofs.YtkdoilmfchlpdaaW.PrintLast Go.Proofs.YtkdoilmfchlpdaaW.PrintMore
attribute [local go_sem] max2_int min2_int max_two min_two max_three min_three max_four min_four   -- for this text's walks alone
set_option linter.unusedVariables false
set_option linter.unusedSimpArgs false



def errW : Option Int → Value
 | none => .nilIface
 | some c => .iface 0 (.int .i64 c)
theorem errW_none : errW none = .nilIface := rfl
theorem errW_some (c : Int) : errW (some c) = .iface 0 (.int .i64 c) := rfl

theorem tb_wrap8 (x : Int) : IntKind.u64.wrap (x % 256) = x % 256 := by
 have h : IntKind.u64.wrap (x % 256) = (x % 256) % 18446744073709551616 := by simp [IntKind.wrap, IntKind.bits, IntKind.signed]
 rw [h]; omega
/-- What stands in xs behind copy(xs, ys). -/
def cpy {α : Type} (xs ys : List α) : List α := ys.take (min ys.length xs.length) ++ xs.drop (min ys.length xs.length)
theorem info3 : (Try.prog.info? 3).map (fun i => (i.zero, i.size, i.bytes)) = some (some (.int .i64 0), 1, 8) := by kernel_rfl
theorem info5 : (Try.prog.info? 5).map (fun i => (i.zero, i.size, i.bytes)) = some (some (.int .u8 0), 1, 1) := by kernel_rfl
theorem info22 : (Try.prog.info? 22).map (fun i => (i.zero, i.size, i.bytes)) = some (some (.slice none 0 0), 1, 24) := by kernel_rfl
-- the values' own types
def rd_L1 (xs : List (List Int)) (i : Int) : (List Int) := xs.getD i.toNat ([] : List Int)
theorem at_L1 {w : World} {A : Option Addr} {n : Nat} {xs : List (List Int)} (h : Kd.C (Kd.slice 5 (Kd.int .u8)) w A n xs) (i : Int) (h0 : 0 ≤ i) (h1 : i < n) : ∃ ad A0 c0, A = some ad ∧ w.cell? (ad.add i.toNat) = some (.slice A0 (rd_L1 xs i).length c0) ∧ (rd_L1 xs i).length ≤ c0 ∧ (Kd.int .u8).C w A0 (rd_L1 xs i).length (rd_L1 xs i) := by
 obtain ⟨ad, c, e, _, hK, hc0⟩ := Kd.C_get h ([] : List Int) i h0 h1
 have hc : ∀ j u, c[j]? = some u → w.cell? (ad.add (i.toNat * 1 + j)) = some u := hc0
 obtain ⟨A0, c0, rfl, l0, g0⟩ := hK
 exact ⟨ad, A0, c0, e, by have hq := hc 0 _ rfl; rwa [Nat.mul_one, Nat.add_zero] at hq, l0, g0⟩

end Go.Proofs.Ytkdoilmfchlpdaa.A
end
section
-- Printed for this claim by mp.py, a program of its prover, through the kit's print. Lean checks it.
namespace Go.Proofs.Ytkdoilmfchlpdaa.A
open Go.RowKit Go.Proofs.YtkdoilmfchlpdaaW.PrintWords Go.Proofs.YtkdoilmfchlpdaaW.PrintLast Go.Proofs.YtkdoilmfchlpdaaW.PrintMore
attribute [local go_sem] max2_int min2_int max_two min_two max_three min_three max_four min_four   -- for this text's walks alone
set_option linter.unusedVariables false
set_option linter.unusedSimpArgs false

/-! ### matrix_blank: function 65 -/
def matrix_blank.l0 : Nat → Int → List (List Int) → Int → Int → Option ((List (List Int)))
 | 0, _, _, _, _ => none
 | k + 1, x1, x5, x10, x11 => if x11 < x10 then (if 0 ≤ x1 then (if (x1 : Int).toNat ≤ 281474976710656 then (if 0 ≤ x11 then (if x11 < (x5.length : Int) then (matrix_blank.l0 k x1 (x5.set (x11 : Int).toNat (List.replicate (x1 : Int).toNat 0)) x10 (wrap64 (x11 + 1))) else (none)) else (none)) else (none)) else (none)) else (some x5)
def matrix_blank.f (k : Nat) (a0 : Int) (a1 : Int) : Option ((List (List Int))) := if 0 ≤ a0 then (if (a0 : Int).toNat ≤ 11728124029610 then ((some (List.replicate (a0 : Int).toNat [] : List (List Int))).bind fun y101 => (matrix_blank.l0 k a1 y101 (y101.length : Int) 0)) else (none)) else (none)
theorem matrix_blank.mono_l : ∀ k, (∀ y0 y1 y2 y3, LeO (matrix_blank.l0 k y0 y1 y2 y3) (matrix_blank.l0 (k + 1) y0 y1 y2 y3))
 | 0 => fun _ _ _ _ r h => by simp [matrix_blank.l0] at h
 | k + 1 => by
  have ih0 := matrix_blank.mono_l k
  ·intro y0 y1 y2 y3
   unfold matrix_blank.l0
   repeat' first
   | (with_reducible exact ih0 _ _ _ _)
   | (with_reducible exact LeO.refl _)
   | (with_reducible exact LeO.none _)
   | (with_reducible refine LeO.ite ?_ ?_)
   | (with_reducible refine LeO.bind ?_ (fun _ => ?_))
   | exact ih0 _ _ _ _
   | exact LeO.none _
   | refine LeO.ite ?_ ?_
   | refine LeO.bind ?_ (fun _ => ?_)
theorem matrix_blank.mono : ∀ a0 a1 k, LeO (matrix_blank.f k a0 a1) (matrix_blank.f (k + 1) a0 a1) := by
 intro a0 a1 k
 have ih0 := matrix_blank.mono_l k
 unfold matrix_blank.f
 repeat' first
   | (with_reducible exact ih0 _ _ _ _)
   | (with_reducible exact LeO.refl _)
   | (with_reducible exact LeO.none _)
   | (with_reducible refine LeO.ite ?_ ?_)
   | (with_reducible refine LeO.bind ?_ (fun _ => ?_))
   | exact ih0 _ _ _ _
   | exact LeO.none _
   | refine LeO.ite ?_ ?_
   | refine LeO.bind ?_ (fun _ => ?_)
set_option maxHeartbeats 8000000 in
set_option maxRecDepth 100000 in
theorem matrix_blank.calls (k : Nat) (a0 : Int) (a1 : Int) (r : List (List Int)) (w : World) (h : matrix_blank.f k a0 a1 = some r) :
  Calls Try.prog 65 #[.int .i64 a0, .int .i64 a1] w fun e w' => ∃ v0_ : Value, e = .returned (v0_) ∧ Kd.S (Kd.slice 5 (Kd.int .u8)) 22 w' w.heap.size (fun _ => True) v0_ r ∧ Below w.heap.size w w' := by
 have HB := Aside0.mk (Below.refl w.heap.size w)
 have H : (if 0 ≤ a0 then (if (a0 : Int).toNat ≤ 11728124029610 then ((some (List.replicate (a0 : Int).toNat [] : List (List Int))).bind fun y101 => (matrix_blank.l0 k a1 y101 (y101.length : Int) 0)) else (none)) else (none)) = some r := h
 clear h
 by_cases c3 : 0 ≤ a0
 ·rw [if_pos c3] at H
  have c3b0 := eq_true c3
  have c3b1 : decide (0 ≤ a0) = true := decide_eq_true c3
  clear c3
  by_cases c4 : (a0 : Int).toNat ≤ 11728124029610
  ·rw [if_pos c4] at H
   have c4b0 := eq_true c4
   have c4b1 : decide ((a0 : Int).toNat ≤ 11728124029610) = true := decide_eq_true c4
   clear c4
   obtain ⟨y101, hy101⟩ : ∃ y_ : List (List Int), y_ = (List.replicate (a0 : Int).toNat []) := ⟨_, rfl⟩
   replace H : (matrix_blank.l0 k a1 y101 (y101.length : Int) 0) = some r := by first | (rw [hy101]; with_reducible exact H) | (have H2_ := (Option.bind_some _ _).symm.trans H; rw [hy101]; with_reducible exact H2_) | (have H2_ := (Option.bind_some _ _).symm.trans H; with_reducible exact H2_) | with_reducible exact H | (rw [hy101]; exact H) | exact H
   have Ny101 := Aside0.mk hy101
   clear hy101
   have H' := Aside0.mk H
   clear H
   go_enter Try.func65, Try.ntmps65
   go_wp2_with (first | ((with_reducible refine gate_dst (N := 8) rfl ?_); refine Kd.S_make (Kd.slice 5 (Kd.int .u8)) _ 22 rfl (N := 8) rfl 25 _ _ rfl a0 rfl rfl Try.underlying25 (.slice none 0 0) 24 info22 rfl (by decide) (by omega) [] (ok := fun _ => True) (okp := fun _ => True) ⟨_, rfl, Kd.R_nil _ _ _ _ _⟩ (fun _ hk => hk) trivial (of_decide_eq_true (by first | (with_reducible assumption) | assumption)) (Nat.le_trans (Nat.mul_le_mul_right _ (of_decide_eq_true (by first | (with_reducible assumption) | assumption) : a0.toNat ≤ 11728124029610)) (by omega)) (Below.refl _ _) (Nat.le_refl _) ?_; intro v102 w5 ho6 hb hg_ hnew_; clear hg_ hnew_; (first | rw [← Ny101.out] at ho6 | (simp only [Int.reduceToNat] at ho6; rw [← Ny101.out] at ho6)); have n0_ := Aside0.mk (Kd.S_lower ho6 (below_size (by repeat (first | (with_reducible first | exact HB.out | apply below_alloc | apply pw_below_drewN | apply below_drew1) | exact HB.out)))); have n1_ := Aside0.mk (below_step (by repeat (first | (with_reducible first | exact HB.out | apply below_alloc | apply pw_below_drewN | apply below_drew1) | exact HB.out)) hb); clear HB; have HO103 := n0_; have HB := n1_; clear n0_ n1_; clear hb ho6; obtain ⟨Ao7, co7, eo7⟩ := Kd.S_slice HO103.out; subst eo7))
   go_loopg [11] k (fun kq v11 w' => ∃ (x5_1 : List (List Int)) (x11_1 : Int), v11 = .int .i64 x11_1 ∧ Aside0 (matrix_blank.l0 kq a1 x5_1 (y101.length : Int) x11_1 = some r) ∧ Aside0 (kq ≤ k) ∧ Aside0 (Kd.S (Kd.slice 5 (Kd.int .u8)) 22 w' w.heap.size (fun _ => True) (.slice Ao7 y101.length co7) x5_1) ∧ Aside0 (Below w.heap.size w w'))
   case atStart => exact ⟨(y101), (0), (by first | rfl | (simp; done) | (simp [*]; done)), H', ⟨Nat.le_refl _⟩, ⟨by (with_reducible repeat (first | apply Kd.S_alloc | apply Kd.S_drewN | apply Kd.S_drew)); exact HO103.out⟩, ⟨by repeat (first | (with_reducible first | exact HB.out | apply below_alloc | apply pw_below_drewN | apply below_drew1) | exact HB.out)⟩⟩
   case round =>
    clear H'
    try clear p2
    try clear c3
    try clear c3b0
    try clear c3b1
    try clear c4
    try clear c4b0
    try clear c4b1
    try clear c6
    obtain ⟨x5_1, x11_1, rfl, HA, HK1, HO_5, HB⟩ := hrel
    have hl5_1 := (Kd.S_reads' HO_5.out).1
    rw [hl5_1] at HO_5
    (try simp only [hl5_1])
    cases gk with
    | zero => exact absurd HA.out (by simp [matrix_blank.l0])
    | succ k1 =>
     have H := HA.out
     clear HA
     simp only [matrix_blank.l0] at H
     by_cases c8 : x11_1 < (y101.length : Int)
     ·rw [if_pos c8] at H
      have c8b0 : decide (x11_1 < (y101.length : Int)) = true := decide_eq_true c8
      (try simp only [hl5_1] at c8b0)
      clear c8
      by_cases c9 : 0 ≤ a1
      ·rw [if_pos c9] at H
       have c9b0 := eq_true c9
       have c9b1 : decide (0 ≤ a1) = true := decide_eq_true c9
       clear c9
       by_cases c10 : (a1 : Int).toNat ≤ 281474976710656
       ·rw [if_pos c10] at H
        have c10b0 := eq_true c10
        have c10b1 : decide ((a1 : Int).toNat ≤ 281474976710656) = true := decide_eq_true c10
        clear c10
        obtain ⟨y104, hy104⟩ : ∃ y_ : List Int, y_ = (List.replicate (a1 : Int).toNat 0) := ⟨_, rfl⟩
        replace H : (if 0 ≤ x11_1 then (if x11_1 < (x5_1.length : Int) then (matrix_blank.l0 k1 a1 (x5_1.set (x11_1 : Int).toNat y104) (y101.length : Int) (wrap64 (x11_1 + 1))) else (none)) else (none)) = some r := by first | (rw [hy104]; with_reducible exact H) | (have H2_ := (Option.bind_some _ _).symm.trans H; rw [hy104]; with_reducible exact H2_) | (have H2_ := (Option.bind_some _ _).symm.trans H; with_reducible exact H2_) | with_reducible exact H | (rw [hy104]; exact H) | exact H
        have Ny104 := Aside0.mk hy104
        clear hy104
        by_cases c11 : 0 ≤ x11_1
        ·rw [if_pos c11] at H
         have c11b0 : decide (0 ≤ x11_1) = true := decide_eq_true c11
         (try simp only [hl5_1] at c11b0)
         clear c11
         by_cases c12 : x11_1 < (x5_1.length : Int)
         ·rw [if_pos c12] at H
          have c12b0 : decide (x11_1 < (x5_1.length : Int)) = true := decide_eq_true c12
          (try simp only [hl5_1] at c12b0)
          clear c12
          obtain ⟨y107, hy107⟩ : ∃ y_ : List (List Int), y_ = (x5_1.set (x11_1 : Int).toNat y104) := ⟨_, rfl⟩
          replace H : (matrix_blank.l0 k1 a1 y107 (y101.length : Int) (wrap64 (x11_1 + 1))) = some r := by first | (rw [hy107]; with_reducible exact H) | (have H2_ := (Option.bind_some _ _).symm.trans H; rw [hy107]; with_reducible exact H2_) | (have H2_ := (Option.bind_some _ _).symm.trans H; with_reducible exact H2_) | with_reducible exact H | (rw [hy107]; exact H) | exact H
          have Ny107 := Aside0.mk hy107
          clear hy107
          have H' := Aside0.mk H
          clear H
          go_wp2_with (first | ((with_reducible refine gate_dst (N := 17) rfl ?_); refine Kd.R_make (Kd.int .u8) _ 5 rfl (N := 17) rfl 22 _ _ rfl a1 rfl rfl Try.underlying22 (.int .u8 0) 1 info5 rfl (by decide) (by omega) 0 (ok := fun _ => True) (okp := fun _ => True) rfl (fun _ hk => hk) trivial (of_decide_eq_true (by first | (with_reducible assumption) | assumption)) (Nat.le_trans (Nat.mul_le_mul_right _ (of_decide_eq_true (by first | (with_reducible assumption) | assumption) : a1.toNat ≤ 281474976710656)) (by omega)) (Below.refl _ _) (Nat.le_refl _) ?_; intro v105 w14 ho15 hb hg_ hnew_; clear hg_ hnew_; (first | rw [← Ny104.out] at ho15 | (simp only [Int.reduceToNat] at ho15; rw [← Ny104.out] at ho15)); have n0_ := Aside0.mk (Kd.S_elder' (by (with_reducible repeat (first | apply Kd.S_alloc | apply Kd.S_drewN | apply Kd.S_drew)); exact HO_5.out) (Kd.R_base ho15) hb); have n1_ := Aside0.mk (Kd.R_lower ho15 (below_size (by repeat (first | (with_reducible first | exact HB.out | apply below_alloc | apply pw_below_drewN | apply below_drew1) | exact HB.out)))); have n2_ := Aside0.mk (below_step (by repeat (first | (with_reducible first | exact HB.out | apply below_alloc | apply pw_below_drewN | apply below_drew1) | exact HB.out)) hb); clear HO_5; clear HB; have HO_5 := n0_; have HO106 := n1_; have HB := n2_; clear n0_ n1_ n2_; clear hb ho15; have p13 : 0 ≤ (x11_1 : Int) := of_decide_eq_true (by first | (with_reducible assumption) | assumption); have q13 : (x11_1 : Int) < ((x5_1.length : Int) : Int) := of_decide_eq_true (by first | (with_reducible assumption) | assumption); obtain ⟨go13, co13, eo13, gb13, gl13, cl13, HG13⟩ := Kd.S_form HO_5.out (by omega); (first | cases eo13 | (injection eo13 with ea_ en_ ec_; (first | subst ea_ | (injection ea_ with ea_; subst ea_)); subst ec_; clear en_)); have GB13 := Aside0.mk gb13; have GG13 := Aside0.mk HG13; clear gb13 gl13 HG13; obtain ⟨_, ce13, hcl13, hM13, hcc13, hfr13, _, _⟩ := Kd.S_elem HO_5.out [] (x11_1 : Int) p13 q13; obtain ⟨ve13_0, rfl, ge13_0⟩ := hM13; have hx13_0 := hcc13 0 _ rfl; have hf13_0 := hfr13 0; (try simp only [show ((Kd.slice 5 (Kd.int .u8))).sz = 1 from rfl, Nat.mul_one, Nat.add_zero] at hx13_0); (try simp only [show ((Kd.slice 5 (Kd.int .u8))).sz = 1 from rfl, Nat.mul_one, Nat.add_zero] at hf13_0); (try clear hM13); clear hcl13 hcc13 hfr13; replace p13 := eq_true p13; replace q13 := eq_true q13; obtain ⟨Ao18, co18, eo18⟩ := Kd.R_slice HO106.out; subst eo18; have n_ := Aside0.mk (Kd.S_mono (ok' := (fun k_ => some k_ ≠ (.slice Ao18 y104.length co18 : Value).ownBlock)) HO_5.out (fun k_ hk => hk.2)); clear HO_5; have HO_5 := n_; clear n_; have HX16 := Aside0.mk (show Kd.S (Kd.slice 5 (Kd.int .u8)) 22 w14 w.heap.size (fun k_ => ((fun _ => True)) k_ ∧ ¬ ((fun k_ => some k_ = (.slice Ao18 y104.length co18 : Value).ownBlock)) k_) (.slice (some ⟨go13, 0, none⟩) x5_1.length co7) x5_1 from (by (with_reducible repeat (first | apply Kd.S_alloc | apply Kd.S_drewN | apply Kd.S_drew)); exact Kd.S_mono HO_5.out (fun k_ hk => ⟨trivial, fun e_ => hk e_⟩))); obtain ⟨oki16, ce16, hcl16, hM16, hcc16, hfr16, hoki16, hH16⟩ := Kd.S_elem HX16.out [] (x11_1 : Int) (of_decide_eq_true (by first | (with_reducible assumption) | assumption)) (by have h_ : (x11_1 : Int) < ((x5_1.length : Int) : Int) := of_decide_eq_true (by first | (with_reducible assumption) | assumption); first | exact h_ | (have e_ := (Kd.S_reads' HO_5.out).1; omega) | simpa using h_); obtain ⟨ve16_0, rfl, ge16_0⟩ := hM16; have HP16 := Kd.S_seg hH16 (of_decide_eq_true (by first | (with_reducible assumption) | assumption)) (by have h_ : (x11_1 : Int) < ((x5_1.length : Int) : Int) := of_decide_eq_true (by first | (with_reducible assumption) | assumption); first | exact h_ | (have e_ := (Kd.S_reads' HO_5.out).1; omega) | simpa using h_) (seg := [.slice Ao18 y104.length co18]) (j := 0) (show 1 ≤ 1 from by decide) (x' := y104) (Kd.M_row (Kd.R_mono (Kd.R_tight rfl (Kd.R_mono (ok' := fun k_ => ((fun _ => True)) k_ ∧ k_ ≠ go13) (Kd.R_apart' (HO106.out) (Kd.S_typed HO_5.out) (by decide)) (fun k_ hk => ⟨trivial, fun e_ => (hk.2) (by rw [e_]; rfl)⟩))) (fun _ h_ => Or.inr (h_)))) (fun _ hk => hk) (fun k_ hk_ => ((Kd.R_mono (ok' := fun k_ => ((fun _ => True)) k_ ∧ k_ ≠ go13) (Kd.R_apart' (HO106.out) (Kd.S_typed HO_5.out) (by decide)) (fun k_ hk => ⟨trivial, fun e_ => (hk.2) (by rw [e_]; rfl)⟩))).1 k_ hk_.symm); have hx16_0 := hcc16 0 _ rfl; (try simp only [show ((Kd.slice 5 (Kd.int .u8))).sz = 1 from rfl, Nat.mul_one, Nat.add_zero] at hx16_0); have hf16_0 := hfr16 0; (try simp only [show ((Kd.slice 5 (Kd.int .u8))).sz = 1 from rfl, Nat.mul_one, Nat.add_zero] at hf16_0); (try clear hM16); clear hcl16 hcc16 hfr16 hoki16 hH16; (try simp only [show ((Kd.slice 5 (Kd.int .u8))).sz = 1 from rfl, Nat.mul_one, Nat.add_zero] at HP16)) | ((with_reducible refine gate_store (t := 22) (p := 18) rfl ?_); refine store_event (t := 22) (p := 18) (v := ?vo_w17) (w1 := (w14.setCell ⟨go13, (x11_1 : Int).toNat, none⟩ (.slice Ao18 y104.length co18))) ?hg ?ho ?hn ?hr ?_; (case ho => rfl); (case hg => rfl); (case hn => rfl); (case hr => first | (go_simp; done) | (go_simp; rfl)); intro w17 hw; have hg : w14.grownBy w17 (some go13) := (by rw [hw]; exact HP16.2); have hp_ : Kd.S (Kd.slice 5 (Kd.int .u8)) 22 w17 w.heap.size (fun _ => True) (.slice (some ⟨go13, 0, none⟩) x5_1.length co7) y107 := (by rw [hw, Ny107.out]; exact HP16.1); clear HP16; have n0_ := Aside0.mk (hp_); have n1_ := Aside0.mk ((by rw [hw]; exact below_set (HB.out) GB13.out : Below w.heap.size w w17)); clear HO_5; clear HB; clear HO106; have HO_5 := n0_; have HB := n1_; clear n0_ n1_; clear hg hw hp_))
          (try simp only [← hl5_1])
          go_roundg k1
          case measure => have := HK1.out; omega
          case rel => exact ⟨(y107), (wrap64 (x11_1 + 1)), (by first | rfl | (simp; done) | (simp [*]; done)), H', ⟨by have := HK1.out; omega⟩, ⟨by (try simp only [hl5_1]); (with_reducible repeat (first | apply Kd.S_alloc | apply Kd.S_drewN | apply Kd.S_drew)); exact HO_5.out⟩, ⟨by repeat (first | (with_reducible first | exact HB.out | apply below_alloc | apply pw_below_drewN | apply below_drew1) | exact HB.out)⟩⟩
         ·rw [if_neg c12] at H
          exact absurd H (by simp)
        ·rw [if_neg c11] at H
         exact absurd H (by simp)
       ·rw [if_neg c10] at H
        exact absurd H (by simp)
      ·rw [if_neg c9] at H
       exact absurd H (by simp)
     ·rw [if_neg c8] at H
      have c8b0 : decide (x11_1 < (y101.length : Int)) = false := decide_eq_false c8
      (try simp only [hl5_1] at c8b0)
      clear c8
      obtain rfl := Option.some.inj H
      go_wp2
      go_ret
      exact ⟨_, by first | rfl | (simp [errW_none, errW_some] <;> rfl) | (simp [*, errW_none, errW_some] <;> rfl), by (with_reducible repeat (first | apply Kd.S_alloc | apply Kd.S_drewN | apply Kd.S_drew)); exact HO_5.out, by repeat (first | (with_reducible first | exact HB.out | apply below_alloc | apply pw_below_drewN | apply below_drew1) | exact HB.out)⟩
  ·rw [if_neg c4] at H
   exact absurd H (by simp)
 ·rw [if_neg c3] at H
  exact absurd H (by simp)

/-! ### matrix_Check: function 67 -/
mutual
def matrix_Check.j0 : Nat → List (List Int) → Bool → Option (Int)
 | 0, _, _ => none
 | k + 1, x0, x26 => if x26 = true then (some 100) else (matrix_Check.l0 k x0 x0 (x0.length : Int) 0)
def matrix_Check.l0 : Nat → List (List Int) → List (List Int) → Int → Int → Option (Int)
 | 0, _, _, _, _ => none
 | k + 1, x0, x27, x28, x29 => if x29 < x28 then (if 0 ≤ x29 then (if x29 < (x27.length : Int) then (if 0 < (x0.length : Int) then (if ((rd_L1 x27 x29).length : Int) = ((rd_L1 x0 0).length : Int) then (matrix_Check.l0 k x0 x27 x28 (wrap64 (x29 + 1))) else (some 100)) else (none)) else (none)) else (none)) else (some 0)
end
def matrix_Check.f (k : Nat) (l0 : List (List Int)) : Option (Int) := if (l0.length : Int) < 1 then (matrix_Check.j0 k l0 true) else (if (l0.length : Int) > 256 then (matrix_Check.j0 k l0 true) else (if 0 < (l0.length : Int) then (if ((rd_L1 l0 0).length : Int) < 1 then (matrix_Check.j0 k l0 true) else (matrix_Check.j0 k l0 (decide (((rd_L1 l0 0).length : Int) > 512)))) else (none)))
theorem matrix_Check.mono_l : ∀ k, (∀ y0 y1, LeO (matrix_Check.j0 k y0 y1) (matrix_Check.j0 (k + 1) y0 y1)) ∧ (∀ y0 y1 y2 y3, LeO (matrix_Check.l0 k y0 y1 y2 y3) (matrix_Check.l0 (k + 1) y0 y1 y2 y3))
 | 0 => ⟨fun _ _ r h => by simp [matrix_Check.j0] at h, fun _ _ _ _ r h => by simp [matrix_Check.l0] at h⟩
 | k + 1 => by
  obtain ⟨ih0, ih1⟩ := matrix_Check.mono_l k
  refine ⟨?_, ?_⟩
  ·intro y0 y1
   unfold matrix_Check.j0
   repeat' first
   | (with_reducible exact ih0 _ _)
   | (with_reducible exact ih1 _ _ _ _)
   | (with_reducible exact LeO.refl _)
   | (with_reducible exact LeO.none _)
   | (with_reducible refine LeO.ite ?_ ?_)
   | (with_reducible refine LeO.bind ?_ (fun _ => ?_))
   | exact ih0 _ _
   | exact ih1 _ _ _ _
   | exact LeO.none _
   | refine LeO.ite ?_ ?_
   | refine LeO.bind ?_ (fun _ => ?_)
  ·intro y0 y1 y2 y3
   unfold matrix_Check.l0
   repeat' first
   | (with_reducible exact ih0 _ _)
   | (with_reducible exact ih1 _ _ _ _)
   | (with_reducible exact LeO.refl _)
   | (with_reducible exact LeO.none _)
   | (with_reducible refine LeO.ite ?_ ?_)
   | (with_reducible refine LeO.bind ?_ (fun _ => ?_))
   | exact ih0 _ _
   | exact ih1 _ _ _ _
   | exact LeO.none _
   | refine LeO.ite ?_ ?_
   | refine LeO.bind ?_ (fun _ => ?_)
theorem matrix_Check.mono : ∀ a0 k, LeO (matrix_Check.f k a0) (matrix_Check.f (k + 1) a0) := by
 intro a0 k
 obtain ⟨ih0, ih1⟩ := matrix_Check.mono_l k
 unfold matrix_Check.f
 repeat' first
   | (with_reducible exact ih0 _ _)
   | (with_reducible exact ih1 _ _ _ _)
   | (with_reducible exact LeO.refl _)
   | (with_reducible exact LeO.none _)
   | (with_reducible refine LeO.ite ?_ ?_)
   | (with_reducible refine LeO.bind ?_ (fun _ => ?_))
   | exact ih0 _ _
   | exact ih1 _ _ _ _
   | exact LeO.none _
   | refine LeO.ite ?_ ?_
   | refine LeO.bind ?_ (fun _ => ?_)
set_option maxHeartbeats 8000000 in
set_option maxRecDepth 100000 in
theorem matrix_Check.calls (k : Nat) (A0 : Option Addr) (c0 : Nat) (l0 : List (List Int)) (r : Int) (w : World) (hr0 : Kd.C (Kd.slice 5 (Kd.int .u8)) w A0 l0.length l0) (hc0 : l0.length ≤ c0) (h : matrix_Check.f k l0 = some r) :
  Calls Try.prog 67 #[.slice A0 l0.length c0] w fun e w' => e = .returned (.int .i64 r) ∧ Drawn0 w w' := by
 have HR0 := Aside0.mk hr0
 have HC0 := Aside0.mk hc0
 clear hr0 hc0
 have H : (if (l0.length : Int) < 1 then (matrix_Check.j0 k l0 true) else (if (l0.length : Int) > 256 then (matrix_Check.j0 k l0 true) else (if 0 < (l0.length : Int) then (if ((rd_L1 l0 0).length : Int) < 1 then (matrix_Check.j0 k l0 true) else (matrix_Check.j0 k l0 (decide (((rd_L1 l0 0).length : Int) > 512)))) else (none)))) = some r := h
 clear h
 have HC2 := Aside0.mk H
 clear H
 go_enter Try.func67, Try.ntmps67
 go_upto_region 1 with (fail)
 go_cut [26] (fun v26 wc => ∃ (kq : Nat) (x26_1 : Bool), v26 = .bool x26_1 ∧ Aside0 (matrix_Check.j0 kq l0 x26_1 = some r) ∧ Aside0 (kq ≤ k) ∧ Drawn0 w wc)
 case first =>
  have H := HC2.out
  clear HC2
  by_cases c3 : (l0.length : Int) < 1
  ·rw [if_pos c3] at H
   have c3b0 : decide ((l0.length : Int) < 1) = true := decide_eq_true c3
   have c3b1 : decide (l0.length < 1) = true := decide_eq_true (by omega)
   clear c3
   (first | rw [c3b0] | (simp only [i64_w, i32_w]; rw [c3b0]) | skip)
   have H' := Aside0.mk H
   clear H
   go_wp2
   go_meet
   case rel => exact ⟨_, (true), (by first | rfl | (simp; done) | (simp [*]; done)), H', ⟨by first | omega | exact Nat.le_refl _⟩, by repeat (first | exact Drawn0.refl _ | apply Drawn0.step)⟩
  ·rw [if_neg c3] at H
   have c3b0 : decide ((l0.length : Int) < 1) = false := decide_eq_false c3
   have c3b1 : decide (l0.length < 1) = false := decide_eq_false (by omega)
   clear c3
   (first | rw [c3b0] | (simp only [i64_w, i32_w]; rw [c3b0]) | skip)
   by_cases c4 : (l0.length : Int) > 256
   ·rw [if_pos c4] at H
    have c4b0 : decide (256 < (l0.length : Int)) = true := decide_eq_true c4
    have c4b1 : decide (256 < l0.length) = true := decide_eq_true (by omega)
    clear c4
    have H' := Aside0.mk H
    clear H
    go_wp2
    go_meet
    case rel => exact ⟨_, (true), (by first | rfl | (simp; done) | (simp [*]; done)), H', ⟨by first | omega | exact Nat.le_refl _⟩, by repeat (first | exact Drawn0.refl _ | apply Drawn0.step)⟩
   ·rw [if_neg c4] at H
    have c4b0 : decide (256 < (l0.length : Int)) = false := decide_eq_false c4
    have c4b1 : decide (256 < l0.length) = false := decide_eq_false (by omega)
    clear c4
    by_cases c5 : 0 < (l0.length : Int)
    ·rw [if_pos c5] at H
     have c5b0 : decide (0 < (l0.length : Int)) = true := decide_eq_true c5
     have c5b1 : decide (0 < l0.length) = true := decide_eq_true (by omega)
     clear c5
     by_cases c6 : ((rd_L1 l0 0).length : Int) < 1
     ·rw [if_pos c6] at H
      have c6b0 : decide (((rd_L1 l0 0).length : Int) < 1) = true := decide_eq_true c6
      have c6b1 : decide ((rd_L1 l0 0).length < 1) = true := decide_eq_true (by omega)
      clear c6
      have H' := Aside0.mk H
      clear H
      have p108 : 0 ≤ (0 : Int) := (by omega)
      have q108 : 0 < (l0.length : Int) := of_decide_eq_true (by first | (with_reducible assumption) | assumption)
      obtain ⟨ad108, A108_0, c108_0, e108, hx108_0, hl108_0, hi108_0⟩ := at_L1 HR0.out 0 p108 q108
      cases e108
      have qi108 : (0 < l0.length) = True := eq_true (by omega)
      (try rw [show ((0 : Int)).toNat = 0 from rfl] at hx108_0)
      (try rw [Addr.add_zero'] at hx108_0)
      have HR108_0 := Aside0.mk hi108_0
      have HC108_0 := Aside0.mk hl108_0
      clear hi108_0 hl108_0
      replace p108 := eq_true p108
      replace q108 := eq_true q108
      go_wp2
      go_meet
      case rel => exact ⟨_, (true), (by first | rfl | (simp; done) | (simp [*]; done)), H', ⟨by first | omega | exact Nat.le_refl _⟩, by repeat (first | exact Drawn0.refl _ | apply Drawn0.step)⟩
     ·rw [if_neg c6] at H
      have c6b0 : decide (((rd_L1 l0 0).length : Int) < 1) = false := decide_eq_false c6
      have c6b1 : decide ((rd_L1 l0 0).length < 1) = false := decide_eq_false (by omega)
      clear c6
      have H' := Aside0.mk H
      clear H
      have p108 : 0 ≤ (0 : Int) := (by omega)
      have q108 : 0 < (l0.length : Int) := of_decide_eq_true (by first | (with_reducible assumption) | assumption)
      obtain ⟨ad108, A108_0, c108_0, e108, hx108_0, hl108_0, hi108_0⟩ := at_L1 HR0.out 0 p108 q108
      cases e108
      have qi108 : (0 < l0.length) = True := eq_true (by omega)
      (try rw [show ((0 : Int)).toNat = 0 from rfl] at hx108_0)
      (try rw [Addr.add_zero'] at hx108_0)
      have HR108_0 := Aside0.mk hi108_0
      have HC108_0 := Aside0.mk hl108_0
      clear hi108_0 hl108_0
      replace p108 := eq_true p108
      replace q108 := eq_true q108
      have p109 : 0 ≤ (0 : Int) := (by omega)
      have q109 : 0 < (l0.length : Int) := of_decide_eq_true (by first | (with_reducible assumption) | assumption)
      obtain ⟨ad109, A109_0, c109_0, e109, hx109_0, hl109_0, hi109_0⟩ := at_L1 HR0.out 0 p109 q109
      obtain rfl : ad108 = ad109 := (by injection e109)
      have qi109 : (0 < l0.length) = True := eq_true (by omega)
      (try rw [show ((0 : Int)).toNat = 0 from rfl] at hx109_0)
      (try rw [Addr.add_zero'] at hx109_0)
      have HR109_0 := Aside0.mk hi109_0
      have HC109_0 := Aside0.mk hl109_0
      clear hi109_0 hl109_0
      replace p109 := eq_true p109
      replace q109 := eq_true q109
      have ea_ := Option.some.inj (hx108_0.symm.trans hx109_0)
      injection ea_ with ea_ en_ ec_
      subst ea_
      subst ec_
      clear en_
      go_wp2
      go_meet
      case rel => exact ⟨_, (decide (((rd_L1 l0 0).length : Int) > 512)), (by first | rfl | (simp; done) | (simp [*]; done)), H', ⟨by first | omega | exact Nat.le_refl _⟩, by repeat (first | exact Drawn0.refl _ | apply Drawn0.step)⟩
    ·rw [if_neg c5] at H
     exact absurd H (by simp)
 case rest =>
  clear HC2
  try clear c1
  try clear p1
  try clear q1
  try clear hx1
  try clear qi1
  try clear p2
  try clear c3
  try clear c3b0
  try clear c3b1
  try clear c4
  try clear c4b0
  try clear c4b1
  try clear c5
  try clear c5b0
  try clear c5b1
  try clear c6
  try clear c6b0
  try clear c6b1
  try clear hx108_0
  try clear hx109_0
  try clear p108
  try clear p109
  try clear q108
  try clear q109
  obtain ⟨kq, x26_1, rfl, HA, HJ1, ⟨mc1, rfl⟩⟩ := hcut
  cases kq with
  | zero => exact absurd HA.out (by simp [matrix_Check.j0])
  | succ kj1 =>
   have H := HA.out
   clear HA
   simp only [matrix_Check.j0] at H
   by_cases c7 : x26_1 = true
   ·subst c7
    have H1 : (some 100) = some r := by rw [if_pos rfl] at H; exact H
    clear H
    have H := H1
    clear H1
    obtain rfl := Option.some.inj H
    go_wp2
    go_ret
    exact ⟨by first | rfl | (simp; done) | (simp [*]; done), by repeat (first | exact Drawn0.refl _ | apply Drawn0.step)⟩
   ·replace c7 := Bool.eq_false_iff.mpr c7
    subst c7
    have H1 : (matrix_Check.l0 kj1 l0 l0 (l0.length : Int) 0) = some r := by rw [if_neg (show ¬ (false = true) by decide)] at H; exact H
    clear H
    have H := H1
    clear H1
    have H' := Aside0.mk H
    clear H
    go_wp2
    go_loopg [29] kj1 (fun kq v29 w' => ∃ (x29_2 : Int), v29 = .int .i64 x29_2 ∧ Aside0 (matrix_Check.l0 kq l0 l0 (l0.length : Int) x29_2 = some r) ∧ Aside0 (kq ≤ kj1) ∧ Drawn0 w w')
    case atStart => exact ⟨(0), (by first | rfl | (simp; done) | (simp [*]; done)), H', ⟨Nat.le_refl _⟩, by repeat (first | exact Drawn0.refl _ | apply Drawn0.step)⟩
    case round =>
     clear H'
     try clear c1
     try clear p1
     try clear q1
     try clear hx1
     try clear qi1
     try clear p2
     try clear c3
     try clear c3b0
     try clear c3b1
     try clear c4
     try clear c4b0
     try clear c4b1
     try clear c5
     try clear c5b0
     try clear c5b1
     try clear c6
     try clear c6b0
     try clear c6b1
     try clear c7
     try clear hx108_0
     try clear hx109_0
     try clear p1
     try clear p108
     try clear p109
     try clear p2
     try clear q1
     try clear q108
     try clear q109
     obtain ⟨x29_2, rfl, HA, HK2, ⟨m2, rfl⟩⟩ := hrel
     cases gk with
     | zero => exact absurd HA.out (by simp [matrix_Check.l0])
     | succ k2 =>
      have H := HA.out
      clear HA
      simp only [matrix_Check.l0] at H
      by_cases c8 : x29_2 < (l0.length : Int)
      ·rw [if_pos c8] at H
       have c8b0 : decide (x29_2 < (l0.length : Int)) = true := decide_eq_true c8
       clear c8
       by_cases c9 : 0 ≤ x29_2
       ·rw [if_pos c9] at H
        have c9b0 : decide (0 ≤ x29_2) = true := decide_eq_true c9
        clear c9
        by_cases c10 : x29_2 < (l0.length : Int)
        ·rw [if_pos c10] at H
         have c10b0 : decide (x29_2 < (l0.length : Int)) = true := decide_eq_true c10
         clear c10
         by_cases c11 : 0 < (l0.length : Int)
         ·rw [if_pos c11] at H
          have c11b0 : decide (0 < (l0.length : Int)) = true := decide_eq_true c11
          have c11b1 : decide (0 < l0.length) = true := decide_eq_true (by omega)
          clear c11
          by_cases c12 : ((rd_L1 l0 x29_2).length : Int) = ((rd_L1 l0 0).length : Int)
          ·rw [if_pos c12] at H
           have c12b0 : (((rd_L1 l0 x29_2).length : Int) == ((rd_L1 l0 0).length : Int)) = true := beq_iff_eq.mpr c12
           have c12b1 : (((rd_L1 l0 x29_2).length : Int) != ((rd_L1 l0 0).length : Int)) = false := bne_eq_false_iff_eq.mpr c12
           have c12b2 : ((rd_L1 l0 x29_2).length == (rd_L1 l0 0).length) = true := by first | simpa using c12 | (simp at c12 ⊢; omega)
           clear c12
           have H' := Aside0.mk H
           clear H
           have p110 : 0 ≤ (x29_2 : Int) := of_decide_eq_true (by first | (with_reducible assumption) | assumption)
           have q110 : x29_2 < (l0.length : Int) := of_decide_eq_true (by first | (with_reducible assumption) | assumption)
           obtain ⟨ad110, A110_0, c110_0, e110, hx110_0, hl110_0, hi110_0⟩ := at_L1 HR0.out x29_2 p110 q110
           cases e110
           have HR110_0 := Aside0.mk hi110_0
           have HC110_0 := Aside0.mk hl110_0
           clear hi110_0 hl110_0
           replace p110 := eq_true p110
           replace q110 := eq_true q110
           have p111 : 0 ≤ (0 : Int) := (by omega)
           have q111 : 0 < (l0.length : Int) := of_decide_eq_true (by first | (with_reducible assumption) | assumption)
           obtain ⟨ad111, A111_0, c111_0, e111, hx111_0, hl111_0, hi111_0⟩ := at_L1 HR0.out 0 p111 q111
           obtain rfl : ad110 = ad111 := (by injection e111)
           have qi111 : (0 < l0.length) = True := eq_true (by omega)
           (try rw [show ((0 : Int)).toNat = 0 from rfl] at hx111_0)
           (try rw [Addr.add_zero'] at hx111_0)
           have HR111_0 := Aside0.mk hi111_0
           have HC111_0 := Aside0.mk hl111_0
           clear hi111_0 hl111_0
           replace p111 := eq_true p111
           replace q111 := eq_true q111
           go_wp2
           go_roundg k2
           case measure => have := HJ1.out; have := HK2.out; omega
           case rel => exact ⟨(wrap64 (x29_2 + 1)), (by first | rfl | (simp; done) | (simp [*]; done)), H', ⟨by have := HJ1.out; have := HK2.out; omega⟩, by repeat (first | exact Drawn0.refl _ | apply Drawn0.step)⟩
          ·rw [if_neg c12] at H
           have c12b0 : (((rd_L1 l0 x29_2).length : Int) == ((rd_L1 l0 0).length : Int)) = false := beq_eq_false_iff_ne.mpr c12
           have c12b1 : (((rd_L1 l0 x29_2).length : Int) != ((rd_L1 l0 0).length : Int)) = true := bne_iff_ne.mpr c12
           have c12b2 : ((rd_L1 l0 x29_2).length == (rd_L1 l0 0).length) = false := by first | simpa using c12 | (simp at c12 ⊢; omega)
           obtain rfl := Option.some.inj H
           have p110 : 0 ≤ (x29_2 : Int) := of_decide_eq_true (by first | (with_reducible assumption) | assumption)
           have q110 : x29_2 < (l0.length : Int) := of_decide_eq_true (by first | (with_reducible assumption) | assumption)
           obtain ⟨ad110, A110_0, c110_0, e110, hx110_0, hl110_0, hi110_0⟩ := at_L1 HR0.out x29_2 p110 q110
           cases e110
           have HR110_0 := Aside0.mk hi110_0
           have HC110_0 := Aside0.mk hl110_0
           clear hi110_0 hl110_0
           replace p110 := eq_true p110
           replace q110 := eq_true q110
           have p111 : 0 ≤ (0 : Int) := (by omega)
           have q111 : 0 < (l0.length : Int) := of_decide_eq_true (by first | (with_reducible assumption) | assumption)
           obtain ⟨ad111, A111_0, c111_0, e111, hx111_0, hl111_0, hi111_0⟩ := at_L1 HR0.out 0 p111 q111
           obtain rfl : ad110 = ad111 := (by injection e111)
           have qi111 : (0 < l0.length) = True := eq_true (by omega)
           (try rw [show ((0 : Int)).toNat = 0 from rfl] at hx111_0)
           (try rw [Addr.add_zero'] at hx111_0)
           have HR111_0 := Aside0.mk hi111_0
           have HC111_0 := Aside0.mk hl111_0
           clear hi111_0 hl111_0
           replace p111 := eq_true p111
           replace q111 := eq_true q111
           go_wp2
           go_ret
           exact ⟨by first | rfl | (simp; done) | (simp [*]; done), by repeat (first | exact Drawn0.refl _ | apply Drawn0.step)⟩
         ·rw [if_neg c11] at H
          exact absurd H (by simp)
        ·rw [if_neg c10] at H
         exact absurd H (by simp)
       ·rw [if_neg c9] at H
        exact absurd H (by simp)
      ·rw [if_neg c8] at H
       have c8b0 : decide (x29_2 < (l0.length : Int)) = false := decide_eq_false c8
       clear c8
       obtain rfl := Option.some.inj H
       go_wp2
       go_ret
       exact ⟨by first | rfl | (simp; done) | (simp [*]; done), by repeat (first | exact Drawn0.refl _ | apply Drawn0.step)⟩

end Go.Proofs.Ytkdoilmfchlpdaa.A
end
section
-- Printed for this claim by mp.py, a program of its prover, through the kit's print. Lean checks it.
namespace Go.Proofs.Ytkdoilmfchlpdaa.A
open Go.RowKit Go.Proofs.YtkdoilmfchlpdaaW.PrintWords Go.Proofs.YtkdoilmfchlpdaaW.PrintLast Go.Proofs.YtkdoilmfchlpdaaW.PrintMore
attribute [local go_sem] max2_int min2_int max_two min_two max_three min_three max_four min_four   -- for this text's walks alone
set_option linter.unusedVariables false
set_option linter.unusedSimpArgs false

/-! ### matrix_Identity: function 45 -/
mutual
def matrix_Identity.j0 : Nat → Int → Bool → Option ((List (List Int)) × Int)
 | 0, _, _ => none
 | k + 1, x0, x11 => if x11 = true then (some (([] : List (List Int)), 100)) else ((matrix_blank.f k x0 x0).bind fun t112 => (matrix_Identity.l0 k t112 (t112.length : Int) 0))
def matrix_Identity.l0 : Nat → List (List Int) → Int → Int → Option ((List (List Int)) × Int)
 | 0, _, _, _ => none
 | k + 1, x4, x16, x17 => if x17 < x16 then (if 0 ≤ x17 then (if x17 < (x4.length : Int) then (if x17 < ((rd_L1 x4 x17).length : Int) then (matrix_Identity.l0 k (x4.set (x17 : Int).toNat ((rd_L1 x4 x17).set (x17 : Int).toNat 1)) x16 (wrap64 (x17 + 1))) else (none)) else (none)) else (none)) else (some (x4, 0))
end
def matrix_Identity.f (k : Nat) (a0 : Int) : Option ((List (List Int)) × Int) := if a0 < 1 then (matrix_Identity.j0 k a0 true) else (matrix_Identity.j0 k a0 (decide (a0 > 256)))
theorem matrix_Identity.mono_l : ∀ k, (∀ y0 y1, LeO (matrix_Identity.j0 k y0 y1) (matrix_Identity.j0 (k + 1) y0 y1)) ∧ (∀ y0 y1 y2, LeO (matrix_Identity.l0 k y0 y1 y2) (matrix_Identity.l0 (k + 1) y0 y1 y2))
 | 0 => ⟨fun _ _ r h => by simp [matrix_Identity.j0] at h, fun _ _ _ r h => by simp [matrix_Identity.l0] at h⟩
 | k + 1 => by
  obtain ⟨ih0, ih1⟩ := matrix_Identity.mono_l k
  refine ⟨?_, ?_⟩
  ·intro y0 y1
   unfold matrix_Identity.j0
   repeat' first
   | (with_reducible exact ih0 _ _)
   | (with_reducible exact ih1 _ _ _)
   | (with_reducible exact matrix_blank.mono _ _ _)
   | (with_reducible exact LeO.refl _)
   | (with_reducible exact LeO.none _)
   | (with_reducible refine LeO.ite ?_ ?_)
   | (with_reducible refine LeO.bind ?_ (fun _ => ?_))
   | exact ih0 _ _
   | exact ih1 _ _ _
   | exact matrix_blank.mono _ _ _
   | exact LeO.none _
   | refine LeO.ite ?_ ?_
   | refine LeO.bind ?_ (fun _ => ?_)
  ·intro y0 y1 y2
   unfold matrix_Identity.l0
   repeat' first
   | (with_reducible exact ih0 _ _)
   | (with_reducible exact ih1 _ _ _)
   | (with_reducible exact matrix_blank.mono _ _ _)
   | (with_reducible exact LeO.refl _)
   | (with_reducible exact LeO.none _)
   | (with_reducible refine LeO.ite ?_ ?_)
   | (with_reducible refine LeO.bind ?_ (fun _ => ?_))
   | exact ih0 _ _
   | exact ih1 _ _ _
   | exact matrix_blank.mono _ _ _
   | exact LeO.none _
   | refine LeO.ite ?_ ?_
   | refine LeO.bind ?_ (fun _ => ?_)
theorem matrix_Identity.mono : ∀ a0 k, LeO (matrix_Identity.f k a0) (matrix_Identity.f (k + 1) a0) := by
 intro a0 k
 obtain ⟨ih0, ih1⟩ := matrix_Identity.mono_l k
 unfold matrix_Identity.f
 repeat' first
   | (with_reducible exact ih0 _ _)
   | (with_reducible exact ih1 _ _ _)
   | (with_reducible exact matrix_blank.mono _ _ _)
   | (with_reducible exact LeO.refl _)
   | (with_reducible exact LeO.none _)
   | (with_reducible refine LeO.ite ?_ ?_)
   | (with_reducible refine LeO.bind ?_ (fun _ => ?_))
   | exact ih0 _ _
   | exact ih1 _ _ _
   | exact matrix_blank.mono _ _ _
   | exact LeO.none _
   | refine LeO.ite ?_ ?_
   | refine LeO.bind ?_ (fun _ => ?_)
set_option maxHeartbeats 8000000 in
set_option maxRecDepth 100000 in
theorem matrix_Identity.calls (k : Nat) (a0 : Int) (r1 : List (List Int)) (r2 : Int) (w : World) (h : matrix_Identity.f k a0 = some (r1, r2)) :
  Calls Try.prog 45 #[.int .i64 a0] w fun e w' => ∃ v0_ : Value, e = .returned (.tuple #[v0_, .int .i64 r2]) ∧ Kd.S (Kd.slice 5 (Kd.int .u8)) 22 w' w.heap.size (fun _ => True) v0_ r1 ∧ Below w.heap.size w w' := by
 have HB := Aside0.mk (Below.refl w.heap.size w)
 have H : (if a0 < 1 then (matrix_Identity.j0 k a0 true) else (matrix_Identity.j0 k a0 (decide (a0 > 256)))) = some (r1, r2) := h
 clear h
 have HC2 := Aside0.mk H
 clear H
 go_enter Try.func45, Try.ntmps45
 go_upto_region 1 with (fail)
 go_cut [11] (fun v11 wc => ∃ (kq : Nat) (x11_1 : Bool), v11 = .bool x11_1 ∧ Aside0 (matrix_Identity.j0 kq a0 x11_1 = some (r1, r2)) ∧ Aside0 (kq ≤ k) ∧ Aside0 (Below w.heap.size w wc))
 case first =>
  have H := HC2.out
  clear HC2
  by_cases c3 : a0 < 1
  ·rw [if_pos c3] at H
   have c3b0 : decide (a0 < 1) = true := decide_eq_true c3
   clear c3
   (first | rw [c3b0] | (simp only [i64_w, i32_w]; rw [c3b0]) | skip)
   have H' := Aside0.mk H
   clear H
   go_wp2
   go_meet
   case rel => exact ⟨_, (true), (by first | rfl | (simp; done) | (simp [*]; done)), H', ⟨by first | omega | exact Nat.le_refl _⟩, ⟨by repeat (first | (with_reducible first | exact HB.out | apply below_alloc | apply pw_below_drewN | apply below_drew1) | exact HB.out)⟩⟩
  ·rw [if_neg c3] at H
   have c3b0 : decide (a0 < 1) = false := decide_eq_false c3
   clear c3
   (first | rw [c3b0] | (simp only [i64_w, i32_w]; rw [c3b0]) | skip)
   have H' := Aside0.mk H
   clear H
   go_wp2
   go_meet
   case rel => exact ⟨_, (decide (a0 > 256)), (by first | rfl | (simp; done) | (simp [*]; done)), H', ⟨by first | omega | exact Nat.le_refl _⟩, ⟨by repeat (first | (with_reducible first | exact HB.out | apply below_alloc | apply pw_below_drewN | apply below_drew1) | exact HB.out)⟩⟩
 case rest =>
  clear HC2
  try clear p2
  try clear c3
  try clear c3b0
  obtain ⟨kq, x11_1, rfl, HA, HJ1, HB⟩ := hcut
  cases kq with
  | zero => exact absurd HA.out (by simp [matrix_Identity.j0])
  | succ kj1 =>
   have H := HA.out
   clear HA
   simp only [matrix_Identity.j0] at H
   by_cases c4 : x11_1 = true
   ·subst c4
    have H1 : (some (([] : List (List Int)), 100)) = some (r1, r2) := by rw [if_pos rfl] at H; exact H
    clear H
    have H := H1
    clear H1
    simp only [Option.some.injEq, Prod.mk.injEq] at H
    obtain ⟨rfl, rfl⟩ := H
    go_wp2
    go_ret2
    exact ⟨_, by first | rfl | (simp [errW_none, errW_some] <;> rfl) | (simp [*, errW_none, errW_some] <;> rfl), by first | exact Kd.S_nil _ _ _ _ _ | exact Kd.N_nil _ _ _ _ _ | exact Kd.V_nil _ _ _ _ _ | exact Kd.Q_nil _ _ _ _ _ | exact Kd.R_nil _ _ _ _ _, by repeat (first | (with_reducible first | exact HB.out | apply below_alloc | apply pw_below_drewN | apply below_drew1) | exact HB.out)⟩
   ·replace c4 := Bool.eq_false_iff.mpr c4
    subst c4
    have H1 : ((matrix_blank.f kj1 a0 a0).bind fun t112 => (matrix_Identity.l0 kj1 t112 (t112.length : Int) 0)) = some (r1, r2) := by rw [if_neg (show ¬ (false = true) by decide)] at H; exact H
    clear H
    have H := H1
    clear H1
    replace H := Option.bind_eq_some_iff.mp H
    obtain ⟨t112, A50, H⟩ := H
    replace H : (matrix_Identity.l0 kj1 t112 (t112.length : Int) 0) = some (r1, r2) := H
    have A5 := Aside0.mk A50
    clear A50
    have H' := Aside0.mk H
    clear H
    go_wp2_with (first | ((with_reducible refine gate_callee (f := 65) rfl ?_); refine goesL_ (some 14) rfl rfl Try.func65 (by kernel_rfl) rfl #[.int .i64 a0, .int .i64 a0] rfl (by (try simp only [List.map_toArray, List.map_cons, List.map_nil]); first | done | rfl | (simp only [tb_wrap8]; done) | (simp only [tb_wrap8]; rfl) | (simp only [List.length_drop, List.length_take]; rfl)) ?_; (with_reducible refine (matrix_blank.calls kj1 a0 a0 t112 _ A5.out).mono ?_); rintro e w6 ⟨v113, rfl, ho0, hb⟩; refine ⟨_, rfl, ?_⟩; have n0_ := Aside0.mk (Kd.S_lower ho0 (below_size (by repeat (first | (with_reducible first | exact HB.out | apply below_alloc | apply pw_below_drewN | apply below_drew1) | exact HB.out)))); have n1_ := Aside0.mk (below_step (by repeat (first | (with_reducible first | exact HB.out | apply below_alloc | apply pw_below_drewN | apply below_drew1) | exact HB.out)) hb); clear HB; have HO114 := n0_; have HB := n1_; clear n0_ n1_; (try clear hb); (try clear hb2); (try clear hk); (try clear hi); (try clear ho0); obtain ⟨Ao7, co7, eo7⟩ := Kd.S_slice HO114.out; subst eo7))
    go_loopg [17] kj1 (fun kq v17 w' => ∃ (x4_2 : List (List Int)) (x17_2 : Int), v17 = .int .i64 x17_2 ∧ Aside0 (matrix_Identity.l0 kq x4_2 (t112.length : Int) x17_2 = some (r1, r2)) ∧ Aside0 (kq ≤ kj1) ∧ Aside0 (Kd.S (Kd.slice 5 (Kd.int .u8)) 22 w' w.heap.size (fun _ => True) (.slice Ao7 t112.length co7) x4_2) ∧ Aside0 (Below w.heap.size w w'))
    case atStart => exact ⟨(t112), (0), (by first | rfl | (simp; done) | (simp [*]; done)), H', ⟨Nat.le_refl _⟩, ⟨by (with_reducible repeat (first | apply Kd.S_alloc | apply Kd.S_drewN | apply Kd.S_drew)); exact HO114.out⟩, ⟨by repeat (first | (with_reducible first | exact HB.out | apply below_alloc | apply pw_below_drewN | apply below_drew1) | exact HB.out)⟩⟩
    case round =>
     clear H'
     try clear p2
     try clear c3
     try clear c3b0
     try clear c4
     try clear c6
     try clear p2
     obtain ⟨x4_2, x17_2, rfl, HA, HK2, HO_4, HB⟩ := hrel
     have hl4_2 := (Kd.S_reads' HO_4.out).1
     rw [hl4_2] at HO_4
     (try simp only [hl4_2])
     cases gk with
     | zero => exact absurd HA.out (by simp [matrix_Identity.l0])
     | succ k2 =>
      have H := HA.out
      clear HA
      simp only [matrix_Identity.l0] at H
      by_cases c8 : x17_2 < (t112.length : Int)
      ·rw [if_pos c8] at H
       have c8b0 : decide (x17_2 < (t112.length : Int)) = true := decide_eq_true c8
       (try simp only [hl4_2] at c8b0)
       clear c8
       by_cases c9 : 0 ≤ x17_2
       ·rw [if_pos c9] at H
        have c9b0 : decide (0 ≤ x17_2) = true := decide_eq_true c9
        (try simp only [hl4_2] at c9b0)
        clear c9
        by_cases c10 : x17_2 < (x4_2.length : Int)
        ·rw [if_pos c10] at H
         have c10b0 : decide (x17_2 < (x4_2.length : Int)) = true := decide_eq_true c10
         (try simp only [hl4_2] at c10b0)
         clear c10
         by_cases c11 : x17_2 < ((rd_L1 x4_2 x17_2).length : Int)
         ·rw [if_pos c11] at H
          have c11b0 : decide (x17_2 < ((rd_L1 x4_2 x17_2).length : Int)) = true := decide_eq_true c11
          (try simp only [hl4_2] at c11b0)
          clear c11
          obtain ⟨y116, hy116⟩ : ∃ y_ : List Int, y_ = ((rd_L1 x4_2 x17_2).set (x17_2 : Int).toNat 1) := ⟨_, rfl⟩
          replace H : (matrix_Identity.l0 k2 (x4_2.set (x17_2 : Int).toNat y116) (t112.length : Int) (wrap64 (x17_2 + 1))) = some (r1, r2) := by first | (rw [hy116]; with_reducible exact H) | (have H2_ := (Option.bind_some _ _).symm.trans H; rw [hy116]; with_reducible exact H2_) | (have H2_ := (Option.bind_some _ _).symm.trans H; with_reducible exact H2_) | with_reducible exact H | (rw [hy116]; exact H) | exact H
          have Ny116 := Aside0.mk hy116
          clear hy116
          obtain ⟨y118, hy118⟩ : ∃ y_ : List (List Int), y_ = (x4_2.set (x17_2 : Int).toNat y116) := ⟨_, rfl⟩
          replace H : (matrix_Identity.l0 k2 y118 (t112.length : Int) (wrap64 (x17_2 + 1))) = some (r1, r2) := by first | (rw [hy118]; with_reducible exact H) | (have H2_ := (Option.bind_some _ _).symm.trans H; rw [hy118]; with_reducible exact H2_) | (have H2_ := (Option.bind_some _ _).symm.trans H; with_reducible exact H2_) | with_reducible exact H | (rw [hy118]; exact H) | exact H
          have Ny118 := Aside0.mk hy118
          clear hy118
          have H' := Aside0.mk H
          clear H
          have p115 : 0 ≤ (x17_2 : Int) := of_decide_eq_true (by first | (with_reducible assumption) | assumption)
          have q115 : x17_2 < (x4_2.length : Int) := of_decide_eq_true (by first | (with_reducible assumption) | assumption)
          obtain ⟨ad115, A115_0, c115_0, e115, hx115_0, hl115_0, hi115_0⟩ := at_L1 (Kd.S_reads' HO_4.out).2.2 x17_2 p115 q115
          cases e115
          obtain ⟨ce115, hce115, hMe115, hcc115⟩ := Kd.S_get HO_4.out [] x17_2 p115 (by first | exact q115 | exact of_decide_eq_true (by first | (with_reducible assumption) | assumption) | (have e_ := (Kd.S_reads' HO_4.out).1; omega))
          obtain ⟨ve115_0, rfl, ge115_0⟩ := hMe115
          have hv115_0 := hcc115 0 _ rfl
          rw [Nat.add_zero, show ((Kd.slice 5 (Kd.int .u8))).sz = 1 from rfl, Nat.mul_one] at hv115_0
          replace hv115_0 := Option.some.inj (hv115_0.symm.trans hx115_0)
          rw [hv115_0] at ge115_0
          have HL115_0 := Aside0.mk (show Kd.R (Kd.int .u8) 5 _ _ _ _ (rd_L1 x4_2 x17_2) from ge115_0)
          clear hv115_0 ge115_0
          have HX115_0 := Aside0.mk hx115_0
          clear hcc115 hce115
          have HR115_0 := Aside0.mk hi115_0
          have HC115_0 := Aside0.mk hl115_0
          clear hi115_0 hl115_0
          replace p115 := eq_true p115
          replace q115 := eq_true q115
          have p12 : 0 ≤ (x17_2 : Int) := of_decide_eq_true (by first | (with_reducible assumption) | assumption)
          have q12 : (x17_2 : Int) < (((rd_L1 x4_2 x17_2).length : Int) : Int) := of_decide_eq_true (by first | (with_reducible assumption) | assumption)
          obtain ⟨go12, co12, eo12, gb12, gl12, cl12, HG12⟩ := Kd.R_form HL115_0.out (by omega)
          (first | cases eo12 | (injection eo12 with ea_ en_ ec_; (first | subst ea_ | (injection ea_ with ea_; subst ea_)); subst ec_; clear en_))
          have GB12 := Aside0.mk gb12
          have GG12 := Aside0.mk HG12
          clear gb12 gl12 HG12
          obtain ⟨hx12_0, hf12_0⟩ := Kd.R_celln 0 HL115_0.out (x17_2 : Int) p12 q12
          replace p12 := eq_true p12
          replace q12 := eq_true q12
          have hq13 : (x17_2 : Int) < (x4_2.length : Int) := (by have h_ : (x17_2 : Int) < ((x4_2.length : Int) : Int) := of_decide_eq_true (by first | (with_reducible assumption) | assumption); first | exact h_ | (have e_ := (Kd.S_reads' HO_4.out).1; omega) | simpa only [List.length_set, List.length_set] using h_)
          obtain ⟨oki13, ce13, hcl13, hM13, hcc13, hok13, hbk13⟩ := Kd.S_borrow HO_4.out [] (x17_2 : Int) (of_decide_eq_true (by first | (with_reducible assumption) | assumption)) hq13
          obtain ⟨ve13_0, rfl, ge13_0⟩ := hM13
          have hv13 := hcc13 0 _ rfl
          rw [Nat.add_zero, show ((Kd.slice 5 (Kd.int .u8))).sz = 1 from rfl, Nat.mul_one] at hv13
          replace hv13 := Option.some.inj (hv13.symm.trans HX115_0.out)
          subst hv13
          clear hcc13 hcl13
          replace ge13_0 := (show Kd.R (Kd.int .u8) 5 _ _ _ _ (rd_L1 x4_2 x17_2) from ge13_0)
          have HP13 := Kd.R_putg ge13_0 (x17_2 : Int) 1
          go_wp2_with (first | ((with_reducible refine gate_store (t := 5) (p := 25) rfl ?_); refine store_event (t := 5) (p := 25) (v := ?vo_w14) (w1 := (wr.setCell ⟨go12, (x17_2 : Int).toNat, none⟩ (.int .u8 1))) ?hg ?ho ?hn ?hr ?_; (case ho => rfl); (case hg => rfl); (case hn => rfl); (case hr => first | (go_simp; done) | (go_simp; rfl)); intro w14 hw; have hg : wr.grownBy w14 (some go12) := (by rw [hw]; exact HP13.2); have hz_ : Kd.R (Kd.int .u8) 5 w14 w.heap.size oki13 (.slice (some ⟨go12, 0, none⟩) (rd_L1 x4_2 x17_2).length c115_0) y116 := (by rw [hw, Ny116.out]; exact HP13.1); have hp_ : Kd.S (Kd.slice 5 (Kd.int .u8)) 22 w14 w.heap.size (fun _ => True) (.slice (some ad115) x4_2.length co7) y118 := (by rw [Ny118.out]; exact hbk13 hg (fun k_ e_ => by injection e_ with e_; subst e_; exact ge13_0.1 _ rfl) (Kd.M_row hz_)); have hm_ := Kd.R_mono hz_ hok13; clear HP13 hbk13; have n0_ := Aside0.mk (hp_); have n1_ := Aside0.mk ((by rw [hw]; exact below_set (HB.out) GB12.out : Below w.heap.size w w14)); have n2_ := Aside0.mk (hm_); have n3_ := Aside0.mk ((Kd.R_reads' hm_).2.1); clear HO_4; clear HB; clear HL115_0; have HO_4 := n0_; have HB := n1_; have HL119 := n2_; have HC117 := n3_; clear n0_ n1_ n2_ n3_; clear hg hw hp_ hz_ hm_ hok13))
          (try simp only [← hl4_2])
          go_roundg k2
          case measure => have := HJ1.out; have := HK2.out; omega
          case rel => exact ⟨(y118), (wrap64 (x17_2 + 1)), (by first | rfl | (simp; done) | (simp [*]; done)), H', ⟨by have := HJ1.out; have := HK2.out; omega⟩, ⟨by (try simp only [hl4_2]); (with_reducible repeat (first | apply Kd.S_alloc | apply Kd.S_drewN | apply Kd.S_drew)); exact HO_4.out⟩, ⟨by repeat (first | (with_reducible first | exact HB.out | apply below_alloc | apply pw_below_drewN | apply below_drew1) | exact HB.out)⟩⟩
         ·rw [if_neg c11] at H
          exact absurd H (by simp)
        ·rw [if_neg c10] at H
         exact absurd H (by simp)
       ·rw [if_neg c9] at H
        exact absurd H (by simp)
      ·rw [if_neg c8] at H
       have c8b0 : decide (x17_2 < (t112.length : Int)) = false := decide_eq_false c8
       (try simp only [hl4_2] at c8b0)
       clear c8
       simp only [Option.some.injEq, Prod.mk.injEq] at H
       obtain ⟨rfl, rfl⟩ := H
       go_wp2
       go_ret2
       exact ⟨_, by first | rfl | (simp [errW_none, errW_some] <;> rfl) | (simp [*, errW_none, errW_some] <;> rfl), by (with_reducible repeat (first | apply Kd.S_alloc | apply Kd.S_drewN | apply Kd.S_drew)); exact HO_4.out, by repeat (first | (with_reducible first | exact HB.out | apply below_alloc | apply pw_below_drewN | apply below_drew1) | exact HB.out)⟩

end Go.Proofs.Ytkdoilmfchlpdaa.A
end
section
-- Printed for this claim by mp.py, a program of its prover, through the kit's print. Lean checks it.
namespace Go.Proofs.Ytkdoilmfchlpdaa.A
open Go.RowKit Go.Proofs.YtkdoilmfchlpdaaW.PrintWords Go.Proofs.YtkdoilmfchlpdaaW.PrintLast Go.Proofs.YtkdoilmfchlpdaaW.PrintMore
attribute [local go_sem] max2_int min2_int max_two min_two max_three min_three max_four min_four   -- for this text's walks alone
set_option linter.unusedVariables false
set_option linter.unusedSimpArgs false

/-! ### gf8_Mul: function 18 -/
def gf8_Mul.l0 : Nat → Int → Int → Int → Option (Int)
 | 0, _, _, _ => none
 | k + 1, x1, x5, x6 => if x1 = 0 then (some ((x6) % 256)) else (if (Go.bits .and .u8 x1 1) = 0 then (if (Go.bits .and .u64 (IntKind.u64.wrap (x5 * 2)) 256) = 0 then (gf8_Mul.l0 k (x1 / 2) (IntKind.u64.wrap (x5 * 2)) x6) else (gf8_Mul.l0 k (x1 / 2) (Go.bits .xor .u64 (IntKind.u64.wrap (x5 * 2)) 285) x6)) else (if (Go.bits .and .u64 (IntKind.u64.wrap (x5 * 2)) 256) = 0 then (gf8_Mul.l0 k (x1 / 2) (IntKind.u64.wrap (x5 * 2)) (Go.bits .xor .u64 x6 x5)) else (gf8_Mul.l0 k (x1 / 2) (Go.bits .xor .u64 (IntKind.u64.wrap (x5 * 2)) 285) (Go.bits .xor .u64 x6 x5))))
def gf8_Mul.f (k : Nat) (a0 : Int) (a1 : Int) : Option (Int) := gf8_Mul.l0 k a1 (IntKind.u64.wrap (a0)) 0
theorem gf8_Mul.mono_l : ∀ k, (∀ y0 y1 y2, LeO (gf8_Mul.l0 k y0 y1 y2) (gf8_Mul.l0 (k + 1) y0 y1 y2))
 | 0 => fun _ _ _ r h => by simp [gf8_Mul.l0] at h
 | k + 1 => by
  have ih0 := gf8_Mul.mono_l k
  ·intro y0 y1 y2
   unfold gf8_Mul.l0
   repeat' first
   | (with_reducible exact ih0 _ _ _)
   | (with_reducible exact LeO.refl _)
   | (with_reducible exact LeO.none _)
   | (with_reducible refine LeO.ite ?_ ?_)
   | (with_reducible refine LeO.bind ?_ (fun _ => ?_))
   | exact ih0 _ _ _
   | exact LeO.none _
   | refine LeO.ite ?_ ?_
   | refine LeO.bind ?_ (fun _ => ?_)
theorem gf8_Mul.mono : ∀ a0 a1 k, LeO (gf8_Mul.f k a0 a1) (gf8_Mul.f (k + 1) a0 a1) := by
 intro a0 a1 k
 have ih0 := gf8_Mul.mono_l k
 unfold gf8_Mul.f
 repeat' first
   | (with_reducible exact ih0 _ _ _)
   | (with_reducible exact LeO.refl _)
   | (with_reducible exact LeO.none _)
   | (with_reducible refine LeO.ite ?_ ?_)
   | (with_reducible refine LeO.bind ?_ (fun _ => ?_))
   | exact ih0 _ _ _
   | exact LeO.none _
   | refine LeO.ite ?_ ?_
   | refine LeO.bind ?_ (fun _ => ?_)
set_option maxHeartbeats 8000000 in
set_option maxRecDepth 100000 in
theorem gf8_Mul.calls (k : Nat) (a0 : Int) (a1 : Int) (r : Int) (w : World) (h : gf8_Mul.f k a0 a1 = some r) :
  Calls Try.prog 18 #[.int .u8 a0, .int .u8 a1] w fun e w' => e = .returned (.int .u8 r) ∧ Drawn0 w w' := by
 have H : (gf8_Mul.l0 k a1 (IntKind.u64.wrap (a0)) 0) = some r := h
 clear h
 have H' := Aside0.mk H
 clear H
 go_enter Try.func18, Try.ntmps18
 go_wp2
 go_loopg [1, 5, 6] k (fun kq v1 v5 v6 w' => ∃ (x1_1 : Int) (x5_1 : Int) (x6_1 : Int), v1 = .int .u8 x1_1 ∧ v5 = .int .u64 x5_1 ∧ v6 = .int .u64 x6_1 ∧ Aside0 (gf8_Mul.l0 kq x1_1 x5_1 x6_1 = some r) ∧ Aside0 (kq ≤ k) ∧ Drawn0 w w')
 case atStart => exact ⟨(a1), (IntKind.u64.wrap (a0)), (0), (by first | rfl | (simp; done) | (simp [*]; done)), (by first | rfl | (simp; done) | (simp [*]; done)), (by first | rfl | (simp; done) | (simp [*]; done)), H', ⟨Nat.le_refl _⟩, by repeat (first | exact Drawn0.refl _ | apply Drawn0.step)⟩
 case round =>
  clear H'
  try clear c1
  try clear p2
  obtain ⟨x1_1, x5_1, x6_1, rfl, rfl, rfl, HA, HK1, ⟨m1, rfl⟩⟩ := hrel
  cases gk with
  | zero => exact absurd HA.out (by simp [gf8_Mul.l0])
  | succ k1 =>
   have H := HA.out
   clear HA
   simp only [gf8_Mul.l0] at H
   by_cases c3 : x1_1 = 0
   ·rw [if_pos c3] at H
    have c3b0 : (x1_1 == 0) = true := beq_iff_eq.mpr c3
    have c3b1 : (x1_1 != 0) = false := bne_eq_false_iff_eq.mpr c3
    clear c3
    obtain rfl := Option.some.inj H
    go_wp2
    go_ret
    exact ⟨by first | rfl | (simp; done) | (simp [*]; done), by repeat (first | exact Drawn0.refl _ | apply Drawn0.step)⟩
   ·rw [if_neg c3] at H
    have c3b0 : (x1_1 == 0) = false := beq_eq_false_iff_ne.mpr c3
    have c3b1 : (x1_1 != 0) = true := bne_iff_ne.mpr c3
    by_cases c4 : (Go.bits .and .u8 x1_1 1) = 0
    ·rw [if_pos c4] at H
     have c4b0 : ((Go.bits .and .u8 x1_1 1) == 0) = true := beq_iff_eq.mpr c4
     have c4b1 : ((Go.bits .and .u8 x1_1 1) != 0) = false := bne_eq_false_iff_eq.mpr c4
     clear c4
     by_cases c5 : (Go.bits .and .u64 (IntKind.u64.wrap (x5_1 * 2)) 256) = 0
     ·rw [if_pos c5] at H
      have c5b0 : ((Go.bits .and .u64 (IntKind.u64.wrap (x5_1 * 2)) 256) == 0) = true := beq_iff_eq.mpr c5
      have c5b1 : ((Go.bits .and .u64 (IntKind.u64.wrap (x5_1 * 2)) 256) != 0) = false := bne_eq_false_iff_eq.mpr c5
      clear c5
      have H' := Aside0.mk H
      clear H
      go_wp2
      go_roundg k1
      case measure => have := HK1.out; omega
      case rel => exact ⟨(x1_1 / 2), (IntKind.u64.wrap (x5_1 * 2)), (x6_1), (by first | rfl | (simp; done) | (simp [*]; done)), (by first | rfl | (simp; done) | (simp [*]; done)), (by first | rfl | (simp; done) | (simp [*]; done)), H', ⟨by have := HK1.out; omega⟩, by repeat (first | exact Drawn0.refl _ | apply Drawn0.step)⟩
     ·rw [if_neg c5] at H
      have c5b0 : ((Go.bits .and .u64 (IntKind.u64.wrap (x5_1 * 2)) 256) == 0) = false := beq_eq_false_iff_ne.mpr c5
      have c5b1 : ((Go.bits .and .u64 (IntKind.u64.wrap (x5_1 * 2)) 256) != 0) = true := bne_iff_ne.mpr c5
      have H' := Aside0.mk H
      clear H
      go_wp2
      go_roundg k1
      case measure => have := HK1.out; omega
      case rel => exact ⟨(x1_1 / 2), (Go.bits .xor .u64 (IntKind.u64.wrap (x5_1 * 2)) 285), (x6_1), (by first | rfl | (simp; done) | (simp [*]; done)), (by first | rfl | (simp; done) | (simp [*]; done)), (by first | rfl | (simp; done) | (simp [*]; done)), H', ⟨by have := HK1.out; omega⟩, by repeat (first | exact Drawn0.refl _ | apply Drawn0.step)⟩
    ·rw [if_neg c4] at H
     have c4b0 : ((Go.bits .and .u8 x1_1 1) == 0) = false := beq_eq_false_iff_ne.mpr c4
     have c4b1 : ((Go.bits .and .u8 x1_1 1) != 0) = true := bne_iff_ne.mpr c4
     by_cases c6 : (Go.bits .and .u64 (IntKind.u64.wrap (x5_1 * 2)) 256) = 0
     ·rw [if_pos c6] at H
      have c6b0 : ((Go.bits .and .u64 (IntKind.u64.wrap (x5_1 * 2)) 256) == 0) = true := beq_iff_eq.mpr c6
      have c6b1 : ((Go.bits .and .u64 (IntKind.u64.wrap (x5_1 * 2)) 256) != 0) = false := bne_eq_false_iff_eq.mpr c6
      clear c6
      have H' := Aside0.mk H
      clear H
      go_wp2
      go_roundg k1
      case measure => have := HK1.out; omega
      case rel => exact ⟨(x1_1 / 2), (IntKind.u64.wrap (x5_1 * 2)), (Go.bits .xor .u64 x6_1 x5_1), (by first | rfl | (simp; done) | (simp [*]; done)), (by first | rfl | (simp; done) | (simp [*]; done)), (by first | rfl | (simp; done) | (simp [*]; done)), H', ⟨by have := HK1.out; omega⟩, by repeat (first | exact Drawn0.refl _ | apply Drawn0.step)⟩
     ·rw [if_neg c6] at H
      have c6b0 : ((Go.bits .and .u64 (IntKind.u64.wrap (x5_1 * 2)) 256) == 0) = false := beq_eq_false_iff_ne.mpr c6
      have c6b1 : ((Go.bits .and .u64 (IntKind.u64.wrap (x5_1 * 2)) 256) != 0) = true := bne_iff_ne.mpr c6
      have H' := Aside0.mk H
      clear H
      go_wp2
      go_roundg k1
      case measure => have := HK1.out; omega
      case rel => exact ⟨(x1_1 / 2), (Go.bits .xor .u64 (IntKind.u64.wrap (x5_1 * 2)) 285), (Go.bits .xor .u64 x6_1 x5_1), (by first | rfl | (simp; done) | (simp [*]; done)), (by first | rfl | (simp; done) | (simp [*]; done)), (by first | rfl | (simp; done) | (simp [*]; done)), H', ⟨by have := HK1.out; omega⟩, by repeat (first | exact Drawn0.refl _ | apply Drawn0.step)⟩

/-! ### gf8_New: function 64 -/
/-- The n-th power of x. -/
def tab8.pw : Nat → Nat
 | 0 => 1
 | n + 1 => if 255 < 2 * tab8.pw n then (2 * tab8.pw n) ^^^ 285 else 2 * tab8.pw n
def tab8.lg : Nat → Nat → Option Nat
 | 0, _ => none
 | n + 1, a => if tab8.pw n = a then some n else tab8.lg n a
theorem tab8.pw_lt : ∀ n, tab8.pw n < 256
 | 0 => by decide
 | n + 1 => by
  have := tab8.pw_lt n
  unfold tab8.pw
  split
  ·rename_i h
   have h9 : 2 * tab8.pw n < 2 ^ 9 := by omega
   have hx : (2 * tab8.pw n) ^^^ 285 < 2 ^ 9 := Nat.xor_lt_two_pow h9 (by decide)
   have hb : ((2 * tab8.pw n) ^^^ 285).testBit 8 = false := by
    rw [Nat.testBit_xor]
    have : (2 * tab8.pw n).testBit 8 = true := by
     rw [Nat.testBit_eq_decide_div_mod_eq, decide_eq_true_eq]; omega
    rw [this]; decide
   rw [Nat.testBit_eq_decide_div_mod_eq, decide_eq_false_iff_not] at hb
   omega
  ·omega
theorem tab8.lg_lt : ∀ n a m, tab8.lg n a = some m → m < n
 | 0, _, _, h => by cases h
 | n + 1, a, m, h => by
  unfold tab8.lg at h
  split at h
  ·obtain rfl := Option.some.inj h; omega
  ·have := tab8.lg_lt n a m h; omega
def tab8.Is (n : Nat) (cur : Array Value) : Prop := cur.size = 766 ∧ (∀ j, j < n → cur[j]? = some (.int .u8 (tab8.pw j : Nat)) ∧ cur[j + 255]? = some (.int .u8 (tab8.pw j : Nat))) ∧ ∀ a m, tab8.lg n a = some m → cur[510 + a]? = some (.int .i64 (m : Nat))
/-- A state of type 125 at block g of W; what its slices lead to came in by w0. -/
def IsS125 (w0 W : World) (g : Nat)  : Prop := ∃ cur_ : Array Value, W.heap[g]? = some (.cells cur_ 125 (0, 0)) ∧ tab8.Is 255 cur_
theorem IsS125.grown {w0 W : World} {g : Nat}  {W1 : World} {row : Option Nat} (h : IsS125 w0 W g ) (hw : W.grownBy W1 row) (hne : some g ≠ row) : IsS125 w0 W1 g  := by
 obtain ⟨cur_, hb, hg⟩ := h
 exact ⟨cur_, blk_grown hb hw hne, hg⟩
theorem IsS125.kept {w0 W : World} {g : Nat}  {W1 : World} {S : Nat → Prop} (h : IsS125 w0 W g ) (hk : Kept W W1 S) (hne : ¬ S g) : IsS125 w0 W1 g  := by
 obtain ⟨cur_, hb, hg⟩ := h
 exact ⟨cur_, blk_kept hb hk hne, hg⟩
theorem IsS125.below {w0 W : World} {g : Nat}  {W1 : World} (h : IsS125 w0 W g ) (hw : Below W.heap.size W W1) : IsS125 w0 W1 g  := h.grown (grown_of_below hw none) (by simp)
theorem IsS125.alloc {w0 W : World} {g : Nat}  (h : IsS125 w0 W g ) (o : Obj) : IsS125 w0 (W.alloc o) g  := h.below (below_alloc (Below.refl _ _) o)
theorem IsS125.drewN {w0 W : World} {g : Nat}  (h : IsS125 w0 W g ) (m : Nat) : IsS125 w0 (W.drewN m) g  := h
theorem IsS125.drew {w0 W : World} {g : Nat}  (h : IsS125 w0 W g ) : IsS125 w0 W.drew g  := h
theorem IsS125.at_ {w0 W : World} {g : Nat}  {w' : World} {m : Nat} (hq : W.drewN m = w') (h : IsS125 w0 W g ) : IsS125 w0 w' g  := by subst hq; exact IsS125.drewN h m
theorem IsS125.apart {w0 W : World} {g : Nat}  {α : Type} {d : Kd α} {e : Nat} {base : Nat} {ok : Nat → Prop} {v : Value} {xs : List α} (h : IsS125 w0 W g ) (ho : d.R e W base ok v xs) (ht : ∀ q, q ∈ e :: d.E → q ≠ 125) : d.R e W base (fun k => ok k ∧ k ≠ g) v xs := by
 obtain ⟨cur_, hb, hg⟩ := h
 exact Kd.R_types ho hb ht
theorem IsS125.own_ne {w0 W : World} {g : Nat}  {α : Type} {d : Kd α} {e : Nat} {base : Nat} {ok : Nat → Prop} {v : Value} {xs : List α} (h : IsS125 w0 W g ) (ho : d.R e W base ok v xs) (ht : e ≠ 125) : some g ≠ v.ownBlock := by
 obtain ⟨cur_, hb, hg⟩ := h
 exact Kd.R_ne ho hb ht
theorem IsS125.lt {w0 W : World} {g : Nat}  (h : IsS125 w0 W g ) : g < W.heap.size := by
 obtain ⟨cur_, hb, hg⟩ := h
 exact blk_lt hb
theorem IsS125.ne_blk {w0 W : World} {g : Nat}  {a : Nat} {cs : Array Value} {t : TypeId} {fr : Nat × Nat} (h : IsS125 w0 W g ) (hb2 : W.heap[a]? = some (.cells cs t fr)) (ht : t ≠ 125) : g ≠ a := by
 obtain ⟨cur_, hb, hg⟩ := h
 rintro rfl
 rw [hb] at hb2
 injection hb2 with hb2
 injection hb2 with _ ht2
 exact ht ht2.symm
theorem IsS125.far {w0 W : World} {g : Nat}  {p : Addr} (h : IsS125 w0 W g ) (hne : g ≠ p.block) (u : Value) : IsS125 w0 (W.setCell p u) g  := by
 obtain ⟨cur_, hb, hg⟩ := h
 exact ⟨cur_, blk_far hb hne u, hg⟩
theorem IsS125.exp {w0 w : World} {g : Nat} (h : IsS125 w0 w g) {j : Nat} (hj : j < 510) : w.cell? ⟨g, j, none⟩ = some (.int .u8 (tab8.pw (j % 255) : Nat)) := by
 obtain ⟨cur, hh, _, he, _⟩ := h
 refine (cell_of_row w g j cur 125 (0, 0) hh).trans ?_
 by_cases e : j < 255
 ·rw [Nat.mod_eq_of_lt e]; exact (he j e).1
 ·have := (he (j - 255) (by omega)).2
  rw [show j - 255 + 255 = j by omega] at this
  rw [show j % 255 = j - 255 by omega]; exact this
theorem IsS125.log {w0 w : World} {g : Nat} (h : IsS125 w0 w g) {a m : Nat} (hm : tab8.lg 255 a = some m) : w.cell? ⟨g, 510 + a, none⟩ = some (.int .i64 (m : Nat)) := by
 obtain ⟨cur, hh, _, _, hl⟩ := h
 exact (cell_of_row w g (510 + a) cur 125 (0, 0) hh).trans (hl a m hm)
theorem wpList_build {P : Program} {ops : Array Oper} {rest : List Oper} {o : Oper} {a : Act} {Q : Exit → Act → World → Prop} {w : World} (hg : o.guard = none) (t : TypeId) (ho : o.op = .build t #[]) (Z : Array Value) (hZ : P.built t [] = some Z)
  (h : wpList P ops Q rest (a.put o.dst (.agg Z)) w) : wpList P ops Q (o :: rest) a w := by
 refine wpList_plain hg fun K hK => wp_build t #[] ho (by simp [hZ]) ?_
 simp [hZ]
 exact hK _ _ h
theorem tab8.step : ∀ x, x ∈ List.range 256 → gf8_Mul.f 20 (x : Nat) 2 = some (((if 255 < 2 * x then (2 * x) ^^^ 285 else 2 * x : Nat)) : Int) ∧ (if 255 < 2 * x then (2 * x) ^^^ 285 else 2 * x) < 256 := by decide +kernel
theorem tab8.next (n : Nat) : gf8_Mul.f 20 (tab8.pw n : Nat) 2 = some ((tab8.pw (n + 1) : Nat) : Int) := (tab8.step (tab8.pw n) (List.mem_range.2 (tab8.pw_lt n))).1
theorem tab8.Is_next {n : Nat} (hlt : n < 255) {cur : Array Value} (hs : cur.size = 766) (he : ∀ j, j < n → cur[j]? = some (.int .u8 (tab8.pw j : Nat)) ∧ cur[j + 255]? = some (.int .u8 (tab8.pw j : Nat))) (hl : ∀ a m, tab8.lg n a = some m → cur[510 + a]? = some (.int .i64 (m : Nat))) :
  tab8.Is (n + 1) (((cur.setIfInBounds n (.int .u8 ((tab8.pw n : Nat) : Int))).setIfInBounds (n + 255) (.int .u8 ((tab8.pw n : Nat) : Int))).setIfInBounds (510 + tab8.pw n) (.int .i64 (n : Nat))) := by
 have hp := tab8.pw_lt n
 refine ⟨by simp [hs], fun j hj => ?_, fun a m hm => ?_⟩
 ·refine ⟨?_, ?_⟩
  ·rw [Array.getElem?_setIfInBounds_ne (by omega), Array.getElem?_setIfInBounds_ne (by omega)]
   by_cases e : j = n
   ·subst e
    rw [Array.getElem?_setIfInBounds_self_of_lt (by omega)]
   ·rw [Array.getElem?_setIfInBounds_ne (by omega)]
    exact (he j (by omega)).1
  ·rw [Array.getElem?_setIfInBounds_ne (by omega)]
   by_cases e : j = n
   ·subst e
    rw [Array.getElem?_setIfInBounds_self_of_lt (by simp; omega)]
   ·rw [Array.getElem?_setIfInBounds_ne (by omega), Array.getElem?_setIfInBounds_ne (by omega)]
    exact (he j (by omega)).2
 ·unfold tab8.lg at hm
  by_cases e : tab8.pw n = a
  ·rw [if_pos e] at hm
   subst e
   obtain rfl := Option.some.inj hm
   rw [Array.getElem?_setIfInBounds_self_of_lt (by simp; omega)]
  ·rw [if_neg e] at hm
   rw [Array.getElem?_setIfInBounds_ne (by omega), Array.getElem?_setIfInBounds_ne (by omega), Array.getElem?_setIfInBounds_ne (by omega)]
   exact hl a m hm
set_option maxRecDepth 400000 in
theorem built8 : ∃ Z : Array Value, Try.prog.built 125 [] = some Z ∧ Z.size = 766 := by
 have h1 : Try.prog.info? 125 = some Try.t125 := by kernel_rfl
 have h2 : (Try.t125.zero.map (fun z => z.cells.size)) = some 766 := by kernel_rfl
 obtain ⟨z, hz, hs⟩ := Option.map_eq_some_iff.1 h2
 refine ⟨z.cells, ?_, hs⟩
 unfold Program.built
 rw [h1, Try.underlying125]
 simp only [hz]
 rfl
def gf8_New.f : Option Unit := some ()
set_option maxHeartbeats 4000000 in
set_option maxRecDepth 100000 in
theorem gf8_New.calls (w0 w : World) (hB : Below w0.heap.size w0 w) (_h : gf8_New.f = some ()) : Calls Try.prog 64 #[] w fun e w' => ∃ g_ : Nat, e = .returned (.pointer (some ⟨g_, 0, none⟩)) ∧ IsS125 w0 w' g_ ∧ Below w0.heap.size w0 w' ∧ Below w.heap.size w w' := by
 obtain ⟨Z, hZ, hZs⟩ := built8
 go_enter Try.func64, Try.ntmps64
 go_wp2_with (first | (refine wpList_build rfl 125 rfl Z hZ ?_))
 go_loopw [2, 6] (fun v2 v6 wr => ∃ n : Nat, n ≤ 255 ∧ v6 = .int .i64 n ∧ v2 = .int .u8 (tab8.pw n : Nat) ∧ (∃ cur, wr.heap[w.heap.size]? = some (.cells cur 125 (0, 0)) ∧ tab8.Is n cur) ∧ Below w.heap.size w wr) (fun _ v6 _ => 255 - (intOf v6).toNat)
 case atStart =>
  have hb0 := below_alloc (Below.refl w.heap.size w) (Obj.cells Z 125)
  exact ⟨0, by omega, by rfl, by rfl, ⟨Z, by simpa using heap_alloc_new w _, hZs, fun j hj => absurd hj (by omega), fun a m hm => by cases hm⟩, hb0⟩
 case round =>
  obtain ⟨n, hn, rfl, rfl, ⟨cur, hh, hs, he, hl⟩, hbw⟩ := hrel
  by_cases hlt : n < 255
  ·have hd : decide ((n : Int) < 255) = true := decide_eq_true (by omega)
   have hp := tab8.pw_lt n
   have hnx := tab8.next n
   have hIs := tab8.Is_next hlt hs he hl
   obtain ⟨y, hy⟩ : ∃ y, y = tab8.pw (n + 1) := ⟨_, rfl⟩
   rw [← hy] at hnx
   have HY := Aside0.mk (show Value.int .u8 (y : Int) = Value.int .u8 ((tab8.pw (n + 1) : Nat) : Int) by rw [hy])
   clear hy
   obtain ⟨x, hx⟩ : ∃ x, x = tab8.pw n := ⟨_, rfl⟩
   rw [← hx] at hp hnx hIs ⊢
   have HX := Aside0.mk hx
   obtain ⟨u1, hu1⟩ : ∃ u, wr.cell? ⟨w.heap.size, n, none⟩ = some u := ⟨_, (cell_of_row wr _ n cur 125 (0, 0) hh).trans (Array.getElem?_eq_getElem (by omega))⟩
   have hf1 : wr.frozen? ⟨w.heap.size, n, none⟩ = false := blk_frozen hh _
   have hh1 := blk_set hh n (.int .u8 (x : Int))
   have hh2 := blk_set hh1 (n + 255) (.int .u8 (x : Int))
   have hh3 := blk_set hh2 (510 + x) (.int .i64 (n : Int))
   obtain ⟨u2, hu2⟩ : ∃ u, (wr.setCell ⟨w.heap.size, n, none⟩ (.int .u8 (x : Int))).cell? ⟨w.heap.size, n + 255, none⟩ = some u := ⟨_, (cell_of_row _ _ (n + 255) _ 125 (0, 0) hh1).trans (Array.getElem?_eq_getElem (by simp; omega))⟩
   have hf2 : (wr.setCell ⟨w.heap.size, n, none⟩ (.int .u8 (x : Int))).frozen? ⟨w.heap.size, n + 255, none⟩ = false := blk_frozen hh1 _
   have HIs := Aside0.mk hIs
   have HN := Aside0.mk hnx
   have HH3 := Aside0.mk hh3
   have HH := Aside0.mk hh
   obtain ⟨cur2, hc2⟩ : ∃ c, c = (cur.setIfInBounds n (.int .u8 (x : Int))).setIfInBounds (n + 255) (.int .u8 (x : Int)) := ⟨_, rfl⟩
   have hz2 : cur2.size = 766 := by rw [hc2]; simp [hs]
   rw [← hc2] at hIs hh2
   have HH2 := Aside0.mk hh2
   have hb2 : Below w.heap.size w (((wr.setCell ⟨w.heap.size, n, none⟩ (.int .u8 (x : Int))).setCell ⟨w.heap.size, n + 255, none⟩ (.int .u8 (x : Int))).drew) := below_drew1 (below_set (below_set hbw (Nat.le_refl _)) (Nat.le_refl _))
   have HB2 := Aside0.mk hb2
   have HIs := Aside0.mk hIs
   clear hh1 hh2 hh3 hIs hnx he hl hs hh hx hZ hZs hb2 HH3 HH hc2
   go_wp2
   go_region
   have hh3 : (((wr.setCell ⟨w.heap.size, n, none⟩ (.int .u8 (x : Int))).setCell ⟨w.heap.size, n + 255, none⟩ (.int .u8 (x : Int))).drew).heap[w.heap.size]? = some (.cells cur2 125 (0, 0)) := HH2.out
   have hb3 := HB2.out
   generalize ((wr.setCell ⟨w.heap.size, n, none⟩ (.int .u8 (x : Int))).setCell ⟨w.heap.size, n + 255, none⟩ (.int .u8 (x : Int))).drew = W3 at hh3 hb3 ⊢
   obtain ⟨u3, hu3⟩ : ∃ u, W3.cell? ⟨w.heap.size, 510 + x, none⟩ = some u := ⟨_, (cell_of_row _ _ (510 + x) _ 125 (0, 0) hh3).trans (Array.getElem?_eq_getElem (by omega))⟩
   have hf3 : W3.frozen? ⟨w.heap.size, 510 + x, none⟩ = false := blk_frozen hh3 _
   have HH4 := Aside0.mk (blk_set hh3 (510 + x) (.int .i64 (n : Int)))
   have HB4 := Aside0.mk (below_set (v := .int .i64 (n : Int)) (j := 510 + x) hb3 (Nat.le_refl _))
   clear hh3 hb3 hz2 HH2 HB2
   go_wp2_with (first | (go_at_call 18; refine (gf8_Mul.calls 20 _ _ _ _ HN.out).mono ?_; rintro e w4 ⟨rfl, nd, rfl⟩))
   go_roundw
   case rel => exact ⟨n + 1, by omega, by go_num, HY.out, ⟨_, HH4.out, HIs.out⟩, pw_below_drewN HB4.out _⟩
   case measure => simp [intOf]; omega
  ·have hd : decide ((n : Int) < 255) = false := decide_eq_false (by omega)
   obtain rfl : n = 255 := by omega
   go_wp2
   go_ret
   exact ⟨w.heap.size, rfl, ⟨cur, hh, hs, he, hl⟩, below_step hB hbw, hbw⟩

/-! ### gf8_Tables_Inv: function 66 -/
def gf8_Tables_Inv.f (a0 : Int) : Option (Int × Int) := if 0 ≤ a0 ∧ a0 ≤ 255 then (if a0 = 0 then some (0, 20) else (tab8.lg 255 a0.toNat).bind fun la => some (((tab8.pw ((255 - la) % 255) : Nat) : Int), 0)) else none
set_option maxHeartbeats 4000000 in
set_option maxRecDepth 100000 in
theorem gf8_Tables_Inv.calls (g : Nat) (a0 r1 r2 : Int) (w : World) (hI : IsS125 w w g) (h : gf8_Tables_Inv.f a0 = some (r1, r2)) : Calls Try.prog 66 #[.pointer (some ⟨g, 0, none⟩), .int .u8 a0] w fun e w' => e = .returned (.tuple #[.int .u8 r1, .int .i64 r2]) ∧ Drawn0 w w' := by
 unfold gf8_Tables_Inv.f at h
 by_cases hr : 0 ≤ a0 ∧ a0 ≤ 255
 ·rw [if_pos hr] at h
  obtain ⟨a, rfl⟩ : ∃ a : Nat, a0 = (a : Int) := ⟨a0.toNat, by omega⟩
  by_cases h0 : (a : Int) = 0
  ·rw [if_pos h0] at h
   obtain ⟨rfl, rfl⟩ := Prod.mk.inj (Option.some.inj h)
   have hz : ((a : Int) == 0) = true := beq_iff_eq.2 h0
   clear h0 h hr
   go_enter Try.func66, Try.ntmps66
   go_wp2
   refine bodyPost_ret (results_tmp2 rfl _ _ _) rfl ?_
   exact ⟨rfl, Drawn0.refl _⟩
  ·rw [if_neg h0, Int.toNat_natCast] at h
   have hz : ((a : Int) == 0) = false := beq_eq_false_iff_ne.2 h0
   obtain ⟨la, hla, h⟩ := Option.bind_eq_some_iff.1 h
   obtain ⟨rfl, rfl⟩ := Prod.mk.inj (Option.some.inj h)
   have c1 := hI.log hla
   have l1 := tab8.lg_lt _ _ _ hla
   have c3 := hI.exp (j := 255 - la) (by omega)
   have ha : a < 256 := by omega
   generalize tab8.pw ((255 - la) % 255) = p at c3 ⊢
   obtain ⟨m, hm⟩ : ∃ m : Nat, (255 : Int) - (la : Int) = (m : Int) := ⟨255 - la, by omega⟩
   have hm2 : 255 - la = m := by omega
   rw [hm2] at c3
   have hml : m ≤ 255 := by omega
   clear hI hla h h0 hr hm2
   go_enter Try.func66, Try.ntmps66
   go_wp2
   go_quiet (fail)
   go_wp2
   refine bodyPost_ret (results_tmp2 rfl _ _ _) rfl ?_
   exact ⟨rfl, ⟨_, rfl⟩⟩
 ·rw [if_neg hr] at h; cases h

/-! ### gf8_Tables_Mul: function 69 -/
def gf8_Tables_Mul.f (a0 a1 : Int) : Option Int := if 0 ≤ a0 ∧ a0 ≤ 255 ∧ 0 ≤ a1 ∧ a1 ≤ 255 then (if a0 = 0 then some 0 else if a1 = 0 then some 0 else (tab8.lg 255 a0.toNat).bind fun la => (tab8.lg 255 a1.toNat).bind fun lb => some ((tab8.pw ((la + lb) % 255) : Nat) : Int)) else none
set_option maxHeartbeats 4000000 in
set_option maxRecDepth 100000 in
theorem gf8_Tables_Mul.calls (g : Nat) (a0 a1 r : Int) (w : World) (hI : IsS125 w w g) (h : gf8_Tables_Mul.f a0 a1 = some r) : Calls Try.prog 69 #[.pointer (some ⟨g, 0, none⟩), .int .u8 a0, .int .u8 a1] w fun e w' => e = .returned (.int .u8 r) ∧ Drawn0 w w' := by
 unfold gf8_Tables_Mul.f at h
 by_cases hr : 0 ≤ a0 ∧ a0 ≤ 255 ∧ 0 ≤ a1 ∧ a1 ≤ 255
 ·rw [if_pos hr] at h
  obtain ⟨a, rfl⟩ : ∃ a : Nat, a0 = (a : Int) := ⟨a0.toNat, by omega⟩
  obtain ⟨b, rfl⟩ : ∃ b : Nat, a1 = (b : Int) := ⟨a1.toNat, by omega⟩
  by_cases h0 : (a : Int) = 0
  ·rw [if_pos h0] at h
   obtain rfl := Option.some.inj h
   have hz : ((a : Int) == 0) = true := beq_iff_eq.2 h0
   clear h0 h hr
   go_enter Try.func69, Try.ntmps69
   go_wp2
   go_ret
   exact ⟨rfl, Drawn0.refl _⟩
  ·rw [if_neg h0] at h
   have hz : ((a : Int) == 0) = false := beq_eq_false_iff_ne.2 h0
   by_cases h1 : (b : Int) = 0
   ·rw [if_pos h1] at h
    obtain rfl := Option.some.inj h
    have hz1 : ((b : Int) == 0) = true := beq_iff_eq.2 h1
    clear h0 h h1 hr
    go_enter Try.func69, Try.ntmps69
    go_wp2
    go_ret
    exact ⟨rfl, Drawn0.refl _⟩
   ·rw [if_neg h1, Int.toNat_natCast, Int.toNat_natCast] at h
    have hz1 : ((b : Int) == 0) = false := beq_eq_false_iff_ne.2 h1
    obtain ⟨la, hla, h⟩ := Option.bind_eq_some_iff.1 h
    obtain ⟨lb, hlb, h⟩ := Option.bind_eq_some_iff.1 h
    obtain rfl := Option.some.inj h
    have l1 := tab8.lg_lt _ _ _ hla
    have l2 := tab8.lg_lt _ _ _ hlb
    have c1 := hI.log hla
    have c2 := hI.log hlb
    have c3 := hI.exp (j := la + lb) (by omega)
    have ha : a < 256 := by omega
    have hb : b < 256 := by omega
    generalize tab8.pw ((la + lb) % 255) = p at c3 ⊢
    clear hI hla hlb h h0 h1 hr
    go_enter Try.func69, Try.ntmps69
    go_wp2
    go_quiet (fail)
    go_wp2
    go_ret
    exact ⟨rfl, ⟨_, rfl⟩⟩
 ·rw [if_neg hr] at h; cases h

end Go.Proofs.Ytkdoilmfchlpdaa.A
end
section
-- Printed for this claim by mp.py, a program of its prover, through the kit's print. Lean checks it.
namespace Go.Proofs.Ytkdoilmfchlpdaa.A
open Go.RowKit Go.Proofs.YtkdoilmfchlpdaaW.PrintWords Go.Proofs.YtkdoilmfchlpdaaW.PrintLast Go.Proofs.YtkdoilmfchlpdaaW.PrintMore
attribute [local go_sem] max2_int min2_int max_two min_two max_three min_three max_four min_four   -- for this text's walks alone
set_option linter.unusedVariables false
set_option linter.unusedSimpArgs false

/-! ### matrix_Vandermonde: function 43 -/
mutual
def matrix_Vandermonde.j0 : Nat → Int → Int → Bool → Option ((List (List Int)) × Int)
 | 0, _, _, _ => none
 | k + 1, x0, x1, x22 => if x22 = true then (some (([] : List (List Int)), 100)) else ((matrix_blank.f k x0 x1).bind fun t120 => (matrix_Vandermonde.l0 k x1 t120 (t120.length : Int) 0))
def matrix_Vandermonde.l0 : Nat → Int → List (List Int) → Int → Int → Option ((List (List Int)) × Int)
 | 0, _, _, _, _ => none
 | k + 1, x1, x6, x27, x28 => if x28 < x27 then (if 0 ≤ x28 then (if x28 < (x6.length : Int) then (if 0 < ((rd_L1 x6 x28).length : Int) then (matrix_Vandermonde.l1 k x1 (x6.set (x28 : Int).toNat ((rd_L1 x6 x28).set (0 : Int).toNat 1)) x28 1 x27 x28) else (none)) else (none)) else (none)) else (some (x6, 0))
def matrix_Vandermonde.l1 : Nat → Int → List (List Int) → Int → Int → Int → Int → Option ((List (List Int)) × Int)
 | 0, _, _, _, _, _, _ => none
 | k + 1, x1, x6, x7, x8, x27, x28 => if x8 < x1 then (if 0 ≤ x7 then (if x7 < (x6.length : Int) then (if 0 ≤ (wrap64 (x8 - 1)) then (if (wrap64 (x8 - 1)) < ((rd_L1 x6 x7).length : Int) then ((gf8_Mul.f k (rd (rd_L1 x6 x7) (wrap64 (x8 - 1))) ((x7) % 256)).bind fun t130 => (if 0 ≤ x8 then (if x8 < ((rd_L1 x6 x7).length : Int) then (matrix_Vandermonde.l1 k x1 (x6.set (x7 : Int).toNat ((rd_L1 x6 x7).set (x8 : Int).toNat t130)) x7 (wrap64 (x8 + 1)) x27 x28) else (none)) else (none))) else (none)) else (none)) else (none)) else (none)) else (matrix_Vandermonde.l0 k x1 x6 x27 (wrap64 (x28 + 1)))
end
def matrix_Vandermonde.f (k : Nat) (a0 : Int) (a1 : Int) : Option ((List (List Int)) × Int) := if a0 < 1 then (matrix_Vandermonde.j0 k a0 a1 true) else (if a0 > 256 then (matrix_Vandermonde.j0 k a0 a1 true) else (if a1 < 1 then (matrix_Vandermonde.j0 k a0 a1 true) else (matrix_Vandermonde.j0 k a0 a1 (decide (a1 > 512)))))
theorem matrix_Vandermonde.mono_l : ∀ k, (∀ y0 y1 y2, LeO (matrix_Vandermonde.j0 k y0 y1 y2) (matrix_Vandermonde.j0 (k + 1) y0 y1 y2)) ∧ (∀ y0 y1 y2 y3, LeO (matrix_Vandermonde.l0 k y0 y1 y2 y3) (matrix_Vandermonde.l0 (k + 1) y0 y1 y2 y3)) ∧ (∀ y0 y1 y2 y3 y4 y5, LeO (matrix_Vandermonde.l1 k y0 y1 y2 y3 y4 y5) (matrix_Vandermonde.l1 (k + 1) y0 y1 y2 y3 y4 y5))
 | 0 => ⟨fun _ _ _ r h => by simp [matrix_Vandermonde.j0] at h, fun _ _ _ _ r h => by simp [matrix_Vandermonde.l0] at h, fun _ _ _ _ _ _ r h => by simp [matrix_Vandermonde.l1] at h⟩
 | k + 1 => by
  obtain ⟨ih0, ih1, ih2⟩ := matrix_Vandermonde.mono_l k
  refine ⟨?_, ?_, ?_⟩
  ·intro y0 y1 y2
   unfold matrix_Vandermonde.j0
   repeat' first
   | (with_reducible exact ih0 _ _ _)
   | (with_reducible exact ih1 _ _ _ _)
   | (with_reducible exact ih2 _ _ _ _ _ _)
   | (with_reducible exact gf8_Mul.mono _ _ _)
   | (with_reducible exact matrix_blank.mono _ _ _)
   | (with_reducible exact LeO.refl _)
   | (with_reducible exact LeO.none _)
   | (with_reducible refine LeO.ite ?_ ?_)
   | (with_reducible refine LeO.bind ?_ (fun _ => ?_))
   | exact ih0 _ _ _
   | exact ih1 _ _ _ _
   | exact ih2 _ _ _ _ _ _
   | exact gf8_Mul.mono _ _ _
   | exact matrix_blank.mono _ _ _
   | exact LeO.none _
   | refine LeO.ite ?_ ?_
   | refine LeO.bind ?_ (fun _ => ?_)
  ·intro y0 y1 y2 y3
   unfold matrix_Vandermonde.l0
   repeat' first
   | (with_reducible exact ih0 _ _ _)
   | (with_reducible exact ih1 _ _ _ _)
   | (with_reducible exact ih2 _ _ _ _ _ _)
   | (with_reducible exact gf8_Mul.mono _ _ _)
   | (with_reducible exact matrix_blank.mono _ _ _)
   | (with_reducible exact LeO.refl _)
   | (with_reducible exact LeO.none _)
   | (with_reducible refine LeO.ite ?_ ?_)
   | (with_reducible refine LeO.bind ?_ (fun _ => ?_))
   | exact ih0 _ _ _
   | exact ih1 _ _ _ _
   | exact ih2 _ _ _ _ _ _
   | exact gf8_Mul.mono _ _ _
   | exact matrix_blank.mono _ _ _
   | exact LeO.none _
   | refine LeO.ite ?_ ?_
   | refine LeO.bind ?_ (fun _ => ?_)
  ·intro y0 y1 y2 y3 y4 y5
   unfold matrix_Vandermonde.l1
   repeat' first
   | (with_reducible exact ih0 _ _ _)
   | (with_reducible exact ih1 _ _ _ _)
   | (with_reducible exact ih2 _ _ _ _ _ _)
   | (with_reducible exact gf8_Mul.mono _ _ _)
   | (with_reducible exact matrix_blank.mono _ _ _)
   | (with_reducible exact LeO.refl _)
   | (with_reducible exact LeO.none _)
   | (with_reducible refine LeO.ite ?_ ?_)
   | (with_reducible refine LeO.bind ?_ (fun _ => ?_))
   | exact ih0 _ _ _
   | exact ih1 _ _ _ _
   | exact ih2 _ _ _ _ _ _
   | exact gf8_Mul.mono _ _ _
   | exact matrix_blank.mono _ _ _
   | exact LeO.none _
   | refine LeO.ite ?_ ?_
   | refine LeO.bind ?_ (fun _ => ?_)
theorem matrix_Vandermonde.mono : ∀ a0 a1 k, LeO (matrix_Vandermonde.f k a0 a1) (matrix_Vandermonde.f (k + 1) a0 a1) := by
 intro a0 a1 k
 obtain ⟨ih0, ih1, ih2⟩ := matrix_Vandermonde.mono_l k
 unfold matrix_Vandermonde.f
 repeat' first
   | (with_reducible exact ih0 _ _ _)
   | (with_reducible exact ih1 _ _ _ _)
   | (with_reducible exact ih2 _ _ _ _ _ _)
   | (with_reducible exact gf8_Mul.mono _ _ _)
   | (with_reducible exact matrix_blank.mono _ _ _)
   | (with_reducible exact LeO.refl _)
   | (with_reducible exact LeO.none _)
   | (with_reducible refine LeO.ite ?_ ?_)
   | (with_reducible refine LeO.bind ?_ (fun _ => ?_))
   | exact ih0 _ _ _
   | exact ih1 _ _ _ _
   | exact ih2 _ _ _ _ _ _
   | exact gf8_Mul.mono _ _ _
   | exact matrix_blank.mono _ _ _
   | exact LeO.none _
   | refine LeO.ite ?_ ?_
   | refine LeO.bind ?_ (fun _ => ?_)
def matrix_Vandermonde.T11 : Bool × List (List Nat × List Nat) := (true, [([], []), ([], []), ([0, 1], [0, 1]), ([2], [2]), ([], []), ([], []), ([], []), ([5, 6], [5, 6]), ([7], [7]), ([], []), ([9], [9]), ([8, 10], [8, 10]), ([11], [11]), ([], []), ([13], [13]), ([12, 14], [12, 14]), ([3, 4, 0, 1, 2, 3, 4, 5, 6, 7, 8, 9, 10, 11, 12, 13, 14, 15], [3, 4]), ([16, 15, 15, 0, 1, 2, 3, 4, 5, 6, 7, 8, 9, 10, 11, 12, 13, 14, 15], [15, 16])])
def matrix_Vandermonde.B11 : List Nat := [0, 0, 3, 7, 0, 0, 0, 96, 224, 0, 512, 2016, 4064, 0, 8192, 32736, 65535, 131071]
theorem matrix_Vandermonde.tab11 : rtab .any (opsOf Try.f43 11) = matrix_Vandermonde.T11 := by kernel_rfl
theorem matrix_Vandermonde.bits11 : waitsOk matrix_Vandermonde.T11.2 matrix_Vandermonde.B11 = true := by kernel_rfl
set_option maxHeartbeats 8000000 in
set_option maxRecDepth 100000 in
theorem matrix_Vandermonde.calls (k : Nat) (a0 : Int) (a1 : Int) (r1 : List (List Int)) (r2 : Int) (w : World) (h : matrix_Vandermonde.f k a0 a1 = some (r1, r2)) :
  Calls Try.prog 43 #[.int .i64 a0, .int .i64 a1] w fun e w' => ∃ v0_ : Value, e = .returned (.tuple #[v0_, .int .i64 r2]) ∧ Kd.S (Kd.slice 5 (Kd.int .u8)) 22 w' w.heap.size (fun _ => True) v0_ r1 ∧ Below w.heap.size w w' := by
 have HB := Aside0.mk (Below.refl w.heap.size w)
 have H : (if a0 < 1 then (matrix_Vandermonde.j0 k a0 a1 true) else (if a0 > 256 then (matrix_Vandermonde.j0 k a0 a1 true) else (if a1 < 1 then (matrix_Vandermonde.j0 k a0 a1 true) else (matrix_Vandermonde.j0 k a0 a1 (decide (a1 > 512)))))) = some (r1, r2) := h
 clear h
 have HC3 := Aside0.mk H
 clear H
 go_enter Try.func43, Try.ntmps43
 go_upto_region 1 with (fail)
 go_cut [22] (fun v22 wc => ∃ (kq : Nat) (x22_2 : Bool), v22 = .bool x22_2 ∧ Aside0 (matrix_Vandermonde.j0 kq a0 a1 x22_2 = some (r1, r2)) ∧ Aside0 (kq ≤ k) ∧ Aside0 (Below w.heap.size w wc))
 case first =>
  have H := HC3.out
  clear HC3
  by_cases c4 : a0 < 1
  ·rw [if_pos c4] at H
   have c4b0 : decide (a0 < 1) = true := decide_eq_true c4
   clear c4
   (first | rw [c4b0] | (simp only [i64_w, i32_w]; rw [c4b0]) | skip)
   have H' := Aside0.mk H
   clear H
   go_wp2
   go_meet
   case rel => exact ⟨_, (true), (by first | rfl | (simp; done) | (simp [*]; done)), H', ⟨by first | omega | exact Nat.le_refl _⟩, ⟨by repeat (first | (with_reducible first | exact HB.out | apply below_alloc | apply pw_below_drewN | apply below_drew1) | exact HB.out)⟩⟩
  ·rw [if_neg c4] at H
   have c4b0 : decide (a0 < 1) = false := decide_eq_false c4
   clear c4
   (first | rw [c4b0] | (simp only [i64_w, i32_w]; rw [c4b0]) | skip)
   by_cases c5 : a0 > 256
   ·rw [if_pos c5] at H
    have c5b0 : decide (256 < a0) = true := decide_eq_true c5
    clear c5
    have H' := Aside0.mk H
    clear H
    go_wp2
    go_meet
    case rel => exact ⟨_, (true), (by first | rfl | (simp; done) | (simp [*]; done)), H', ⟨by first | omega | exact Nat.le_refl _⟩, ⟨by repeat (first | (with_reducible first | exact HB.out | apply below_alloc | apply pw_below_drewN | apply below_drew1) | exact HB.out)⟩⟩
   ·rw [if_neg c5] at H
    have c5b0 : decide (256 < a0) = false := decide_eq_false c5
    clear c5
    by_cases c6 : a1 < 1
    ·rw [if_pos c6] at H
     have c6b0 : decide (a1 < 1) = true := decide_eq_true c6
     clear c6
     have H' := Aside0.mk H
     clear H
     go_wp2
     go_meet
     case rel => exact ⟨_, (true), (by first | rfl | (simp; done) | (simp [*]; done)), H', ⟨by first | omega | exact Nat.le_refl _⟩, ⟨by repeat (first | (with_reducible first | exact HB.out | apply below_alloc | apply pw_below_drewN | apply below_drew1) | exact HB.out)⟩⟩
    ·rw [if_neg c6] at H
     have c6b0 : decide (a1 < 1) = false := decide_eq_false c6
     clear c6
     have H' := Aside0.mk H
     clear H
     go_wp2
     go_meet
     case rel => exact ⟨_, (decide (a1 > 512)), (by first | rfl | (simp; done) | (simp [*]; done)), H', ⟨by first | omega | exact Nat.le_refl _⟩, ⟨by repeat (first | (with_reducible first | exact HB.out | apply below_alloc | apply pw_below_drewN | apply below_drew1) | exact HB.out)⟩⟩
 case rest =>
  clear HC3
  try clear p2
  try clear c4
  try clear c4b0
  try clear c5
  try clear c5b0
  try clear c6
  try clear c6b0
  obtain ⟨kq, x22_2, rfl, HA, HJ2, HB⟩ := hcut
  cases kq with
  | zero => exact absurd HA.out (by simp [matrix_Vandermonde.j0])
  | succ kj2 =>
   have H := HA.out
   clear HA
   simp only [matrix_Vandermonde.j0] at H
   by_cases c7 : x22_2 = true
   ·subst c7
    have H1 : (some (([] : List (List Int)), 100)) = some (r1, r2) := by rw [if_pos rfl] at H; exact H
    clear H
    have H := H1
    clear H1
    simp only [Option.some.injEq, Prod.mk.injEq] at H
    obtain ⟨rfl, rfl⟩ := H
    go_wp2
    go_ret2
    exact ⟨_, by first | rfl | (simp [errW_none, errW_some] <;> rfl) | (simp [*, errW_none, errW_some] <;> rfl), by first | exact Kd.S_nil _ _ _ _ _ | exact Kd.N_nil _ _ _ _ _ | exact Kd.V_nil _ _ _ _ _ | exact Kd.Q_nil _ _ _ _ _ | exact Kd.R_nil _ _ _ _ _, by repeat (first | (with_reducible first | exact HB.out | apply below_alloc | apply pw_below_drewN | apply below_drew1) | exact HB.out)⟩
   ·replace c7 := Bool.eq_false_iff.mpr c7
    subst c7
    have H1 : ((matrix_blank.f kj2 a0 a1).bind fun t120 => (matrix_Vandermonde.l0 kj2 a1 t120 (t120.length : Int) 0)) = some (r1, r2) := by rw [if_neg (show ¬ (false = true) by decide)] at H; exact H
    clear H
    have H := H1
    clear H1
    replace H := Option.bind_eq_some_iff.mp H
    obtain ⟨t120, A80, H⟩ := H
    replace H : (matrix_Vandermonde.l0 kj2 a1 t120 (t120.length : Int) 0) = some (r1, r2) := H
    have A8 := Aside0.mk A80
    clear A80
    have H' := Aside0.mk H
    clear H
    go_wp2_with (first | ((with_reducible refine gate_callee (f := 65) rfl ?_); refine goesL_ (some 25) rfl rfl Try.func65 (by kernel_rfl) rfl #[.int .i64 a0, .int .i64 a1] rfl (by (try simp only [List.map_toArray, List.map_cons, List.map_nil]); first | done | rfl | (simp only [tb_wrap8]; done) | (simp only [tb_wrap8]; rfl) | (simp only [List.length_drop, List.length_take]; rfl)) ?_; (with_reducible refine (matrix_blank.calls kj2 a0 a1 t120 _ A8.out).mono ?_); rintro e w9 ⟨v121, rfl, ho0, hb⟩; refine ⟨_, rfl, ?_⟩; have n0_ := Aside0.mk (Kd.S_lower ho0 (below_size (by repeat (first | (with_reducible first | exact HB.out | apply below_alloc | apply pw_below_drewN | apply below_drew1) | exact HB.out)))); have n1_ := Aside0.mk (below_step (by repeat (first | (with_reducible first | exact HB.out | apply below_alloc | apply pw_below_drewN | apply below_drew1) | exact HB.out)) hb); clear HB; have HO122 := n0_; have HB := n1_; clear n0_ n1_; (try clear hb); (try clear hb2); (try clear hk); (try clear hi); (try clear ho0); obtain ⟨Ao10, co10, eo10⟩ := Kd.S_slice HO122.out; subst eo10))
    go_loopg [28] kj2 (fun kq v28 w' => ∃ (x6_2 : List (List Int)) (x28_2 : Int), v28 = .int .i64 x28_2 ∧ Aside0 (matrix_Vandermonde.l0 kq a1 x6_2 (t120.length : Int) x28_2 = some (r1, r2)) ∧ Aside0 (kq ≤ kj2) ∧ Aside0 (Kd.S (Kd.slice 5 (Kd.int .u8)) 22 w' w.heap.size (fun _ => True) (.slice Ao10 t120.length co10) x6_2) ∧ Aside0 (Below w.heap.size w w'))
    case atStart => exact ⟨(t120), (0), (by first | rfl | (simp; done) | (simp [*]; done)), H', ⟨Nat.le_refl _⟩, ⟨by (with_reducible repeat (first | apply Kd.S_alloc | apply Kd.S_drewN | apply Kd.S_drew)); exact HO122.out⟩, ⟨by repeat (first | (with_reducible first | exact HB.out | apply below_alloc | apply pw_below_drewN | apply below_drew1) | exact HB.out)⟩⟩
    case round =>
     clear H'
     try clear p2
     try clear c4
     try clear c4b0
     try clear c5
     try clear c5b0
     try clear c6
     try clear c6b0
     try clear c7
     try clear p8
     try clear p2
     obtain ⟨x6_2, x28_2, rfl, HA, HK2, HO_6, HB⟩ := hrel
     have hl6_2 := (Kd.S_reads' HO_6.out).1
     rw [hl6_2] at HO_6
     (try simp only [hl6_2])
     cases gk with
     | zero => exact absurd HA.out (by simp [matrix_Vandermonde.l0])
     | succ k2 =>
      have H := HA.out
      clear HA
      simp only [matrix_Vandermonde.l0] at H
      by_cases c11 : x28_2 < (t120.length : Int)
      ·rw [if_pos c11] at H
       have c11b0 : decide (x28_2 < (t120.length : Int)) = true := decide_eq_true c11
       (try simp only [hl6_2] at c11b0)
       clear c11
       by_cases c12 : 0 ≤ x28_2
       ·rw [if_pos c12] at H
        have c12b0 : decide (0 ≤ x28_2) = true := decide_eq_true c12
        (try simp only [hl6_2] at c12b0)
        clear c12
        by_cases c13 : x28_2 < (x6_2.length : Int)
        ·rw [if_pos c13] at H
         have c13b0 : decide (x28_2 < (x6_2.length : Int)) = true := decide_eq_true c13
         (try simp only [hl6_2] at c13b0)
         clear c13
         by_cases c14 : 0 < ((rd_L1 x6_2 x28_2).length : Int)
         ·rw [if_pos c14] at H
          have c14b0 : decide (0 < ((rd_L1 x6_2 x28_2).length : Int)) = true := decide_eq_true c14
          (try simp only [hl6_2] at c14b0)
          have c14b1 : decide (0 < (rd_L1 x6_2 x28_2).length) = true := decide_eq_true (by omega)
          (try simp only [hl6_2] at c14b1)
          clear c14
          obtain ⟨y124, hy124⟩ : ∃ y_ : List Int, y_ = ((rd_L1 x6_2 x28_2).set (0 : Int).toNat 1) := ⟨_, rfl⟩
          replace H : (matrix_Vandermonde.l1 k2 a1 (x6_2.set (x28_2 : Int).toNat y124) x28_2 1 (t120.length : Int) x28_2) = some (r1, r2) := by first | (rw [hy124]; with_reducible exact H) | (have H2_ := (Option.bind_some _ _).symm.trans H; rw [hy124]; with_reducible exact H2_) | (have H2_ := (Option.bind_some _ _).symm.trans H; with_reducible exact H2_) | with_reducible exact H | (rw [hy124]; exact H) | exact H
          have Ny124 := Aside0.mk hy124
          clear hy124
          obtain ⟨y126, hy126⟩ : ∃ y_ : List (List Int), y_ = (x6_2.set (x28_2 : Int).toNat y124) := ⟨_, rfl⟩
          replace H : (matrix_Vandermonde.l1 k2 a1 y126 x28_2 1 (t120.length : Int) x28_2) = some (r1, r2) := by first | (rw [hy126]; with_reducible exact H) | (have H2_ := (Option.bind_some _ _).symm.trans H; rw [hy126]; with_reducible exact H2_) | (have H2_ := (Option.bind_some _ _).symm.trans H; with_reducible exact H2_) | with_reducible exact H | (rw [hy126]; exact H) | exact H
          have Ny126 := Aside0.mk hy126
          clear hy126
          have H' := Aside0.mk H
          clear H
          have p123 : 0 ≤ (x28_2 : Int) := of_decide_eq_true (by first | (with_reducible assumption) | assumption)
          have q123 : x28_2 < (x6_2.length : Int) := of_decide_eq_true (by first | (with_reducible assumption) | assumption)
          obtain ⟨ad123, A123_0, c123_0, e123, hx123_0, hl123_0, hi123_0⟩ := at_L1 (Kd.S_reads' HO_6.out).2.2 x28_2 p123 q123
          cases e123
          obtain ⟨ce123, hce123, hMe123, hcc123⟩ := Kd.S_get HO_6.out [] x28_2 p123 (by first | exact q123 | exact of_decide_eq_true (by first | (with_reducible assumption) | assumption) | (have e_ := (Kd.S_reads' HO_6.out).1; omega))
          obtain ⟨ve123_0, rfl, ge123_0⟩ := hMe123
          have hv123_0 := hcc123 0 _ rfl
          rw [Nat.add_zero, show ((Kd.slice 5 (Kd.int .u8))).sz = 1 from rfl, Nat.mul_one] at hv123_0
          replace hv123_0 := Option.some.inj (hv123_0.symm.trans hx123_0)
          rw [hv123_0] at ge123_0
          have HL123_0 := Aside0.mk (show Kd.R (Kd.int .u8) 5 _ _ _ _ (rd_L1 x6_2 x28_2) from ge123_0)
          clear hv123_0 ge123_0
          have HX123_0 := Aside0.mk hx123_0
          clear hcc123 hce123
          have HR123_0 := Aside0.mk hi123_0
          have HC123_0 := Aside0.mk hl123_0
          clear hi123_0 hl123_0
          replace p123 := eq_true p123
          replace q123 := eq_true q123
          have p15 : 0 ≤ (0 : Int) := (by omega)
          have q15 : (0 : Int) < (((rd_L1 x6_2 x28_2).length : Int) : Int) := of_decide_eq_true (by first | (with_reducible assumption) | assumption)
          have qi15 : (0 < (rd_L1 x6_2 x28_2).length) = True := eq_true (by omega)
          obtain ⟨go15, co15, eo15, gb15, gl15, cl15, HG15⟩ := Kd.R_form HL123_0.out (by omega)
          (first | cases eo15 | (injection eo15 with ea_ en_ ec_; (first | subst ea_ | (injection ea_ with ea_; subst ea_)); subst ec_; clear en_))
          have GB15 := Aside0.mk gb15
          have GG15 := Aside0.mk HG15
          clear gb15 gl15 HG15
          obtain ⟨hx15_0, hf15_0⟩ := Kd.R_celln 0 HL123_0.out (0 : Int) p15 q15
          (try rw [show ((0 : Int)).toNat = 0 from rfl] at hx15_0)
          (try simp only [Nat.reduceMul, Nat.zero_mul, Nat.zero_add, Nat.reduceAdd] at hx15_0)
          (try rw [show ((0 : Int)).toNat = 0 from rfl] at hf15_0)
          (try simp only [Nat.reduceMul, Nat.zero_mul, Nat.zero_add, Nat.reduceAdd] at hf15_0)
          replace p15 := eq_true p15
          replace q15 := eq_true q15
          have hq16 : (x28_2 : Int) < (x6_2.length : Int) := (by have h_ : (x28_2 : Int) < ((x6_2.length : Int) : Int) := of_decide_eq_true (by first | (with_reducible assumption) | assumption); first | exact h_ | (have e_ := (Kd.S_reads' HO_6.out).1; omega) | simpa only [List.length_set, List.length_set] using h_)
          obtain ⟨oki16, ce16, hcl16, hM16, hcc16, hok16, hbk16⟩ := Kd.S_borrow HO_6.out [] (x28_2 : Int) (of_decide_eq_true (by first | (with_reducible assumption) | assumption)) hq16
          obtain ⟨ve16_0, rfl, ge16_0⟩ := hM16
          have hv16 := hcc16 0 _ rfl
          rw [Nat.add_zero, show ((Kd.slice 5 (Kd.int .u8))).sz = 1 from rfl, Nat.mul_one] at hv16
          replace hv16 := Option.some.inj (hv16.symm.trans HX123_0.out)
          subst hv16
          clear hcc16 hcl16
          replace ge16_0 := (show Kd.R (Kd.int .u8) 5 _ _ _ _ (rd_L1 x6_2 x28_2) from ge16_0)
          have HP16 := Kd.R_putg ge16_0 (0 : Int) 1
          go_wp2_with (first | ((with_reducible refine gate_store (t := 5) (p := 35) rfl ?_); refine store_event (t := 5) (p := 35) (v := ?vo_w17) (w1 := (wr.setCell ⟨go15, 0, none⟩ (.int .u8 1))) ?hg ?ho ?hn ?hr ?_; (case ho => rfl); (case hg => rfl); (case hn => rfl); (case hr => first | (go_simp; done) | (go_simp; rfl)); intro w17 hw; have hg : wr.grownBy w17 (some go15) := (by rw [hw]; exact HP16.2); have hz_ : Kd.R (Kd.int .u8) 5 w17 w.heap.size oki16 (.slice (some ⟨go15, 0, none⟩) (rd_L1 x6_2 x28_2).length c123_0) y124 := (by rw [hw, Ny124.out]; exact HP16.1); have hp_ : Kd.S (Kd.slice 5 (Kd.int .u8)) 22 w17 w.heap.size (fun _ => True) (.slice (some ad123) x6_2.length co10) y126 := (by rw [Ny126.out]; exact hbk16 hg (fun k_ e_ => by injection e_ with e_; subst e_; exact ge16_0.1 _ rfl) (Kd.M_row hz_)); have hm_ := Kd.R_mono hz_ hok16; clear HP16 hbk16; have n0_ := Aside0.mk (hp_); have n1_ := Aside0.mk ((by rw [hw]; exact below_set (HB.out) GB15.out : Below w.heap.size w w17)); have n2_ := Aside0.mk (hm_); have n3_ := Aside0.mk ((Kd.R_reads' hm_).2.1); clear HO_6; clear HB; clear HL123_0; have HO_6 := n0_; have HB := n1_; have HL134 := n2_; have HC125 := n3_; clear n0_ n1_ n2_ n3_; clear hg hw hp_ hz_ hm_ hok16))
          go_loopg [8] k2 (fun kq v8 w' => ∃ (x6_3 : List (List Int)) (x8_3 : Int), v8 = .int .i64 x8_3 ∧ Aside0 (matrix_Vandermonde.l1 kq a1 x6_3 x28_2 x8_3 (t120.length : Int) x28_2 = some (r1, r2)) ∧ Aside0 (kq ≤ k2) ∧ Aside0 (Kd.S (Kd.slice 5 (Kd.int .u8)) 22 w' w.heap.size (fun _ => True) (.slice (some ad123) x6_2.length co10) x6_3) ∧ Aside0 (Below w.heap.size w w'))
          case atStart => exact ⟨(y126), (1), (by first | rfl | (simp; done) | (simp [*]; done)), H', ⟨Nat.le_refl _⟩, ⟨by (try simp only [hl6_2]); (with_reducible repeat (first | apply Kd.S_alloc | apply Kd.S_drewN | apply Kd.S_drew)); exact HO_6.out⟩, ⟨by repeat (first | (with_reducible first | exact HB.out | apply below_alloc | apply pw_below_drewN | apply below_drew1) | exact HB.out)⟩⟩
          case round =>
           clear H'
           try clear c1
           try clear p1
           try clear q1
           try clear hx1
           try clear qi1
           try clear p2
           try clear c4
           try clear c4b0
           try clear c5
           try clear c5b0
           try clear c6
           try clear c6b0
           try clear c7
           try clear p8
           try clear c11
           try clear c11b0
           try clear c12
           try clear c12b0
           try clear p12
           try clear q12
           try clear hx12
           try clear c13
           try clear c13b0
           try clear c14
           try clear c14b0
           try clear c14b1
           try clear p15
           try clear q15
           try clear hx15
           try clear qi15
           try clear hf15
           try clear c16
           try clear q16
           try clear hx123_0
           try clear hx15_0
           try clear p123
           try clear p15
           try clear p2
           try clear p8
           try clear q123
           try clear q15
           obtain ⟨x6_3, x8_3, rfl, HA, HK3, HO_6, HB⟩ := hrel
           have hl6_3 := (Kd.S_reads' HO_6.out).1
           rw [hl6_3] at HO_6
           (try simp only [hl6_3])
           cases gk with
           | zero => exact absurd HA.out (by simp [matrix_Vandermonde.l1])
           | succ k3 =>
            have H := HA.out
            clear HA
            simp only [matrix_Vandermonde.l1] at H
            by_cases c18 : x8_3 < a1
            ·rw [if_pos c18] at H
             have c18b0 : decide (x8_3 < a1) = true := decide_eq_true c18
             (try simp only [hl6_2] at c18b0)
             (try simp only [hl6_3] at c18b0)
             clear c18
             by_cases c19 : 0 ≤ x28_2
             ·rw [if_pos c19] at H
              have c19b0 : decide (0 ≤ x28_2) = true := decide_eq_true c19
              (try simp only [hl6_2] at c19b0)
              (try simp only [hl6_3] at c19b0)
              clear c19
              by_cases c20 : x28_2 < (x6_3.length : Int)
              ·rw [if_pos c20] at H
               have c20b0 : decide (x28_2 < (x6_3.length : Int)) = true := decide_eq_true c20
               (try simp only [hl6_2] at c20b0)
               (try simp only [hl6_3] at c20b0)
               clear c20
               obtain ⟨ji21, hji21⟩ : ∃ j_ : Int, (wrap64 (x8_3 - 1)) = j_ := ⟨_, rfl⟩
               replace H : (if 0 ≤ (ji21) then (if (ji21) < ((rd_L1 x6_3 x28_2).length : Int) then ((gf8_Mul.f k3 (rd (rd_L1 x6_3 x28_2) (ji21)) ((x28_2) % 256)).bind fun t130 => (if 0 ≤ x8_3 then (if x8_3 < ((rd_L1 x6_3 x28_2).length : Int) then (matrix_Vandermonde.l1 k3 a1 (x6_3.set (x28_2 : Int).toNat ((rd_L1 x6_3 x28_2).set (x8_3 : Int).toNat t130)) x28_2 (wrap64 (x8_3 + 1)) (t120.length : Int) x28_2) else (none)) else (none))) else (none)) else (none)) = some (r1, r2) := by first | (rw [hji21] at H; exact H) | (simp only [hji21] at H ⊢; exact H)
               have hji21w : (IntKind.i64.wrap (x8_3 - 1)) = ji21 := (i64_w _).trans hji21
               by_cases c22 : 0 ≤ (ji21)
               ·rw [if_pos c22] at H
                have c22b0 : decide (0 ≤ (ji21)) = true := decide_eq_true c22
                (try simp only [hl6_2] at c22b0)
                (try simp only [hl6_3] at c22b0)
                clear c22
                by_cases c23 : (ji21) < ((rd_L1 x6_3 x28_2).length : Int)
                ·rw [if_pos c23] at H
                 have c23b0 : decide ((ji21) < ((rd_L1 x6_3 x28_2).length : Int)) = true := decide_eq_true c23
                 (try simp only [hl6_2] at c23b0)
                 (try simp only [hl6_3] at c23b0)
                 clear c23
                 replace H := Option.bind_eq_some_iff.mp H
                 obtain ⟨t130, A240, H⟩ := H
                 replace H : (if 0 ≤ x8_3 then (if x8_3 < ((rd_L1 x6_3 x28_2).length : Int) then (matrix_Vandermonde.l1 k3 a1 (x6_3.set (x28_2 : Int).toNat ((rd_L1 x6_3 x28_2).set (x8_3 : Int).toNat t130)) x28_2 (wrap64 (x8_3 + 1)) (t120.length : Int) x28_2) else (none)) else (none)) = some (r1, r2) := H
                 have A24 := Aside0.mk A240
                 clear A240
                 by_cases c25 : 0 ≤ x8_3
                 ·rw [if_pos c25] at H
                  have c25b0 : decide (0 ≤ x8_3) = true := decide_eq_true c25
                  (try simp only [hl6_2] at c25b0)
                  (try simp only [hl6_3] at c25b0)
                  clear c25
                  by_cases c26 : x8_3 < ((rd_L1 x6_3 x28_2).length : Int)
                  ·rw [if_pos c26] at H
                   have c26b0 : decide (x8_3 < ((rd_L1 x6_3 x28_2).length : Int)) = true := decide_eq_true c26
                   (try simp only [hl6_2] at c26b0)
                   (try simp only [hl6_3] at c26b0)
                   clear c26
                   obtain ⟨y131, hy131⟩ : ∃ y_ : List Int, y_ = ((rd_L1 x6_3 x28_2).set (x8_3 : Int).toNat t130) := ⟨_, rfl⟩
                   replace H : (matrix_Vandermonde.l1 k3 a1 (x6_3.set (x28_2 : Int).toNat y131) x28_2 (wrap64 (x8_3 + 1)) (t120.length : Int) x28_2) = some (r1, r2) := by first | (rw [hy131]; with_reducible exact H) | (have H2_ := (Option.bind_some _ _).symm.trans H; rw [hy131]; with_reducible exact H2_) | (have H2_ := (Option.bind_some _ _).symm.trans H; with_reducible exact H2_) | with_reducible exact H | (rw [hy131]; exact H) | exact H
                   have Ny131 := Aside0.mk hy131
                   clear hy131
                   obtain ⟨y133, hy133⟩ : ∃ y_ : List (List Int), y_ = (x6_3.set (x28_2 : Int).toNat y131) := ⟨_, rfl⟩
                   replace H : (matrix_Vandermonde.l1 k3 a1 y133 x28_2 (wrap64 (x8_3 + 1)) (t120.length : Int) x28_2) = some (r1, r2) := by first | (rw [hy133]; with_reducible exact H) | (have H2_ := (Option.bind_some _ _).symm.trans H; rw [hy133]; with_reducible exact H2_) | (have H2_ := (Option.bind_some _ _).symm.trans H; with_reducible exact H2_) | with_reducible exact H | (rw [hy133]; exact H) | exact H
                   have Ny133 := Aside0.mk hy133
                   clear hy133
                   have H' := Aside0.mk H
                   clear H
                   try go_wp2
                   have n0_ := Aside0.mk (Kd.S_drew HO_6.out)
                   have n1_ := Aside0.mk (below_drew1 HB.out)
                   clear HO_6
                   clear HB
                   have HO_6 := n0_
                   have HB := n1_
                   clear n0_ n1_
                   have p127 : 0 ≤ (x28_2 : Int) := of_decide_eq_true (by first | (with_reducible assumption) | assumption)
                   have q127 : x28_2 < (x6_3.length : Int) := of_decide_eq_true (by first | (with_reducible assumption) | assumption)
                   obtain ⟨ad127, A127_0, c127_0, e127, hx127_0, hl127_0, hi127_0⟩ := at_L1 (Kd.S_reads' HO_6.out).2.2 x28_2 p127 q127
                   obtain rfl : ad123 = ad127 := (by injection e127)
                   obtain ⟨ce127, hce127, hMe127, hcc127⟩ := Kd.S_get HO_6.out [] x28_2 p127 (by first | exact q127 | exact of_decide_eq_true (by first | (with_reducible assumption) | assumption) | (have e_ := (Kd.S_reads' HO_6.out).1; omega))
                   obtain ⟨ve127_0, rfl, ge127_0⟩ := hMe127
                   have hv127_0 := hcc127 0 _ rfl
                   rw [Nat.add_zero, show ((Kd.slice 5 (Kd.int .u8))).sz = 1 from rfl, Nat.mul_one] at hv127_0
                   replace hv127_0 := Option.some.inj (hv127_0.symm.trans hx127_0)
                   rw [hv127_0] at ge127_0
                   have HL127_0 := Aside0.mk (show Kd.R (Kd.int .u8) 5 _ _ _ _ (rd_L1 x6_3 x28_2) from ge127_0)
                   clear hv127_0 ge127_0
                   have HX127_0 := Aside0.mk hx127_0
                   clear hcc127 hce127
                   have HR127_0 := Aside0.mk hi127_0
                   have HC127_0 := Aside0.mk hl127_0
                   clear hi127_0 hl127_0
                   replace p127 := eq_true p127
                   replace q127 := eq_true q127
                   have p128 : 0 ≤ (x28_2 : Int) := of_decide_eq_true (by first | (with_reducible assumption) | assumption)
                   have q128 : x28_2 < (x6_3.length : Int) := of_decide_eq_true (by first | (with_reducible assumption) | assumption)
                   obtain ⟨ad128, A128_0, c128_0, e128, hx128_0, hl128_0, hi128_0⟩ := at_L1 (Kd.S_reads' HO_6.out).2.2 x28_2 p128 q128
                   obtain rfl : ad123 = ad128 := (by injection e128)
                   obtain ⟨ce128, hce128, hMe128, hcc128⟩ := Kd.S_get HO_6.out [] x28_2 p128 (by first | exact q128 | exact of_decide_eq_true (by first | (with_reducible assumption) | assumption) | (have e_ := (Kd.S_reads' HO_6.out).1; omega))
                   obtain ⟨ve128_0, rfl, ge128_0⟩ := hMe128
                   have hv128_0 := hcc128 0 _ rfl
                   rw [Nat.add_zero, show ((Kd.slice 5 (Kd.int .u8))).sz = 1 from rfl, Nat.mul_one] at hv128_0
                   replace hv128_0 := Option.some.inj (hv128_0.symm.trans hx128_0)
                   rw [hv128_0] at ge128_0
                   have HL128_0 := Aside0.mk (show Kd.R (Kd.int .u8) 5 _ _ _ _ (rd_L1 x6_3 x28_2) from ge128_0)
                   clear hv128_0 ge128_0
                   have HX128_0 := Aside0.mk hx128_0
                   clear hcc128 hce128
                   have HR128_0 := Aside0.mk hi128_0
                   have HC128_0 := Aside0.mk hl128_0
                   clear hi128_0 hl128_0
                   replace p128 := eq_true p128
                   replace q128 := eq_true q128
                   have ea_ := Option.some.inj (hx127_0.symm.trans hx128_0)
                   injection ea_ with ea_ en_ ec_
                   subst ea_
                   subst ec_
                   clear en_
                   have p129 : 0 ≤ ((ji21) : Int) := of_decide_eq_true (by first | (with_reducible assumption) | assumption)
                   have q129 : (ji21) < ((rd_L1 x6_3 x28_2).length : Int) := of_decide_eq_true (by first | (with_reducible assumption) | assumption)
                   obtain ⟨ad129, e129, hx129_0⟩ := Kd.at_int (by repeat (first | (with_reducible exact HR128_0.out) | (with_reducible refine Kd.C_alloc ?_ _) | (with_reducible refine Kd.C_drewN ?_ _) | (with_reducible refine Kd.C_drew ?_) | exact HR128_0.out)) (ji21) p129 q129
                   cases e129
                   replace p129 := eq_true p129
                   replace q129 := eq_true q129
                   refine start_ (n := 18) (S := fun w' => w'.cell? (ad123.add (x28_2).toNat) = some (.slice (some ad129) (rd_L1 x6_3 x28_2).length c127_0) ∧ w'.cell? (ad123.add (x28_2).toNat) = some (.slice (some ad129) (rd_L1 x6_3 x28_2).length c127_0) ∧ w'.cell? (ad129.add ((ji21)).toNat) = some (.int .u8 (rd (rd_L1 x6_3 x28_2) (ji21)))) (ds := [17]) #[false, false, false, false, false, false, false, false, false, false, false, false, false, false, false, false, false, false] (by kernel_rfl) rfl rfl ⟨hx127_0, hx128_0, hx129_0⟩ (fun hHeld => ?_); refine with_tabW matrix_Vandermonde.tab11 matrix_Vandermonde.bits11 (fun HT_ HW_ => ?_)
                   generalize wr.drew = w28 at HO_6 HB HL127_0 HL128_0 HR127_0 HR128_0 HX127_0 HX128_0 hx127_0 hx128_0 hx129_0 hHeld ⊢
                   refine pure_ (i := 0) (N := some 41) (v := ?_) (a' := ?_) #[true, false, false, false, false, false, false, false, false, false, false, false, false, false, false, false, false, false] rfl rfl (any_of HT_.out (by kernel_rfl)) (fun _ _ _ h => h) (Or.inl ⟨by rfl, ?_⟩) ?_ ?_
                   rotate_left
                   ·intro w'
                    go_simp
                    with_reducible rfl
                   rotate_left
                   ·simp only [Act.put, List.setIfInBounds_toArray, List.set_cons_zero, List.set_cons_succ, i64_w, i32_w]
                    rfl
                   refine pure_ (i := 1) (N := some 42) (v := ?_) (a' := ?_) #[true, true, false, false, false, false, false, false, false, false, false, false, false, false, false, false, false, false] rfl rfl (any_of HT_.out (by kernel_rfl)) (fun _ _ _ h => h) (Or.inl ⟨by rfl, ?_⟩) ?_ ?_
                   rotate_left
                   ·intro w'
                    go_simp
                    with_reducible rfl
                   rotate_left
                   ·simp only [Act.put, List.setIfInBounds_toArray, List.set_cons_zero, List.set_cons_succ, i64_w, i32_w]
                    rfl
                   refine pure_ (i := 2) (N := some 43) (v := ?_) (a' := ?_) #[true, true, true, false, false, false, false, false, false, false, false, false, false, false, false, false, false, false] rfl rfl (any_of HT_.out (by kernel_rfl)) (fun _ _ _ h => h) (Or.inl ⟨by rfl, ?_⟩) ?_ ?_
                   rotate_left
                   ·intro w'
                    go_simp
                    with_reducible rfl
                   rotate_left
                   ·simp only [Act.put, List.setIfInBounds_toArray, List.set_cons_zero, List.set_cons_succ, i64_w, i32_w]
                    rfl
                   refine pure_ (i := 4) (N := some 45) (v := ?_) (a' := ?_) #[true, true, true, false, true, false, false, false, false, false, false, false, false, false, false, false, false, false] rfl rfl (any_of HT_.out (by kernel_rfl)) (fun _ _ _ h => h) (Or.inl ⟨by rfl, ?_⟩) ?_ ?_
                   rotate_left
                   ·intro w'
                    go_simp
                    with_reducible rfl
                   rotate_left
                   ·simp only [Act.put, List.setIfInBounds_toArray, List.set_cons_zero, List.set_cons_succ, i64_w, i32_w]
                    rfl
                   refine pure_ (i := 5) (N := some 46) (v := ?_) (a' := ?_) #[true, true, true, false, true, true, false, false, false, false, false, false, false, false, false, false, false, false] rfl rfl (any_of HT_.out (by kernel_rfl)) (fun _ _ _ h => h) (Or.inl ⟨by rfl, ?_⟩) ?_ ?_
                   rotate_left
                   ·intro w'
                    go_simp
                    with_reducible rfl
                   rotate_left
                   ·simp only [Act.put, List.setIfInBounds_toArray, List.set_cons_zero, List.set_cons_succ, i64_w, i32_w]
                    rfl
                   refine pure_ (i := 6) (N := some 47) (v := ?_) (a' := ?_) #[true, true, true, false, true, true, true, false, false, false, false, false, false, false, false, false, false, false] rfl rfl (any_of HT_.out (by kernel_rfl)) (fun _ _ _ h => h) (Or.inl ⟨by rfl, ?_⟩) ?_ ?_
                   rotate_left
                   ·intro w'
                    go_simp
                    with_reducible rfl
                   rotate_left
                   ·simp only [Act.put, List.setIfInBounds_toArray, List.set_cons_zero, List.set_cons_succ, i64_w, i32_w]
                    rfl
                   refine pure_ (i := 7) (N := some 48) (v := ?_) (a' := ?_) #[true, true, true, false, true, true, true, true, false, false, false, false, false, false, false, false, false, false] rfl rfl (any_of HT_.out (by kernel_rfl)) (fun _ _ _ h => h) (Or.inl ⟨by rfl, ?_⟩) ?_ ?_
                   rotate_left
                   ·intro w'
                    go_simp
                    with_reducible rfl
                   rotate_left
                   ·simp only [Act.put, List.setIfInBounds_toArray, List.set_cons_zero, List.set_cons_succ, i64_w, i32_w]
                    rfl
                   refine pure_ (i := 9) (N := some 50) (v := ?_) (a' := ?_) #[true, true, true, false, true, true, true, true, false, true, false, false, false, false, false, false, false, false] rfl rfl (any_of HT_.out (by kernel_rfl)) (fun _ _ _ h => h) (Or.inl ⟨by rfl, ?_⟩) ?_ ?_
                   rotate_left
                   ·intro w'
                    go_simp
                    with_reducible rfl
                   rotate_left
                   ·simp only [Act.put, List.setIfInBounds_toArray, List.set_cons_zero, List.set_cons_succ, i64_w, i32_w]
                    rfl
                   refine pure_ (i := 10) (N := some 51) (v := ?_) (a' := ?_) #[true, true, true, false, true, true, true, true, false, true, true, false, false, false, false, false, false, false] rfl rfl (any_of HT_.out (by kernel_rfl)) (fun _ _ _ h => h) (Or.inl ⟨by rfl, ?_⟩) ?_ ?_
                   rotate_left
                   ·intro w'
                    go_simp
                    with_reducible rfl
                   rotate_left
                   ·simp only [Act.put, List.setIfInBounds_toArray, List.set_cons_zero, List.set_cons_succ, i64_w, i32_w]
                    rfl
                   refine pure_ (i := 13) (N := some 54) (v := ?_) (a' := ?_) #[true, true, true, false, true, true, true, true, false, true, true, false, false, true, false, false, false, false] rfl rfl (any_of HT_.out (by kernel_rfl)) (fun _ _ _ h => h) (Or.inl ⟨by rfl, ?_⟩) ?_ ?_
                   rotate_left
                   ·intro w'
                    go_simp
                    with_reducible rfl
                   rotate_left
                   ·simp only [Act.put, List.setIfInBounds_toArray, List.set_cons_zero, List.set_cons_succ, i64_w, i32_w]
                    rfl
                   refine pure_ (i := 14) (N := some 55) (v := ?_) (a' := ?_) #[true, true, true, false, true, true, true, true, false, true, true, false, false, true, true, false, false, false] rfl rfl (any_of HT_.out (by kernel_rfl)) (fun _ _ _ h => h) (Or.inl ⟨by rfl, ?_⟩) ?_ ?_
                   rotate_left
                   ·intro w'
                    go_simp
                    with_reducible rfl
                   rotate_left
                   ·simp only [Act.put, List.setIfInBounds_toArray, List.set_cons_zero, List.set_cons_succ, i64_w, i32_w]
                    rfl
                   refine take_ (i := 3) (N := some 44) (v := ?_) (a' := ?_) #[true, true, true, true, true, true, true, true, false, true, true, false, false, true, true, false, false, false] rfl rfl (take_ofW HT_.out HW_.out (by kernel_rfl)) (fun _ _ _ h => h) (Or.inl ⟨by rfl, ?_⟩) hHeld ?_ ?_
                   rotate_left
                   ·rintro w' ⟨s0, s1, s2⟩
                    go_simp
                    with_reducible rfl
                   rotate_left
                   ·simp only [Act.put, List.setIfInBounds_toArray, List.set_cons_zero, List.set_cons_succ, i64_w, i32_w]
                    rfl
                   refine take_ (i := 8) (N := some 49) (v := ?_) (a' := ?_) #[true, true, true, true, true, true, true, true, true, true, true, false, false, true, true, false, false, false] rfl rfl (take_ofW HT_.out HW_.out (by kernel_rfl)) (fun _ _ _ h => h) (Or.inl ⟨by rfl, ?_⟩) hHeld ?_ ?_
                   rotate_left
                   ·rintro w' ⟨s0, s1, s2⟩
                    go_simp
                    with_reducible rfl
                   rotate_left
                   ·simp only [Act.put, List.setIfInBounds_toArray, List.set_cons_zero, List.set_cons_succ, i64_w, i32_w]
                    rfl
                   refine pure_ (i := 11) (N := some 52) (v := ?_) (a' := ?_) #[true, true, true, true, true, true, true, true, true, true, true, true, false, true, true, false, false, false] rfl rfl (any_of HT_.out (by kernel_rfl)) (fun _ _ _ h => h) (Or.inl ⟨by rfl, ?_⟩) ?_ ?_
                   rotate_left
                   ·intro w'
                    go_simp
                    with_reducible rfl
                   rotate_left
                   ·simp only [Act.put, List.setIfInBounds_toArray, List.set_cons_zero, List.set_cons_succ, i64_w, i32_w]
                    rfl
                   refine take_ (i := 12) (N := some 53) (v := ?_) (a' := ?_) #[true, true, true, true, true, true, true, true, true, true, true, true, true, true, true, false, false, false] rfl rfl (take_ofW HT_.out HW_.out (by kernel_rfl)) (fun _ _ _ h => h) (Or.inl ⟨by rfl, ?_⟩) hHeld ?_ ?_
                   rotate_left
                   ·rintro w' ⟨s0, s1, s2⟩
                    go_simp
                    with_reducible rfl
                   rotate_left
                   ·simp only [Act.put, List.setIfInBounds_toArray, List.set_cons_zero, List.set_cons_succ, i64_w, i32_w]
                    rfl
                   refine one_ (i := 15) (N := some 56) #[true, true, true, true, true, true, true, true, true, true, true, true, true, true, true, true, false, false] rfl rfl (one_of HT_.out (by kernel_rfl)) (by decide) (fun K hK => ?_)
                   refine goes_ Try.func18 (by kernel_rfl) rfl #[.int .u8 (rd (rd_L1 x6_3 x28_2) (ji21)), .int .u8 ((x28_2) % 256)] (by rfl) rfl rfl (by (try simp only [List.map_toArray, List.map_cons, List.map_nil]); first | done | (simp only [hji21]; rfl) | rfl | (simp only [tb_wrap8]; done) | (simp only [tb_wrap8]; rfl) | (simp only [List.length_drop, List.length_take]; rfl)) ?_
                   with_reducible refine (gf8_Mul.calls k3 (rd (rd_L1 x6_3 x28_2) (ji21)) ((x28_2) % 256) t130 _ A24.out).mono ?_
                   rintro e w' ⟨rfl, ⟨nd, rfl⟩⟩
                   refine ⟨_, rfl, ?_⟩
                   have p27 : 0 ≤ (x8_3 : Int) := of_decide_eq_true (by first | (with_reducible assumption) | assumption)
                   have q27 : (x8_3 : Int) < (((rd_L1 x6_3 x28_2).length : Int) : Int) := of_decide_eq_true (by first | (with_reducible assumption) | assumption)
                   obtain ⟨go27, co27, eo27, gb27, gl27, cl27, HG27⟩ := Kd.R_form HL127_0.out (by omega)
                   (first | cases eo27 | (injection eo27 with ea_ en_ ec_; (first | subst ea_ | (injection ea_ with ea_; subst ea_)); subst ec_; clear en_))
                   have GB27 := Aside0.mk gb27
                   have GG27 := Aside0.mk HG27
                   clear gb27 gl27 HG27
                   (first | simp only [add_plain] at hx129_0 | skip)
                   obtain ⟨hx27_0, hf27_0⟩ := Kd.R_celln 0 HL127_0.out (x8_3 : Int) p27 q27
                   replace p27 := eq_true p27
                   replace q27 := eq_true q27
                   have hq29 : (x28_2 : Int) < (x6_3.length : Int) := (by have h_ : (x28_2 : Int) < ((x6_3.length : Int) : Int) := of_decide_eq_true (by first | (with_reducible assumption) | assumption); first | exact h_ | (have e_ := (Kd.S_reads' HO_6.out).1; omega) | simpa only [List.length_set, List.length_set] using h_)
                   obtain ⟨oki29, ce29, hcl29, hM29, hcc29, hok29, hbk29⟩ := Kd.S_borrow HO_6.out [] (x28_2 : Int) (of_decide_eq_true (by first | (with_reducible assumption) | assumption)) hq29
                   obtain ⟨ve29_0, rfl, ge29_0⟩ := hM29
                   have hv29 := hcc29 0 _ rfl
                   rw [Nat.add_zero, show ((Kd.slice 5 (Kd.int .u8))).sz = 1 from rfl, Nat.mul_one] at hv29
                   replace hv29 := Option.some.inj (hv29.symm.trans HX127_0.out)
                   subst hv29
                   clear hcc29 hcl29
                   replace ge29_0 := (show Kd.R (Kd.int .u8) 5 _ _ _ _ (rd_L1 x6_3 x28_2) from ge29_0)
                   have HP29 := Kd.R_putg ge29_0 (x8_3 : Int) t130
                   rw [← Ny131.out] at HP29
                   have HS29 := hbk29 HP29.2 (fun k_ e_ => by injection e_ with e_; subst e_; exact ge29_0.1 _ rfl) (x' := y131) (Kd.M_row HP29.1)
                   rw [← Ny133.out] at HS29
                   have HQ29 := Aside0.mk HS29
                   clear HP29 HS29 hbk29 hok29
                   refine hK.out _ _ ⟨hHeld.1, hHeld.2.1, hHeld.2.2⟩ (fun hHeld => ?_)
                   clear hK K
                   refine norm_ (a' := ?_) ?_ ?_
                   rotate_left
                   ·show Act.put _ (some 56) _ = _
                    simp only [Act.put, List.setIfInBounds_toArray, List.set_cons_zero, List.set_cons_succ, i64_w, i32_w]
                    rfl
                   refine pure_ (i := 16) (N := some 57) (v := ?_) (a' := ?_) #[true, true, true, true, true, true, true, true, true, true, true, true, true, true, true, true, true, false] rfl rfl (any_of HT_.out (by kernel_rfl)) (fun _ _ _ h => h) (Or.inl ⟨by rfl, ?_⟩) ?_ ?_
                   rotate_left
                   ·intro w'
                    go_simp
                    with_reducible rfl
                   rotate_left
                   ·simp only [Act.put, List.setIfInBounds_toArray, List.set_cons_zero, List.set_cons_succ, i64_w, i32_w]
                    rfl
                   refine last_ (i := 17) (N := none) #[true, true, true, true, true, true, true, true, true, true, true, true, true, true, true, true, true, true] rfl rfl (one_of HT_.out (by kernel_rfl)) (by decide) (fun K hK => ?_)
                   refine skip_ (w1 := ?_) (by rfl) rfl ?_ ?_
                   rotate_left
                   ·go_simp
                    rfl
                   refine hK.out _ _ ?_
                   clear hK K
                   refine done_ (done_of HT_.out (by kernel_rfl)) ?_
                   try go_wp2
                   (try simp only [← hl6_3])
                   go_roundg k3
                   case measure => have := HJ2.out; have := HK2.out; have := HK3.out; omega
                   case rel => exact ⟨(y133), (wrap64 (x8_3 + 1)), (by first | rfl | (simp; done) | (simp [*]; done)), H', ⟨by have := HJ2.out; have := HK2.out; have := HK3.out; omega⟩, ⟨by (try simp only [hl6_2]); (try simp only [hl6_3]); (with_reducible repeat (first | apply Kd.S_alloc | apply Kd.S_drewN | apply Kd.S_drew)); exact HQ29.out⟩, ⟨by repeat (first | (with_reducible first | exact HB.out | apply below_alloc | apply pw_below_drewN | apply below_drew1 | refine below_set ?_ GB27.out) | exact HB.out)⟩⟩
                  ·rw [if_neg c26] at H
                   exact absurd H (by simp)
                 ·rw [if_neg c25] at H
                  exact absurd H (by simp)
                ·rw [if_neg c23] at H
                 exact absurd H (by simp)
               ·rw [if_neg c22] at H
                exact absurd H (by simp)
              ·rw [if_neg c20] at H
               exact absurd H (by simp)
             ·rw [if_neg c19] at H
              exact absurd H (by simp)
            ·rw [if_neg c18] at H
             have c18b0 : decide (x8_3 < a1) = false := decide_eq_false c18
             (try simp only [hl6_2] at c18b0)
             (try simp only [hl6_3] at c18b0)
             clear c18
             have H' := Aside0.mk H
             clear H
             go_wp2
             (try simp only [← hl6_2, ← hl6_3])
             go_roundg k3
             case measure => have := HJ2.out; have := HK2.out; have := HK3.out; omega
             case rel => exact ⟨(x6_3), (wrap64 (x28_2 + 1)), (by first | rfl | (simp; done) | (simp [*]; done)), H', ⟨by have := HJ2.out; have := HK2.out; have := HK3.out; omega⟩, ⟨by (try simp only [hl6_2]); (try simp only [hl6_3]); (with_reducible repeat (first | apply Kd.S_alloc | apply Kd.S_drewN | apply Kd.S_drew)); exact HO_6.out⟩, ⟨by repeat (first | (with_reducible first | exact HB.out | apply below_alloc | apply pw_below_drewN | apply below_drew1) | exact HB.out)⟩⟩
         ·rw [if_neg c14] at H
          exact absurd H (by simp)
        ·rw [if_neg c13] at H
         exact absurd H (by simp)
       ·rw [if_neg c12] at H
        exact absurd H (by simp)
      ·rw [if_neg c11] at H
       have c11b0 : decide (x28_2 < (t120.length : Int)) = false := decide_eq_false c11
       (try simp only [hl6_2] at c11b0)
       clear c11
       simp only [Option.some.injEq, Prod.mk.injEq] at H
       obtain ⟨rfl, rfl⟩ := H
       go_wp2
       go_ret2
       exact ⟨_, by first | rfl | (simp [errW_none, errW_some] <;> rfl) | (simp [*, errW_none, errW_some] <;> rfl), by (with_reducible repeat (first | apply Kd.S_alloc | apply Kd.S_drewN | apply Kd.S_drew)); exact HO_6.out, by repeat (first | (with_reducible first | exact HB.out | apply below_alloc | apply pw_below_drewN | apply below_drew1) | exact HB.out)⟩

end Go.Proofs.Ytkdoilmfchlpdaa.A
end
section
-- Printed for this claim by mp.py, a program of its prover, through the kit's print. Lean checks it.
namespace Go.Proofs.Ytkdoilmfchlpdaa.A
open Go.RowKit Go.Proofs.YtkdoilmfchlpdaaW.PrintWords Go.Proofs.YtkdoilmfchlpdaaW.PrintLast Go.Proofs.YtkdoilmfchlpdaaW.PrintMore
attribute [local go_sem] max2_int min2_int max_two min_two max_three min_three max_four min_four   -- for this text's walks alone
set_option linter.unusedVariables false
set_option linter.unusedSimpArgs false

/-! ### matrix_Cauchy: function 42 -/
mutual
def matrix_Cauchy.j0 : Nat → Int → Int → Bool → Option ((List (List Int)) × Int)
 | 0, _, _, _ => none
 | k + 1, x0, x1, x29 => if x29 = true then (some (([] : List (List Int)), 100)) else ((gf8_New.f).bind fun _ => ((matrix_blank.f k x0 x1).bind fun t136 => (matrix_Cauchy.l0 k x1 t136 (t136.length : Int) 0)))
def matrix_Cauchy.l0 : Nat → Int → List (List Int) → Int → Int → Option ((List (List Int)) × Int)
 | 0, _, _, _, _ => none
 | k + 1, x1, x7, x35, x36 => if x36 < x35 then (if 0 ≤ x36 then (if x36 < (x7.length : Int) then (matrix_Cauchy.l1 k x1 x7 x36 x35 x36 ((rd_L1 x7 x36).length : Int) 0) else (none)) else (none)) else (some (x7, 0))
def matrix_Cauchy.l1 : Nat → Int → List (List Int) → Int → Int → Int → Int → Int → Option ((List (List Int)) × Int)
 | 0, _, _, _, _, _, _, _ => none
 | k + 1, x1, x7, x8, x35, x36, x43, x44 => if x44 < x43 then (if 0 ≤ x8 then (if x8 < (x7.length : Int) then ((gf8_Tables_Inv.f (Go.bits .xor .u8 ((wrap64 (x1 + x8)) % 256) ((x44) % 256))).bind fun bt141 => (if 0 ≤ x44 then (if x44 < ((rd_L1 x7 x8).length : Int) then (matrix_Cauchy.l1 k x1 (x7.set (x8 : Int).toNat ((rd_L1 x7 x8).set (x44 : Int).toNat bt141.1)) x8 x35 x36 x43 (wrap64 (x44 + 1))) else (none)) else (none))) else (none)) else (none)) else (matrix_Cauchy.l0 k x1 x7 x35 (wrap64 (x36 + 1)))
end
def matrix_Cauchy.f (k : Nat) (a0 : Int) (a1 : Int) : Option ((List (List Int)) × Int) := if a0 < 1 then (matrix_Cauchy.j0 k a0 a1 true) else (if a0 > 256 then (matrix_Cauchy.j0 k a0 a1 true) else (if a1 < 1 then (matrix_Cauchy.j0 k a0 a1 true) else (if a1 > 256 then (matrix_Cauchy.j0 k a0 a1 true) else (matrix_Cauchy.j0 k a0 a1 (decide ((wrap64 (a0 + a1)) > 256))))))
theorem matrix_Cauchy.mono_l : ∀ k, (∀ y0 y1 y2, LeO (matrix_Cauchy.j0 k y0 y1 y2) (matrix_Cauchy.j0 (k + 1) y0 y1 y2)) ∧ (∀ y0 y1 y2 y3, LeO (matrix_Cauchy.l0 k y0 y1 y2 y3) (matrix_Cauchy.l0 (k + 1) y0 y1 y2 y3)) ∧ (∀ y0 y1 y2 y3 y4 y5 y6, LeO (matrix_Cauchy.l1 k y0 y1 y2 y3 y4 y5 y6) (matrix_Cauchy.l1 (k + 1) y0 y1 y2 y3 y4 y5 y6))
 | 0 => ⟨fun _ _ _ r h => by simp [matrix_Cauchy.j0] at h, fun _ _ _ _ r h => by simp [matrix_Cauchy.l0] at h, fun _ _ _ _ _ _ _ r h => by simp [matrix_Cauchy.l1] at h⟩
 | k + 1 => by
  obtain ⟨ih0, ih1, ih2⟩ := matrix_Cauchy.mono_l k
  refine ⟨?_, ?_, ?_⟩
  ·intro y0 y1 y2
   unfold matrix_Cauchy.j0
   repeat' first
   | (with_reducible exact ih0 _ _ _)
   | (with_reducible exact ih1 _ _ _ _)
   | (with_reducible exact ih2 _ _ _ _ _ _ _)
   | (with_reducible exact matrix_blank.mono _ _ _)
   | (with_reducible exact LeO.refl _)
   | (with_reducible exact LeO.none _)
   | (with_reducible refine LeO.ite ?_ ?_)
   | (with_reducible refine LeO.bind ?_ (fun _ => ?_))
   | exact ih0 _ _ _
   | exact ih1 _ _ _ _
   | exact ih2 _ _ _ _ _ _ _
   | exact matrix_blank.mono _ _ _
   | exact LeO.none _
   | refine LeO.ite ?_ ?_
   | refine LeO.bind ?_ (fun _ => ?_)
  ·intro y0 y1 y2 y3
   unfold matrix_Cauchy.l0
   repeat' first
   | (with_reducible exact ih0 _ _ _)
   | (with_reducible exact ih1 _ _ _ _)
   | (with_reducible exact ih2 _ _ _ _ _ _ _)
   | (with_reducible exact matrix_blank.mono _ _ _)
   | (with_reducible exact LeO.refl _)
   | (with_reducible exact LeO.none _)
   | (with_reducible refine LeO.ite ?_ ?_)
   | (with_reducible refine LeO.bind ?_ (fun _ => ?_))
   | exact ih0 _ _ _
   | exact ih1 _ _ _ _
   | exact ih2 _ _ _ _ _ _ _
   | exact matrix_blank.mono _ _ _
   | exact LeO.none _
   | refine LeO.ite ?_ ?_
   | refine LeO.bind ?_ (fun _ => ?_)
  ·intro y0 y1 y2 y3 y4 y5 y6
   unfold matrix_Cauchy.l1
   repeat' first
   | (with_reducible exact ih0 _ _ _)
   | (with_reducible exact ih1 _ _ _ _)
   | (with_reducible exact ih2 _ _ _ _ _ _ _)
   | (with_reducible exact matrix_blank.mono _ _ _)
   | (with_reducible exact LeO.refl _)
   | (with_reducible exact LeO.none _)
   | (with_reducible refine LeO.ite ?_ ?_)
   | (with_reducible refine LeO.bind ?_ (fun _ => ?_))
   | exact ih0 _ _ _
   | exact ih1 _ _ _ _
   | exact ih2 _ _ _ _ _ _ _
   | exact matrix_blank.mono _ _ _
   | exact LeO.none _
   | refine LeO.ite ?_ ?_
   | refine LeO.bind ?_ (fun _ => ?_)
theorem matrix_Cauchy.mono : ∀ a0 a1 k, LeO (matrix_Cauchy.f k a0 a1) (matrix_Cauchy.f (k + 1) a0 a1) := by
 intro a0 a1 k
 obtain ⟨ih0, ih1, ih2⟩ := matrix_Cauchy.mono_l k
 unfold matrix_Cauchy.f
 repeat' first
   | (with_reducible exact ih0 _ _ _)
   | (with_reducible exact ih1 _ _ _ _)
   | (with_reducible exact ih2 _ _ _ _ _ _ _)
   | (with_reducible exact matrix_blank.mono _ _ _)
   | (with_reducible exact LeO.refl _)
   | (with_reducible exact LeO.none _)
   | (with_reducible refine LeO.ite ?_ ?_)
   | (with_reducible refine LeO.bind ?_ (fun _ => ?_))
   | exact ih0 _ _ _
   | exact ih1 _ _ _ _
   | exact ih2 _ _ _ _ _ _ _
   | exact matrix_blank.mono _ _ _
   | exact LeO.none _
   | refine LeO.ite ?_ ?_
   | refine LeO.bind ?_ (fun _ => ?_)
def matrix_Cauchy.T11 : Bool × List (List Nat × List Nat) := (true, [([], []), ([], []), ([0, 1], [0, 1]), ([2], [2]), ([], []), ([], []), ([], []), ([], []), ([6, 7], [6, 7]), ([8], [8]), ([], []), ([10], [10]), ([9, 11], [9, 11]), ([5, 12], [5, 12]), ([13], [13]), ([14], [14]), ([14], [14]), ([3, 4, 0, 1, 2, 3, 4, 5, 6, 7, 8, 9, 10, 11, 12, 13, 14, 15], [3, 4]), ([17, 15, 13, 0, 1, 2, 3, 4, 5, 6, 7, 8, 9, 10, 11, 12, 13, 14, 15], [15, 17])])
def matrix_Cauchy.B11 : List Nat := [0, 0, 3, 7, 0, 0, 0, 0, 192, 448, 0, 1024, 4032, 8160, 16352, 32736, 32736, 65535, 196607]
theorem matrix_Cauchy.tab11 : rtab .any (opsOf Try.f42 11) = matrix_Cauchy.T11 := by kernel_rfl
theorem matrix_Cauchy.bits11 : waitsOk matrix_Cauchy.T11.2 matrix_Cauchy.B11 = true := by kernel_rfl
set_option maxHeartbeats 8000000 in
set_option maxRecDepth 100000 in
theorem matrix_Cauchy.calls (k : Nat) (a0 : Int) (a1 : Int) (r1 : List (List Int)) (r2 : Int) (w : World) (h : matrix_Cauchy.f k a0 a1 = some (r1, r2)) :
  Calls Try.prog 42 #[.int .i64 a0, .int .i64 a1] w fun e w' => ∃ v0_ : Value, e = .returned (.tuple #[v0_, .int .i64 r2]) ∧ Kd.S (Kd.slice 5 (Kd.int .u8)) 22 w' w.heap.size (fun _ => True) v0_ r1 ∧ Below w.heap.size w w' := by
 have HB := Aside0.mk (Below.refl w.heap.size w)
 have H : (if a0 < 1 then (matrix_Cauchy.j0 k a0 a1 true) else (if a0 > 256 then (matrix_Cauchy.j0 k a0 a1 true) else (if a1 < 1 then (matrix_Cauchy.j0 k a0 a1 true) else (if a1 > 256 then (matrix_Cauchy.j0 k a0 a1 true) else (matrix_Cauchy.j0 k a0 a1 (decide ((wrap64 (a0 + a1)) > 256))))))) = some (r1, r2) := h
 clear h
 have HC3 := Aside0.mk H
 clear H
 go_enter Try.func42, Try.ntmps42
 go_upto_region 1 with (fail)
 go_cut [29] (fun v29 wc => ∃ (kq : Nat) (x29_2 : Bool), v29 = .bool x29_2 ∧ Aside0 (matrix_Cauchy.j0 kq a0 a1 x29_2 = some (r1, r2)) ∧ Aside0 (kq ≤ k) ∧ Aside0 (Below w.heap.size w wc))
 case first =>
  have H := HC3.out
  clear HC3
  by_cases c4 : a0 < 1
  ·rw [if_pos c4] at H
   have c4b0 : decide (a0 < 1) = true := decide_eq_true c4
   clear c4
   (first | rw [c4b0] | (simp only [i64_w, i32_w]; rw [c4b0]) | skip)
   have H' := Aside0.mk H
   clear H
   go_wp2
   go_meet
   case rel => exact ⟨_, (true), (by first | rfl | (simp; done) | (simp [*]; done)), H', ⟨by first | omega | exact Nat.le_refl _⟩, ⟨by repeat (first | (with_reducible first | exact HB.out | apply below_alloc | apply pw_below_drewN | apply below_drew1) | exact HB.out)⟩⟩
  ·rw [if_neg c4] at H
   have c4b0 : decide (a0 < 1) = false := decide_eq_false c4
   clear c4
   (first | rw [c4b0] | (simp only [i64_w, i32_w]; rw [c4b0]) | skip)
   by_cases c5 : a0 > 256
   ·rw [if_pos c5] at H
    have c5b0 : decide (256 < a0) = true := decide_eq_true c5
    clear c5
    have H' := Aside0.mk H
    clear H
    go_wp2
    go_meet
    case rel => exact ⟨_, (true), (by first | rfl | (simp; done) | (simp [*]; done)), H', ⟨by first | omega | exact Nat.le_refl _⟩, ⟨by repeat (first | (with_reducible first | exact HB.out | apply below_alloc | apply pw_below_drewN | apply below_drew1) | exact HB.out)⟩⟩
   ·rw [if_neg c5] at H
    have c5b0 : decide (256 < a0) = false := decide_eq_false c5
    clear c5
    by_cases c6 : a1 < 1
    ·rw [if_pos c6] at H
     have c6b0 : decide (a1 < 1) = true := decide_eq_true c6
     clear c6
     have H' := Aside0.mk H
     clear H
     go_wp2
     go_meet
     case rel => exact ⟨_, (true), (by first | rfl | (simp; done) | (simp [*]; done)), H', ⟨by first | omega | exact Nat.le_refl _⟩, ⟨by repeat (first | (with_reducible first | exact HB.out | apply below_alloc | apply pw_below_drewN | apply below_drew1) | exact HB.out)⟩⟩
    ·rw [if_neg c6] at H
     have c6b0 : decide (a1 < 1) = false := decide_eq_false c6
     clear c6
     by_cases c7 : a1 > 256
     ·rw [if_pos c7] at H
      have c7b0 : decide (256 < a1) = true := decide_eq_true c7
      clear c7
      have H' := Aside0.mk H
      clear H
      go_wp2
      go_meet
      case rel => exact ⟨_, (true), (by first | rfl | (simp; done) | (simp [*]; done)), H', ⟨by first | omega | exact Nat.le_refl _⟩, ⟨by repeat (first | (with_reducible first | exact HB.out | apply below_alloc | apply pw_below_drewN | apply below_drew1) | exact HB.out)⟩⟩
     ·rw [if_neg c7] at H
      have c7b0 : decide (256 < a1) = false := decide_eq_false c7
      clear c7
      have H' := Aside0.mk H
      clear H
      go_wp2
      go_meet
      case rel => exact ⟨_, (decide ((wrap64 (a0 + a1)) > 256)), (by first | rfl | (simp; done) | (simp [*]; done)), H', ⟨by first | omega | exact Nat.le_refl _⟩, ⟨by repeat (first | (with_reducible first | exact HB.out | apply below_alloc | apply pw_below_drewN | apply below_drew1) | exact HB.out)⟩⟩
 case rest =>
  clear HC3
  try clear p2
  try clear c4
  try clear c4b0
  try clear c5
  try clear c5b0
  try clear c6
  try clear c6b0
  try clear p6
  try clear c7
  try clear c7b0
  obtain ⟨kq, x29_2, rfl, HA, HJ2, HB⟩ := hcut
  cases kq with
  | zero => exact absurd HA.out (by simp [matrix_Cauchy.j0])
  | succ kj2 =>
   have H := HA.out
   clear HA
   simp only [matrix_Cauchy.j0] at H
   by_cases c8 : x29_2 = true
   ·subst c8
    have H1 : (some (([] : List (List Int)), 100)) = some (r1, r2) := by rw [if_pos rfl] at H; exact H
    clear H
    have H := H1
    clear H1
    simp only [Option.some.injEq, Prod.mk.injEq] at H
    obtain ⟨rfl, rfl⟩ := H
    go_wp2
    go_ret2
    exact ⟨_, by first | rfl | (simp [errW_none, errW_some] <;> rfl) | (simp [*, errW_none, errW_some] <;> rfl), by first | exact Kd.S_nil _ _ _ _ _ | exact Kd.N_nil _ _ _ _ _ | exact Kd.V_nil _ _ _ _ _ | exact Kd.Q_nil _ _ _ _ _ | exact Kd.R_nil _ _ _ _ _, by repeat (first | (with_reducible first | exact HB.out | apply below_alloc | apply pw_below_drewN | apply below_drew1) | exact HB.out)⟩
   ·replace c8 := Bool.eq_false_iff.mpr c8
    subst c8
    have H1 : ((gf8_New.f).bind fun _ => ((matrix_blank.f kj2 a0 a1).bind fun t136 => (matrix_Cauchy.l0 kj2 a1 t136 (t136.length : Int) 0))) = some (r1, r2) := by rw [if_neg (show ¬ (false = true) by decide)] at H; exact H
    clear H
    have H := H1
    clear H1
    replace H := Option.bind_eq_some_iff.mp H
    obtain ⟨_, A90, H⟩ := H
    replace H : ((matrix_blank.f kj2 a0 a1).bind fun t136 => (matrix_Cauchy.l0 kj2 a1 t136 (t136.length : Int) 0)) = some (r1, r2) := H
    have A9 := Aside0.mk A90
    clear A90
    replace H := Option.bind_eq_some_iff.mp H
    obtain ⟨t136, A100, H⟩ := H
    replace H : (matrix_Cauchy.l0 kj2 a1 t136 (t136.length : Int) 0) = some (r1, r2) := H
    have A10 := Aside0.mk A100
    clear A100
    have H' := Aside0.mk H
    clear H
    go_wp2_with (first | ((with_reducible refine gate_callee (f := 64) rfl ?_); refine goesL_ (some 30) rfl rfl Try.func64 (by kernel_rfl) rfl #[] rfl (by (try simp only [List.map_toArray, List.map_cons, List.map_nil]); first | done | rfl | (simp only [tb_wrap8]; done) | (simp only [tb_wrap8]; rfl) | (simp only [List.length_drop, List.length_take]; rfl)) ?_; (with_reducible refine (gf8_New.calls   w _ ?side1 A9.out).mono ?_); (case side1 => repeat (first | (with_reducible first | exact HB.out | apply below_alloc | apply pw_below_drewN | apply below_drew1) | exact HB.out)); rintro e w11 ⟨g135, rfl, hi, hb, hb2⟩; refine ⟨_, rfl, ?_⟩; have n0_ := Aside0.mk (hb); have n1_ := Aside0.mk (hi); clear HB; have HB := n0_; have HI135 := n1_; clear n0_ n1_; (try clear hb); (try clear hb2); (try clear hk); (try clear hi)) | ((with_reducible refine gate_callee (f := 65) rfl ?_); refine goesL_ (some 33) rfl rfl Try.func65 (by kernel_rfl) rfl #[.int .i64 a0, .int .i64 a1] rfl (by (try simp only [List.map_toArray, List.map_cons, List.map_nil]); first | done | rfl | (simp only [tb_wrap8]; done) | (simp only [tb_wrap8]; rfl) | (simp only [List.length_drop, List.length_take]; rfl)) ?_; (with_reducible refine (matrix_blank.calls kj2 a0 a1 t136 _ A10.out).mono ?_); rintro e w12 ⟨v137, rfl, ho0, hb⟩; refine ⟨_, rfl, ?_⟩; have n0_ := Aside0.mk (Kd.S_lower ho0 (below_size (by repeat (first | (with_reducible first | exact HB.out | apply below_alloc | apply pw_below_drewN | apply below_drew1 | refine below_set ?_ (IsS125.ge HI135.out)) | exact HB.out)))); have n1_ := Aside0.mk (IsS125.below (by repeat (first | (with_reducible first | exact HI135.out | apply IsS125.alloc | apply IsS125.drewN | apply IsS125.drew) | exact HI135.out)) hb); have n2_ := Aside0.mk (below_step (by repeat (first | (with_reducible first | exact HB.out | apply below_alloc | apply pw_below_drewN | apply below_drew1 | refine below_set ?_ (IsS125.ge HI135.out)) | exact HB.out)) hb); clear HI135; clear HB; have HO138 := n0_; have HI135 := n1_; have HB := n2_; clear n0_ n1_ n2_; (try clear hb); (try clear hb2); (try clear hk); (try clear hi); (try clear ho0); obtain ⟨Ao13, co13, eo13⟩ := Kd.S_slice HO138.out; subst eo13))
    go_loopg [36] kj2 (fun kq v36 w' => ∃ (x7_2 : List (List Int)) (x36_2 : Int), v36 = .int .i64 x36_2 ∧ Aside0 (matrix_Cauchy.l0 kq a1 x7_2 (t136.length : Int) x36_2 = some (r1, r2)) ∧ Aside0 (kq ≤ kj2) ∧ Aside0 (Kd.S (Kd.slice 5 (Kd.int .u8)) 22 w' w.heap.size (fun _ => True) (.slice Ao13 t136.length co13) x7_2) ∧ Aside0 (IsS125 w w' g135 ) ∧ Aside0 (Below w.heap.size w w'))
    case atStart => exact ⟨(t136), (0), (by first | rfl | (simp; done) | (simp [*]; done)), H', ⟨Nat.le_refl _⟩, ⟨by (with_reducible repeat (first | apply Kd.S_alloc | apply Kd.S_drewN | apply Kd.S_drew)); exact HO138.out⟩, ⟨by repeat (first | (with_reducible first | exact HI135.out | apply IsS125.alloc | apply IsS125.drewN | apply IsS125.drew) | exact HI135.out)⟩, ⟨by repeat (first | (with_reducible first | exact HB.out | apply below_alloc | apply pw_below_drewN | apply below_drew1 | refine below_set ?_ (IsS125.ge HI135.out)) | exact HB.out)⟩⟩
    case round =>
     clear H'
     try clear p2
     try clear c4
     try clear c4b0
     try clear c5
     try clear c5b0
     try clear c6
     try clear c6b0
     try clear p6
     try clear c7
     try clear c7b0
     try clear c8
     try clear p8
     try clear p2
     try clear p6
     obtain ⟨x7_2, x36_2, rfl, HA, HK2, HO_7, HI135, HB⟩ := hrel
     have hl7_2 := (Kd.S_reads' HO_7.out).1
     rw [hl7_2] at HO_7
     (try simp only [hl7_2])
     cases gk with
     | zero => exact absurd HA.out (by simp [matrix_Cauchy.l0])
     | succ k2 =>
      have H := HA.out
      clear HA
      simp only [matrix_Cauchy.l0] at H
      by_cases c14 : x36_2 < (t136.length : Int)
      ·rw [if_pos c14] at H
       have c14b0 : decide (x36_2 < (t136.length : Int)) = true := decide_eq_true c14
       (try simp only [hl7_2] at c14b0)
       clear c14
       by_cases c15 : 0 ≤ x36_2
       ·rw [if_pos c15] at H
        have c15b0 : decide (0 ≤ x36_2) = true := decide_eq_true c15
        (try simp only [hl7_2] at c15b0)
        clear c15
        by_cases c16 : x36_2 < (x7_2.length : Int)
        ·rw [if_pos c16] at H
         have c16b0 : decide (x36_2 < (x7_2.length : Int)) = true := decide_eq_true c16
         (try simp only [hl7_2] at c16b0)
         clear c16
         have H' := Aside0.mk H
         clear H
         have p139 : 0 ≤ (x36_2 : Int) := of_decide_eq_true (by first | (with_reducible assumption) | assumption)
         have q139 : x36_2 < (x7_2.length : Int) := of_decide_eq_true (by first | (with_reducible assumption) | assumption)
         obtain ⟨ad139, A139_0, c139_0, e139, hx139_0, hl139_0, hi139_0⟩ := at_L1 (Kd.S_reads' HO_7.out).2.2 x36_2 p139 q139
         cases e139
         obtain ⟨ce139, hce139, hMe139, hcc139⟩ := Kd.S_get HO_7.out [] x36_2 p139 (by first | exact q139 | exact of_decide_eq_true (by first | (with_reducible assumption) | assumption) | (have e_ := (Kd.S_reads' HO_7.out).1; omega))
         obtain ⟨ve139_0, rfl, ge139_0⟩ := hMe139
         have hv139_0 := hcc139 0 _ rfl
         rw [Nat.add_zero, show ((Kd.slice 5 (Kd.int .u8))).sz = 1 from rfl, Nat.mul_one] at hv139_0
         replace hv139_0 := Option.some.inj (hv139_0.symm.trans hx139_0)
         rw [hv139_0] at ge139_0
         have HL139_0 := Aside0.mk (show Kd.R (Kd.int .u8) 5 _ _ _ _ (rd_L1 x7_2 x36_2) from ge139_0)
         clear hv139_0 ge139_0
         have HX139_0 := Aside0.mk hx139_0
         clear hcc139 hce139
         have HR139_0 := Aside0.mk hi139_0
         have HC139_0 := Aside0.mk hl139_0
         clear hi139_0 hl139_0
         replace p139 := eq_true p139
         replace q139 := eq_true q139
         go_wp2
         go_loopg [44] k2 (fun kq v44 w' => ∃ (x7_3 : List (List Int)) (x44_3 : Int), v44 = .int .i64 x44_3 ∧ Aside0 (matrix_Cauchy.l1 kq a1 x7_3 x36_2 (t136.length : Int) x36_2 ((rd_L1 x7_2 x36_2).length : Int) x44_3 = some (r1, r2)) ∧ Aside0 (kq ≤ k2) ∧ Aside0 (Kd.S (Kd.slice 5 (Kd.int .u8)) 22 w' w.heap.size (fun _ => True) (.slice (some ad139) x7_2.length co13) x7_3) ∧ Aside0 (IsS125 w w' g135 ) ∧ Aside0 (Below w.heap.size w w'))
         case atStart => exact ⟨(x7_2), (0), (by first | rfl | (simp; done) | (simp [*]; done)), H', ⟨Nat.le_refl _⟩, ⟨by (try simp only [hl7_2]); (with_reducible repeat (first | apply Kd.S_alloc | apply Kd.S_drewN | apply Kd.S_drew)); exact HO_7.out⟩, ⟨by repeat (first | (with_reducible first | exact HI135.out | apply IsS125.alloc | apply IsS125.drewN | apply IsS125.drew) | exact HI135.out)⟩, ⟨by repeat (first | (with_reducible first | exact HB.out | apply below_alloc | apply pw_below_drewN | apply below_drew1 | refine below_set ?_ (IsS125.ge HI135.out)) | exact HB.out)⟩⟩
         case round =>
          clear H'
          try clear c1
          try clear p1
          try clear q1
          try clear hx1
          try clear p2
          try clear c4
          try clear c4b0
          try clear c5
          try clear c5b0
          try clear c6
          try clear c6b0
          try clear p6
          try clear c7
          try clear c7b0
          try clear c8
          try clear p8
          try clear c13
          try clear p13
          try clear q13
          try clear hx13
          try clear c14
          try clear c14b0
          try clear c15
          try clear c15b0
          try clear c16
          try clear c16b0
          try clear hx139_0
          try clear p139
          try clear p2
          try clear p6
          try clear p8
          try clear q139
          obtain ⟨x7_3, x44_3, rfl, HA, HK3, HO_7, HI135, HB⟩ := hrel
          have hl7_3 := (Kd.S_reads' HO_7.out).1
          rw [hl7_3] at HO_7
          (try simp only [hl7_3])
          cases gk with
          | zero => exact absurd HA.out (by simp [matrix_Cauchy.l1])
          | succ k3 =>
           have H := HA.out
           clear HA
           simp only [matrix_Cauchy.l1] at H
           by_cases c17 : x44_3 < ((rd_L1 x7_2 x36_2).length : Int)
           ·rw [if_pos c17] at H
            have c17b0 : decide (x44_3 < ((rd_L1 x7_2 x36_2).length : Int)) = true := decide_eq_true c17
            (try simp only [hl7_2] at c17b0)
            (try simp only [hl7_3] at c17b0)
            clear c17
            by_cases c18 : 0 ≤ x36_2
            ·rw [if_pos c18] at H
             have c18b0 : decide (0 ≤ x36_2) = true := decide_eq_true c18
             (try simp only [hl7_2] at c18b0)
             (try simp only [hl7_3] at c18b0)
             clear c18
             by_cases c19 : x36_2 < (x7_3.length : Int)
             ·rw [if_pos c19] at H
              have c19b0 : decide (x36_2 < (x7_3.length : Int)) = true := decide_eq_true c19
              (try simp only [hl7_2] at c19b0)
              (try simp only [hl7_3] at c19b0)
              clear c19
              replace H := Option.bind_eq_some_iff.mp H
              obtain ⟨⟨t141, t142⟩, A200, H⟩ := H
              replace H : (if 0 ≤ x44_3 then (if x44_3 < ((rd_L1 x7_3 x36_2).length : Int) then (matrix_Cauchy.l1 k3 a1 (x7_3.set (x36_2 : Int).toNat ((rd_L1 x7_3 x36_2).set (x44_3 : Int).toNat t141)) x36_2 (t136.length : Int) x36_2 ((rd_L1 x7_2 x36_2).length : Int) (wrap64 (x44_3 + 1))) else (none)) else (none)) = some (r1, r2) := H
              have A20 := Aside0.mk A200
              clear A200
              by_cases c21 : 0 ≤ x44_3
              ·rw [if_pos c21] at H
               have c21b0 : decide (0 ≤ x44_3) = true := decide_eq_true c21
               (try simp only [hl7_2] at c21b0)
               (try simp only [hl7_3] at c21b0)
               clear c21
               by_cases c22 : x44_3 < ((rd_L1 x7_3 x36_2).length : Int)
               ·rw [if_pos c22] at H
                have c22b0 : decide (x44_3 < ((rd_L1 x7_3 x36_2).length : Int)) = true := decide_eq_true c22
                (try simp only [hl7_2] at c22b0)
                (try simp only [hl7_3] at c22b0)
                clear c22
                obtain ⟨y143, hy143⟩ : ∃ y_ : List Int, y_ = ((rd_L1 x7_3 x36_2).set (x44_3 : Int).toNat t141) := ⟨_, rfl⟩
                replace H : (matrix_Cauchy.l1 k3 a1 (x7_3.set (x36_2 : Int).toNat y143) x36_2 (t136.length : Int) x36_2 ((rd_L1 x7_2 x36_2).length : Int) (wrap64 (x44_3 + 1))) = some (r1, r2) := by first | (rw [hy143]; with_reducible exact H) | (have H2_ := (Option.bind_some _ _).symm.trans H; rw [hy143]; with_reducible exact H2_) | (have H2_ := (Option.bind_some _ _).symm.trans H; with_reducible exact H2_) | with_reducible exact H | (rw [hy143]; exact H) | exact H
                have Ny143 := Aside0.mk hy143
                clear hy143
                obtain ⟨y145, hy145⟩ : ∃ y_ : List (List Int), y_ = (x7_3.set (x36_2 : Int).toNat y143) := ⟨_, rfl⟩
                replace H : (matrix_Cauchy.l1 k3 a1 y145 x36_2 (t136.length : Int) x36_2 ((rd_L1 x7_2 x36_2).length : Int) (wrap64 (x44_3 + 1))) = some (r1, r2) := by first | (rw [hy145]; with_reducible exact H) | (have H2_ := (Option.bind_some _ _).symm.trans H; rw [hy145]; with_reducible exact H2_) | (have H2_ := (Option.bind_some _ _).symm.trans H; with_reducible exact H2_) | with_reducible exact H | (rw [hy145]; exact H) | exact H
                have Ny145 := Aside0.mk hy145
                clear hy145
                have H' := Aside0.mk H
                clear H
                try go_wp2
                have n0_ := Aside0.mk (Kd.S_drew HO_7.out)
                have n1_ := Aside0.mk (IsS125.drew HI135.out)
                have n2_ := Aside0.mk (below_drew1 HB.out)
                clear HO_7
                clear HI135
                clear HB
                have HO_7 := n0_
                have HI135 := n1_
                have HB := n2_
                clear n0_ n1_ n2_
                have p140 : 0 ≤ (x36_2 : Int) := of_decide_eq_true (by first | (with_reducible assumption) | assumption)
                have q140 : x36_2 < (x7_3.length : Int) := of_decide_eq_true (by first | (with_reducible assumption) | assumption)
                obtain ⟨ad140, A140_0, c140_0, e140, hx140_0, hl140_0, hi140_0⟩ := at_L1 (Kd.S_reads' HO_7.out).2.2 x36_2 p140 q140
                obtain rfl : ad139 = ad140 := (by injection e140)
                obtain ⟨ce140, hce140, hMe140, hcc140⟩ := Kd.S_get HO_7.out [] x36_2 p140 (by first | exact q140 | exact of_decide_eq_true (by first | (with_reducible assumption) | assumption) | (have e_ := (Kd.S_reads' HO_7.out).1; omega))
                obtain ⟨ve140_0, rfl, ge140_0⟩ := hMe140
                have hv140_0 := hcc140 0 _ rfl
                rw [Nat.add_zero, show ((Kd.slice 5 (Kd.int .u8))).sz = 1 from rfl, Nat.mul_one] at hv140_0
                replace hv140_0 := Option.some.inj (hv140_0.symm.trans hx140_0)
                rw [hv140_0] at ge140_0
                have HL140_0 := Aside0.mk (show Kd.R (Kd.int .u8) 5 _ _ _ _ (rd_L1 x7_3 x36_2) from ge140_0)
                clear hv140_0 ge140_0
                have HX140_0 := Aside0.mk hx140_0
                clear hcc140 hce140
                have HR140_0 := Aside0.mk hi140_0
                have HC140_0 := Aside0.mk hl140_0
                clear hi140_0 hl140_0
                replace p140 := eq_true p140
                replace q140 := eq_true q140
                refine start_ (n := 19) (S := fun w' => w'.cell? (ad139.add (x36_2).toNat) = some (.slice A140_0 (rd_L1 x7_3 x36_2).length c140_0)) (ds := [18]) #[false, false, false, false, false, false, false, false, false, false, false, false, false, false, false, false, false, false, false] (by kernel_rfl) rfl rfl (hx140_0) (fun hHeld => ?_); refine with_tabW matrix_Cauchy.tab11 matrix_Cauchy.bits11 (fun HT_ HW_ => ?_)
                generalize wr.drew = w24 at HO_7 HI135 HB HL140_0 HR140_0 HX140_0 hx140_0 hHeld ⊢
                refine pure_ (i := 0) (N := some 48) (v := ?_) (a' := ?_) #[true, false, false, false, false, false, false, false, false, false, false, false, false, false, false, false, false, false, false] rfl rfl (any_of HT_.out (by kernel_rfl)) (fun _ _ _ h => h) (Or.inl ⟨by rfl, ?_⟩) ?_ ?_
                rotate_left
                ·intro w'
                 go_simp
                 with_reducible rfl
                rotate_left
                ·simp only [Act.put, List.setIfInBounds_toArray, List.set_cons_zero, List.set_cons_succ, i64_w, i32_w]
                 rfl
                refine pure_ (i := 1) (N := some 49) (v := ?_) (a' := ?_) #[true, true, false, false, false, false, false, false, false, false, false, false, false, false, false, false, false, false, false] rfl rfl (any_of HT_.out (by kernel_rfl)) (fun _ _ _ h => h) (Or.inl ⟨by rfl, ?_⟩) ?_ ?_
                rotate_left
                ·intro w'
                 go_simp
                 with_reducible rfl
                rotate_left
                ·simp only [Act.put, List.setIfInBounds_toArray, List.set_cons_zero, List.set_cons_succ, i64_w, i32_w]
                 rfl
                refine pure_ (i := 2) (N := some 50) (v := ?_) (a' := ?_) #[true, true, true, false, false, false, false, false, false, false, false, false, false, false, false, false, false, false, false] rfl rfl (any_of HT_.out (by kernel_rfl)) (fun _ _ _ h => h) (Or.inl ⟨by rfl, ?_⟩) ?_ ?_
                rotate_left
                ·intro w'
                 go_simp
                 with_reducible rfl
                rotate_left
                ·simp only [Act.put, List.setIfInBounds_toArray, List.set_cons_zero, List.set_cons_succ, i64_w, i32_w]
                 rfl
                refine pure_ (i := 4) (N := some 52) (v := ?_) (a' := ?_) #[true, true, true, false, true, false, false, false, false, false, false, false, false, false, false, false, false, false, false] rfl rfl (any_of HT_.out (by kernel_rfl)) (fun _ _ _ h => h) (Or.inl ⟨by rfl, ?_⟩) ?_ ?_
                rotate_left
                ·intro w'
                 go_simp
                 with_reducible rfl
                rotate_left
                ·simp only [Act.put, List.setIfInBounds_toArray, List.set_cons_zero, List.set_cons_succ, i64_w, i32_w]
                 rfl
                refine pure_ (i := 5) (N := some 53) (v := ?_) (a' := ?_) #[true, true, true, false, true, true, false, false, false, false, false, false, false, false, false, false, false, false, false] rfl rfl (any_of HT_.out (by kernel_rfl)) (fun _ _ _ h => h) (Or.inl ⟨by rfl, ?_⟩) ?_ ?_
                rotate_left
                ·intro w'
                 go_simp
                 with_reducible rfl
                rotate_left
                ·simp only [Act.put, List.setIfInBounds_toArray, List.set_cons_zero, List.set_cons_succ, i64_w, i32_w]
                 rfl
                refine pure_ (i := 6) (N := some 54) (v := ?_) (a' := ?_) #[true, true, true, false, true, true, true, false, false, false, false, false, false, false, false, false, false, false, false] rfl rfl (any_of HT_.out (by kernel_rfl)) (fun _ _ _ h => h) (Or.inl ⟨by rfl, ?_⟩) ?_ ?_
                rotate_left
                ·intro w'
                 go_simp
                 with_reducible rfl
                rotate_left
                ·simp only [Act.put, List.setIfInBounds_toArray, List.set_cons_zero, List.set_cons_succ, i64_w, i32_w]
                 rfl
                refine pure_ (i := 7) (N := some 55) (v := ?_) (a' := ?_) #[true, true, true, false, true, true, true, true, false, false, false, false, false, false, false, false, false, false, false] rfl rfl (any_of HT_.out (by kernel_rfl)) (fun _ _ _ h => h) (Or.inl ⟨by rfl, ?_⟩) ?_ ?_
                rotate_left
                ·intro w'
                 go_simp
                 with_reducible rfl
                rotate_left
                ·simp only [Act.put, List.setIfInBounds_toArray, List.set_cons_zero, List.set_cons_succ, i64_w, i32_w]
                 rfl
                refine pure_ (i := 8) (N := some 56) (v := ?_) (a' := ?_) #[true, true, true, false, true, true, true, true, true, false, false, false, false, false, false, false, false, false, false] rfl rfl (any_of HT_.out (by kernel_rfl)) (fun _ _ _ h => h) (Or.inl ⟨by rfl, ?_⟩) ?_ ?_
                rotate_left
                ·intro w'
                 go_simp
                 with_reducible rfl
                rotate_left
                ·simp only [Act.put, List.setIfInBounds_toArray, List.set_cons_zero, List.set_cons_succ, i64_w, i32_w]
                 rfl
                refine pure_ (i := 9) (N := some 57) (v := ?_) (a' := ?_) #[true, true, true, false, true, true, true, true, true, true, false, false, false, false, false, false, false, false, false] rfl rfl (any_of HT_.out (by kernel_rfl)) (fun _ _ _ h => h) (Or.inl ⟨by rfl, ?_⟩) ?_ ?_
                rotate_left
                ·intro w'
                 go_simp
                 with_reducible rfl
                rotate_left
                ·simp only [Act.put, List.setIfInBounds_toArray, List.set_cons_zero, List.set_cons_succ, i64_w, i32_w]
                 rfl
                refine pure_ (i := 10) (N := some 58) (v := ?_) (a' := ?_) #[true, true, true, false, true, true, true, true, true, true, true, false, false, false, false, false, false, false, false] rfl rfl (any_of HT_.out (by kernel_rfl)) (fun _ _ _ h => h) (Or.inl ⟨by rfl, ?_⟩) ?_ ?_
                rotate_left
                ·intro w'
                 go_simp
                 with_reducible rfl
                rotate_left
                ·simp only [Act.put, List.setIfInBounds_toArray, List.set_cons_zero, List.set_cons_succ, i64_w, i32_w]
                 rfl
                refine pure_ (i := 11) (N := some 59) (v := ?_) (a' := ?_) #[true, true, true, false, true, true, true, true, true, true, true, true, false, false, false, false, false, false, false] rfl rfl (any_of HT_.out (by kernel_rfl)) (fun _ _ _ h => h) (Or.inl ⟨by rfl, ?_⟩) ?_ ?_
                rotate_left
                ·intro w'
                 go_simp
                 with_reducible rfl
                rotate_left
                ·simp only [Act.put, List.setIfInBounds_toArray, List.set_cons_zero, List.set_cons_succ, i64_w, i32_w]
                 rfl
                refine pure_ (i := 12) (N := some 60) (v := ?_) (a' := ?_) #[true, true, true, false, true, true, true, true, true, true, true, true, true, false, false, false, false, false, false] rfl rfl (any_of HT_.out (by kernel_rfl)) (fun _ _ _ h => h) (Or.inl ⟨by rfl, ?_⟩) ?_ ?_
                rotate_left
                ·intro w'
                 go_simp
                 with_reducible rfl
                rotate_left
                ·simp only [Act.put, List.setIfInBounds_toArray, List.set_cons_zero, List.set_cons_succ, i64_w, i32_w]
                 rfl
                refine take_ (i := 3) (N := some 51) (v := ?_) (a' := ?_) #[true, true, true, true, true, true, true, true, true, true, true, true, true, false, false, false, false, false, false] rfl rfl (take_ofW HT_.out HW_.out (by kernel_rfl)) (fun _ _ _ h => h) (Or.inl ⟨by rfl, ?_⟩) hHeld ?_ ?_
                rotate_left
                ·intro w' s0
                 go_simp
                 with_reducible rfl
                rotate_left
                ·simp only [Act.put, List.setIfInBounds_toArray, List.set_cons_zero, List.set_cons_succ, i64_w, i32_w]
                 rfl
                refine one_ (i := 13) (N := some 61) #[true, true, true, true, true, true, true, true, true, true, true, true, true, true, false, false, false, false, false] rfl rfl (one_of HT_.out (by kernel_rfl)) (by decide) (fun K hK => ?_)
                refine goes_ Try.func66 (by kernel_rfl) rfl #[.pointer (some ⟨g135, 0, none⟩), .int .u8 (Go.bits .xor .u8 ((wrap64 (a1 + x36_2)) % 256) ((x44_3) % 256))] (by rfl) rfl rfl (by (try simp only [List.map_toArray, List.map_cons, List.map_nil]); first | done | rfl | (simp only [tb_wrap8]; done) | (simp only [tb_wrap8]; rfl) | (simp only [List.length_drop, List.length_take]; rfl)) ?_
                with_reducible refine (gf8_Tables_Inv.calls g135 (Go.bits .xor .u8 ((wrap64 (a1 + x36_2)) % 256) ((x44_3) % 256)) t141 t142 _ ?side1 A20.out).mono ?_
                (case side1 => repeat (first | (with_reducible first | exact HI135.out | apply IsS125.alloc | apply IsS125.drewN | apply IsS125.drew) | exact HI135.out))
                rintro e w' ⟨rfl, ⟨nd, rfl⟩⟩
                refine ⟨_, rfl, ?_⟩
                have p23 : 0 ≤ (x44_3 : Int) := of_decide_eq_true (by first | (with_reducible assumption) | assumption)
                have q23 : (x44_3 : Int) < (((rd_L1 x7_3 x36_2).length : Int) : Int) := of_decide_eq_true (by first | (with_reducible assumption) | assumption)
                obtain ⟨go23, co23, eo23, gb23, gl23, cl23, HG23⟩ := Kd.R_form HL140_0.out (by omega)
                (first | cases eo23 | (injection eo23 with ea_ en_ ec_; (first | subst ea_ | (injection ea_ with ea_; subst ea_)); subst ec_; clear en_))
                have GB23 := Aside0.mk gb23
                have GG23 := Aside0.mk HG23
                clear gb23 gl23 HG23
                obtain ⟨hx23_0, hf23_0⟩ := Kd.R_celln 0 HL140_0.out (x44_3 : Int) p23 q23
                replace p23 := eq_true p23
                replace q23 := eq_true q23
                have hq25 : (x36_2 : Int) < (x7_3.length : Int) := (by have h_ : (x36_2 : Int) < ((x7_3.length : Int) : Int) := of_decide_eq_true (by first | (with_reducible assumption) | assumption); first | exact h_ | (have e_ := (Kd.S_reads' HO_7.out).1; omega) | simpa only [List.length_set, List.length_set] using h_)
                obtain ⟨oki25, ce25, hcl25, hM25, hcc25, hok25, hbk25⟩ := Kd.S_borrow HO_7.out [] (x36_2 : Int) (of_decide_eq_true (by first | (with_reducible assumption) | assumption)) hq25
                obtain ⟨ve25_0, rfl, ge25_0⟩ := hM25
                have hv25 := hcc25 0 _ rfl
                rw [Nat.add_zero, show ((Kd.slice 5 (Kd.int .u8))).sz = 1 from rfl, Nat.mul_one] at hv25
                replace hv25 := Option.some.inj (hv25.symm.trans HX140_0.out)
                subst hv25
                clear hcc25 hcl25
                replace ge25_0 := (show Kd.R (Kd.int .u8) 5 _ _ _ _ (rd_L1 x7_3 x36_2) from ge25_0)
                have HP25 := Kd.R_putg ge25_0 (x44_3 : Int) t141
                have HN135_go23 := Aside0.mk (show g135 ≠ go23 from by have h_ := IsS125.own_ne HI135.out HL140_0.out (by decide); intro e_; exact h_ (by rw [e_]; rfl))
                rw [← Ny143.out] at HP25
                have HS25 := hbk25 HP25.2 (fun k_ e_ => by injection e_ with e_; subst e_; exact ge25_0.1 _ rfl) (x' := y143) (Kd.M_row HP25.1)
                rw [← Ny145.out] at HS25
                have HQ25 := Aside0.mk HS25
                clear HP25 HS25 hbk25 hok25
                refine hK.out _ _ (hHeld) (fun hHeld => ?_)
                clear hK K
                refine norm_ (a' := ?_) ?_ ?_
                rotate_left
                ·show Act.put _ (some 61) _ = _
                 simp only [Act.put, List.setIfInBounds_toArray, List.set_cons_zero, List.set_cons_succ, i64_w, i32_w]
                 rfl
                refine pure_ (i := 14) (N := some 47) (v := ?_) (a' := ?_) #[true, true, true, true, true, true, true, true, true, true, true, true, true, true, true, false, false, false, false] rfl rfl (any_of HT_.out (by kernel_rfl)) (fun _ _ _ h => h) (Or.inl ⟨by rfl, ?_⟩) ?_ ?_
                rotate_left
                ·intro w'
                 go_simp
                 with_reducible rfl
                rotate_left
                ·simp only [Act.put, List.setIfInBounds_toArray, List.set_cons_zero, List.set_cons_succ, i64_w, i32_w]
                 rfl
                refine pure_ (i := 15) (N := some 62) (v := ?_) (a' := ?_) #[true, true, true, true, true, true, true, true, true, true, true, true, true, true, true, true, false, false, false] rfl rfl (any_of HT_.out (by kernel_rfl)) (fun _ _ _ h => h) (Or.inl ⟨by rfl, ?_⟩) ?_ ?_
                rotate_left
                ·intro w'
                 go_simp
                 with_reducible rfl
                rotate_left
                ·simp only [Act.put, List.setIfInBounds_toArray, List.set_cons_zero, List.set_cons_succ, i64_w, i32_w]
                 rfl
                refine pure_ (i := 16) (N := some 63) (v := ?_) (a' := ?_) #[true, true, true, true, true, true, true, true, true, true, true, true, true, true, true, true, true, false, false] rfl rfl (any_of HT_.out (by kernel_rfl)) (fun _ _ _ h => h) (Or.inl ⟨by rfl, ?_⟩) ?_ ?_
                rotate_left
                ·intro w'
                 go_simp
                 with_reducible rfl
                rotate_left
                ·simp only [Act.put, List.setIfInBounds_toArray, List.set_cons_zero, List.set_cons_succ, i64_w, i32_w]
                 rfl
                refine pure_ (i := 17) (N := some 64) (v := ?_) (a' := ?_) #[true, true, true, true, true, true, true, true, true, true, true, true, true, true, true, true, true, true, false] rfl rfl (any_of HT_.out (by kernel_rfl)) (fun _ _ _ h => h) (Or.inl ⟨by rfl, ?_⟩) ?_ ?_
                rotate_left
                ·intro w'
                 go_simp
                 with_reducible rfl
                rotate_left
                ·simp only [Act.put, List.setIfInBounds_toArray, List.set_cons_zero, List.set_cons_succ, i64_w, i32_w]
                 rfl
                refine last_ (i := 18) (N := none) #[true, true, true, true, true, true, true, true, true, true, true, true, true, true, true, true, true, true, true] rfl rfl (one_of HT_.out (by kernel_rfl)) (by decide) (fun K hK => ?_)
                refine skip_ (w1 := ?_) (by rfl) rfl ?_ ?_
                rotate_left
                ·go_simp
                 rfl
                refine hK.out _ _ ?_
                clear hK K
                refine done_ (done_of HT_.out (by kernel_rfl)) ?_
                try go_wp2
                (try simp only [← hl7_3])
                go_roundg k3
                case measure => have := HJ2.out; have := HK2.out; have := HK3.out; omega
                case rel => exact ⟨(y145), (wrap64 (x44_3 + 1)), (by first | rfl | (simp; done) | (simp [*]; done)), H', ⟨by have := HJ2.out; have := HK2.out; have := HK3.out; omega⟩, ⟨by (try simp only [hl7_2]); (try simp only [hl7_3]); (with_reducible repeat (first | apply Kd.S_alloc | apply Kd.S_drewN | apply Kd.S_drew)); exact HQ25.out⟩, ⟨by repeat (first | (with_reducible first | exact HI135.out | apply IsS125.alloc | apply IsS125.drewN | apply IsS125.drew | refine IsS125.far ?_ HN135_go23.out _) | exact HI135.out)⟩, ⟨by repeat (first | (with_reducible first | exact HB.out | apply below_alloc | apply pw_below_drewN | apply below_drew1 | refine below_set ?_ GB23.out | refine below_set ?_ (IsS125.ge HI135.out)) | exact HB.out)⟩⟩
               ·rw [if_neg c22] at H
                exact absurd H (by simp)
              ·rw [if_neg c21] at H
               exact absurd H (by simp)
             ·rw [if_neg c19] at H
              exact absurd H (by simp)
            ·rw [if_neg c18] at H
             exact absurd H (by simp)
           ·rw [if_neg c17] at H
            have c17b0 : decide (x44_3 < ((rd_L1 x7_2 x36_2).length : Int)) = false := decide_eq_false c17
            (try simp only [hl7_2] at c17b0)
            (try simp only [hl7_3] at c17b0)
            clear c17
            have H' := Aside0.mk H
            clear H
            go_wp2
            (try simp only [← hl7_2, ← hl7_3])
            go_roundg k3
            case measure => have := HJ2.out; have := HK2.out; have := HK3.out; omega
            case rel => exact ⟨(x7_3), (wrap64 (x36_2 + 1)), (by first | rfl | (simp; done) | (simp [*]; done)), H', ⟨by have := HJ2.out; have := HK2.out; have := HK3.out; omega⟩, ⟨by (try simp only [hl7_2]); (try simp only [hl7_3]); (with_reducible repeat (first | apply Kd.S_alloc | apply Kd.S_drewN | apply Kd.S_drew)); exact HO_7.out⟩, ⟨by repeat (first | (with_reducible first | exact HI135.out | apply IsS125.alloc | apply IsS125.drewN | apply IsS125.drew) | exact HI135.out)⟩, ⟨by repeat (first | (with_reducible first | exact HB.out | apply below_alloc | apply pw_below_drewN | apply below_drew1 | refine below_set ?_ (IsS125.ge HI135.out)) | exact HB.out)⟩⟩
        ·rw [if_neg c16] at H
         exact absurd H (by simp)
       ·rw [if_neg c15] at H
        exact absurd H (by simp)
      ·rw [if_neg c14] at H
       have c14b0 : decide (x36_2 < (t136.length : Int)) = false := decide_eq_false c14
       (try simp only [hl7_2] at c14b0)
       clear c14
       simp only [Option.some.injEq, Prod.mk.injEq] at H
       obtain ⟨rfl, rfl⟩ := H
       go_wp2
       go_ret2
       exact ⟨_, by first | rfl | (simp [errW_none, errW_some] <;> rfl) | (simp [*, errW_none, errW_some] <;> rfl), by (with_reducible repeat (first | apply Kd.S_alloc | apply Kd.S_drewN | apply Kd.S_drew)); exact HO_7.out, by repeat (first | (with_reducible first | exact HB.out | apply below_alloc | apply pw_below_drewN | apply below_drew1 | refine below_set ?_ (IsS125.ge HI135.out)) | exact HB.out)⟩

end Go.Proofs.Ytkdoilmfchlpdaa.A
end
