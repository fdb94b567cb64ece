import Derived.Test.YtklkcenffajfeaaH2
import Derived.Test.YtklkcenffajfeaaRingFns
import Derived.Test.YtklkcenffajfeaaAx1
import Derived.Laws.MakeOwn
import Derived.Laws.OwnMore
namespace Go.Proofs.Ytklkcenffajfeaa.A
open Go.RowKit Go.Deep Go.Proofs.YtklkcenffajfeaaW.PrintWords Go.Proofs.YtklkcenffajfeaaW.PrintLast Go.Proofs.YtklkcenffajfeaaW.PrintMore WH
set_option linter.unusedVariables false
set_option linter.unusedSimpArgs false
theorem info33' : (Try.prog.info? 33).map (fun i => (i.zero, i.size, i.bytes)) = some (some (.int .u16 0), 1, 2) := by kernel_rfl
/-- Which lengths are good. -/
def pwB (n : Nat) : Bool := decide (n = 2 ^ Nat.log2 n) && decide (n ≤ 65536)
theorem and_pred {n : Nat} (h : 1 ≤ n) : n &&& (n - 1) = 0 ↔ n = 2 ^ Nat.log2 n := by
  constructor
  · intro h0
    have h1 : 2 ^ Nat.log2 n ≤ n := Nat.log2_self_le (by omega)
    have h2 : n < 2 ^ (Nat.log2 n + 1) := Nat.lt_log2_self
    rcases Nat.lt_or_ge (2 ^ Nat.log2 n) n with h3 | h3
    · exfalso
      have t1 : n.testBit (Nat.log2 n) = true := by
        obtain ⟨m, hm⟩ : ∃ m, n = 2 ^ Nat.log2 n + m := ⟨n - 2 ^ Nat.log2 n, by omega⟩
        have hm2 : m < 2 ^ Nat.log2 n := by rw [Nat.pow_succ] at h2; omega
        generalize Nat.log2 n = k at *
        rw [hm]; exact testBit_pow_add hm2
      have t2 : (n - 1).testBit (Nat.log2 n) = true := by
        obtain ⟨m, hm⟩ : ∃ m, n - 1 = 2 ^ Nat.log2 n + m := ⟨n - 1 - 2 ^ Nat.log2 n, by omega⟩
        have hm2 : m < 2 ^ Nat.log2 n := by rw [Nat.pow_succ] at h2; omega
        generalize Nat.log2 n = k at *
        rw [hm]; exact testBit_pow_add hm2
      have : (n &&& (n - 1)).testBit (Nat.log2 n) = true := by rw [Nat.testBit_and, t1, t2]; rfl
      rw [h0] at this
      simp at this
    · omega
  · intro h0
    generalize Nat.log2 n = k at h0
    subst h0
    apply Nat.eq_of_testBit_eq
    intro i
    rw [Nat.testBit_and, Nat.zero_testBit, Nat.testBit_two_pow_sub_one, Nat.testBit_two_pow]
    by_cases e : k = i
    · subst e; simp
    · simp [e]
theorem good_is (n : Nat) : walsh_good.f (n : Int) = some (pwB n) := by
  unfold walsh_good.f pwB
  by_cases h1 : (n : Int) ≥ 1
  · rw [if_pos h1]
    by_cases h2 : (n : Int) ≤ 65536
    · rw [if_pos h2]
      have e1 : wrap64 ((n : Int) - 1) = ((n - 1 : Nat) : Int) := by rw [R.wrap64_id (by omega) (by omega)]; omega
      rw [e1, R.bits_andi (by omega) (by omega)]
      have e2 : ((((n &&& (n - 1) : Nat)) : Int) == 0) = decide (n = 2 ^ Nat.log2 n) := by
        rw [Bool.eq_iff_iff, beq_iff_eq, decide_eq_true_eq, ← and_pred (by omega)]
        omega
      rw [e2, decide_eq_true (show n ≤ 65536 by omega), Bool.and_true]
    · rw [if_neg h2, decide_eq_false (show ¬ n ≤ 65536 by omega), Bool.and_false]
  · rw [if_neg h1]
    have : n = 0 := by omega
    subst this
    rfl
/-- Words as they can be handed in. -/
def okW (l : List Int) : Bool := l.all fun x => decide (0 ≤ x) && decide (x ≤ 65535)
theorem okW_iff {l : List Int} : okW l = true ↔ ∀ j, j < l.length → 0 ≤ l.getD j 0 ∧ l.getD j 0 ≤ 65535 := by
  unfold okW
  simp only [List.all_eq_true, Bool.and_eq_true, decide_eq_true_eq]
  constructor
  · intro h j hj
    rw [List.getD_eq_getElem?_getD, List.getElem?_eq_getElem hj]
    exact h _ (List.getElem_mem hj)
  · intro h x hx
    obtain ⟨j, hj, rfl⟩ := List.getElem_of_mem hx
    have := h j hj
    rwa [List.getD_eq_getElem?_getD, List.getElem?_eq_getElem hj] at this
/-- The list's values. -/
abbrev vl (l : List Int) : Nat → Int := fun j => l.getD j 0
/-- Words that came in, at an address. -/
theorem words_get {W : World} {A : Option Addr} {l : List Int} (h : (Kd.int .u16).C W A l.length l) (hp : 0 < l.length) : ∃ ad, A = some ad ∧ ∀ j, j < l.length → W.cell? (ad.add j) = some (.int .u16 (l.getD j 0)) := by
  obtain ⟨_, _, h3⟩ := h
  obtain ⟨ad, e, hc⟩ := h3 hp
  refine ⟨ad, e, fun j hj => ?_⟩
  obtain ⟨c, hl, hK, hcell⟩ := hc j _ (List.getElem?_eq_getElem hj)
  have hK' : c = [.int .u16 l[j]] := hK
  subst hK'
  have := hcell 0 _ rfl
  rw [List.getD_eq_getElem?_getD, List.getElem?_eq_getElem hj]
  rw [show j * (Kd.int .u16).sz + 0 = j from by simp [Kd.int, Kd.scalar]] at this
  exact this
/-- A new row of noughts. -/
theorem wd_made (W : World) {base n : Nat} (hb : base ≤ W.heap.size) (hn : n ≤ maxLen) : Wd (W.alloc (.cells (madeCells #[.int .u16 0] n) 33)) base (fun _ => True) W.heap.size n n (fun _ => 0) := by
  unfold Wd
  refine Kd.R_of_own ⟨by rw [lst_len, encs_length, lst_len, Nat.mul_one], .inr ⟨W.heap.size, n, madeCells #[.int .u16 0] n, by rw [lst_len], hb, ?_, by rw [lst_len]; exact Nat.le_refl _, hn, ?_, ?_⟩⟩ (fun _ _ => trivial)
  · unfold World.alloc; simp
  · rw [size_madeCells, Nat.mul_one]
  · rw [toList_madeCells_one, lst_len, Nat.mul_one, List.take_of_length_le (by simp)]
    unfold encs lst
    rw [List.map_map]
    apply List.ext_getElem
    · simp
    · intro i h1 h2; simp
set_option maxHeartbeats 4000000 in
set_option maxRecDepth 100000 in
theorem reduced_wd (A0 : Option Addr) (c0 : Nat) (l0 : List Int) (w : World) (hr0 : Kd.C (Kd.int .u16) w A0 l0.length l0) (hp : 0 < l0.length) (hn : l0.length ≤ 65536) (hw : okW l0 = true) :
    Calls Try.prog 37 #[.slice A0 l0.length c0] w fun e w' => ∃ g, e = .returned (.slice (some ⟨g, 0, none⟩) l0.length l0.length) ∧ Wd w' w.heap.size (fun _ => True) g l0.length l0.length (fun j => md (l0.getD j 0)) ∧ w.heap.size ≤ g ∧ Below w.heap.size w w' := by
  obtain ⟨ad, rfl, hl⟩ := words_get hr0 hp
  have hv := okW_iff.1 hw
  have L := Aside0.mk hl
  have HV := Aside0.mk hv
  have hmk := run_make_row' (P := Try.prog) 22 33 (.int .u16 0) 2 Try.underlying22 info33' rfl .i64 .i64 l0.length (by omega) (by omega)
  have R0 := Aside0.mk (wd_made w (base := w.heap.size) (n := l0.length) (Nat.le_refl _) (by unfold maxLen; omega))
  have B0 := Aside0.mk ((Below.refl w.heap.size w).alloc (Nat.le_refl _) (.cells (madeCells #[.int .u16 0] l0.length) 33))
  obtain ⟨g, hg⟩ : ∃ g, g = w.heap.size := ⟨_, rfl⟩
  have HG := Aside0.mk hg
  clear hl hv hr0 hw hg
  go_enter Try.func37, Try.ntmps37
  go_wp2
  clear hmk
  generalize w.alloc (.cells (madeCells #[.int .u16 0] l0.length) 33) = W1 at R0 B0 ⊢
  rw [← HG.out]
  go_loopg [4, 5, 11] l0.length (fun kq v4 v5 v11 wr => ∃ i : Nat, kq = l0.length - i ∧ i ≤ l0.length ∧ v11 = .int .i64 (i : Int) ∧ Wd wr w.heap.size (fun _ => True) g l0.length l0.length (fun x => if x < i then md (l0.getD x 0) else 0) ∧ Below w.heap.size w wr)
  case atStart => exact ⟨0, rfl, Nat.zero_le _, rfl, (show Wd _ _ _ g _ _ _ from by rw [HG.out]; exact R0.out).congr (fun x _ => by rw [if_neg (by omega)]), B0.out⟩
  case round =>
    obtain ⟨i, rfl, hi, rfl, hR, hB⟩ := hrel
    have R2 := Aside0.mk hR
    have B2 := Aside0.mk hB
    clear hR hB R0 B0
    by_cases hlt : i < l0.length
    · obtain ⟨c1, f1⟩ := R2.out.at_ hlt
      rw [if_neg (Nat.lt_irrefl i)] at c1
      have c2 := pw_cell_below B2.out (L.out i hlt)
      obtain ⟨x0, x1⟩ := HV.out i hlt
      obtain ⟨y, hy⟩ : ∃ y, y = l0.getD i 0 := ⟨_, rfl⟩
      rw [← hy] at c2 x0 x1
      have HY := Aside0.mk hy
      clear hy
      go_wp2
      have R3 := (R2.out.put i (y % 65535)).congr (G := fun x => if x < i + 1 then md (l0.getD x 0) else 0) (fun x hx => by
        show (if x = i then y % 65535 else if x < i then md (l0.getD x 0) else 0) = _
        by_cases e : x = i
        · rw [if_pos e, e, if_pos (by omega), HY.out]; rfl
        · rw [if_neg e]
          have : x < i ↔ x < i + 1 := by omega
          simp only [this])
      go_roundg (l0.length - (i + 1))
      case measure => omega
      case rel => exact ⟨i + 1, rfl, by omega, by go_num, R3, B2.out.setCell (p := ⟨g, i, none⟩) (by rw [HG.out]; exact Nat.le_refl _) _⟩
    · go_wp2
      go_ret
      exact ⟨g, rfl, R2.out.congr (fun x hx => by rw [if_pos (by omega)]), by rw [HG.out]; exact Nat.le_refl _, B2.out⟩
/-- What is told of a matrix, a list: its end. -/
theorem pw_log {n : Nat} (h : pwB n = true) : n = 2 ^ Nat.log2 n ∧ n ≤ 65536 := by
  unfold pwB at h; simpa using h
theorem gdL_md {n : Nat} (h : pwB n = true) (F : Nat → Int) : gdL (lst n (fun j => md (F j))) = true := by
  obtain ⟨h1, h2⟩ := pw_log h
  rw [gdL_iff, lst_len]
  exact ⟨h1, h2, fun j hj => by rw [lst_getD hj]; exact ⟨md_ge _, md_lt _⟩⟩
theorem tr_lst {n : Nat} (h : pwB n = true) (F : Nat → Int) (i : Nat) : md (tr (Nat.log2 n) (fun j => (lst n (fun j => md (F j))).getD j 0) i) = md (tr (Nat.log2 n) F i) :=
  md_tr (fun j hj => by
    rw [lst_getD (by rw [(pw_log h).1]; exact hj), md_md]) i
theorem turn_md {n : Nat} (h : pwB n = true) (F : Nat → Int) : walsh_turn.f (lst n (fun j => md (F j))) = some (lst n (fun i => md (tr (Nat.log2 n) F i))) := by
  unfold walsh_turn.f
  rw [if_pos (gdL_md h F), lst_len]
  exact congrArg some (lst_congr (fun i _ => tr_lst h F i))
theorem back_md {n : Nat} (h : pwB n = true) (F : Nat → Int) : walsh_back.f (lst n (fun j => md (F j))) = some (lst n (fun i => md (2 ^ (16 - Nat.log2 n) * tr (Nat.log2 n) F i))) := by
  unfold walsh_back.f
  rw [if_pos (gdL_md h F), lst_len]
  exact congrArg some (lst_congr (fun i _ => by rw [← md_mul_left, tr_lst h F i, md_mul_left]))
/-- Transform. -/
def walsh_Transform.f (l : List Int) : Option (List Int × Int) := if okW l = true then (if pwB l.length = true then some (lst l.length (fun i => md (tr (Nat.log2 l.length) (vl l) i)), 0) else some ([], 130)) else none
/-- Inverse. -/
def walsh_Inverse.f (l : List Int) : Option (List Int × Int) := if okW l = true then (if pwB l.length = true then some (lst l.length (fun i => md (2 ^ (16 - Nat.log2 l.length) * tr (Nat.log2 l.length) (vl l) i)), 0) else some ([], 130)) else none
set_option maxHeartbeats 4000000 in
set_option maxRecDepth 100000 in
theorem walsh_Transform.calls (A0 : Option Addr) (c0 : Nat) (l0 : List Int) (r1 : List Int) (r2 : Int) (w : World) (hr0 : Kd.C (Kd.int .u16) w A0 l0.length l0) (hc0 : l0.length ≤ c0) (h : walsh_Transform.f l0 = some (r1, r2)) :
    Calls Try.prog 13 #[.slice A0 l0.length c0] w fun e w' => ∃ v0_ : Value, e = .returned (.tuple #[v0_, .int .i64 r2]) ∧ Kd.R (Kd.int .u16) 33 w' w.heap.size (fun _ => True) v0_ r1 ∧ Below w.heap.size w w' := by
  unfold walsh_Transform.f at h
  by_cases hw : okW l0 = true
  · rw [if_pos hw] at h
    have HW := Aside0.mk hw
    have HR := Aside0.mk hr0
    by_cases hp : pwB l0.length = true
    · rw [if_pos hp] at h
      have hg := good_is l0.length
      rw [hp] at hg
      have HGD := Aside0.mk hg
      have HP := Aside0.mk hp
      have h' := Option.some.inj h
      simp only [Prod.mk.injEq] at h'
      obtain ⟨rfl, rfl⟩ := h'
      have hpos : 0 < l0.length := by rw [(pw_log hp).1]; exact Nat.two_pow_pos _
      have hn := (pw_log hp).2
      clear h hw hr0 hp hg
      go_enter Try.func13, Try.ntmps13
      go_wp2_with (go_at_call 36; refine (walsh_good.calls _ _ _ HGD.out).mono ?_; rintro e w1 ⟨rfl, hD⟩; obtain ⟨nd, rfl⟩ := hD.out)
      refine (reduced_wd A0 c0 l0 _ (Kd.C_drewN HR.out nd) hpos hn HW.out).mono ?_
      rintro e w2 ⟨g, rfl, hR, hge, hB⟩
      have B2 := Aside0.mk ((pw_below_drewN (Below.refl w.heap.size w) nd).trans hB)
      have hcall := walsh_turn.calls (fun _ => True) (.slice (some ⟨g, 0, none⟩) l0.length l0.length) _ _ w w2 B2.out hR (turn_md HP.out (vl l0))
      have HC := Aside0.mk hcall
      clear hR hge hB hcall
      go_wp2_with fail
      refine HC.out.mono ?_
      rintro e w3 ⟨rfl, hR3, hB3, -⟩
      have R3 := Aside0.mk hR3
      have B3 := Aside0.mk hB3
      clear hR3 hB3 HC
      go_wp2
      go_ret2
      exact ⟨_, rfl, Kd.R_mono R3.out (fun _ _ => trivial), B3.out⟩
    · rw [if_neg hp] at h
      have hg := good_is l0.length
      rw [show pwB l0.length = false by simpa using hp] at hg
      have HGD := Aside0.mk hg
      obtain ⟨rfl, rfl⟩ : r1 = [] ∧ r2 = 130 := by
        have := Option.some.inj h
        simp only [Prod.mk.injEq] at this
        exact ⟨this.1.symm, this.2.symm⟩
      clear h hw hr0 hp hg
      go_enter Try.func13, Try.ntmps13
      go_wp2_with (go_at_call 36; refine (walsh_good.calls _ _ _ HGD.out).mono ?_; rintro e w1 ⟨rfl, hD⟩; obtain ⟨nd, rfl⟩ := hD.out)
      go_ret2
      exact ⟨_, rfl, Kd.R_nil _ _ _ _ _, pw_below_drewN (Below.refl w.heap.size w) nd⟩
  · rw [if_neg hw] at h; exact absurd h (by simp)
end Go.Proofs.Ytklkcenffajfeaa.A
