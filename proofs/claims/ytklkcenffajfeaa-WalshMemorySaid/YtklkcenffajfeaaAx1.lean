-- Printed for this claim by mp.py, a program of its prover, through the kit's print. Lean checks it.
import Derived.Test.YtklkcenffajfeaaAx0
namespace Go.Proofs.Ytklkcenffajfeaa.A
open Go.RowKit Go.Proofs.YtklkcenffajfeaaW.PrintWords Go.Proofs.YtklkcenffajfeaaW.PrintLast Go.Proofs.YtklkcenffajfeaaW.PrintMore
attribute [local go_sem] max2_int min2_int max_two min_two max_three min_three max_four min_four   -- for this text's walks alone
set_option linter.unusedVariables false
set_option linter.unusedSimpArgs false

/-! ### walsh_good: function 36 -/
def walsh_good.f (a0 : Int) : Option (Bool) := if a0 ≥ 1 then (if a0 ≤ 65536 then (some ((Go.bits .and .i64 a0 (wrap64 (a0 - 1))) == 0)) else (some false)) else (some false)
set_option maxHeartbeats 8000000 in
set_option maxRecDepth 100000 in
theorem walsh_good.calls (a0 : Int) (r : Bool) (w : World) (h : walsh_good.f a0 = some r) :
    Calls Try.prog 36 #[.int .i64 a0] w fun e w' => e = .returned (.bool r) ∧ Drawn0 w w' := by
  have H : (if a0 ≥ 1 then (if a0 ≤ 65536 then (some ((Go.bits .and .i64 a0 (wrap64 (a0 - 1))) == 0)) else (some false)) else (some false)) = some r := h
  clear h
  by_cases c2 : a0 ≥ 1
  · rw [if_pos c2] at H
    have c2b0 : decide (1 ≤ a0) = true := decide_eq_true c2
    clear c2
    by_cases c3 : a0 ≤ 65536
    · rw [if_pos c3] at H
      have c3b0 : decide (a0 ≤ 65536) = true := decide_eq_true c3
      clear c3
      obtain rfl := Option.some.inj H
      go_enter Try.func36, Try.ntmps36
      go_wp2
      go_ret
      exact ⟨by first | rfl | (simp; done) | (simp [*]; done), by repeat (first | exact Drawn0.refl _ | apply Drawn0.step)⟩
    · rw [if_neg c3] at H
      have c3b0 : decide (a0 ≤ 65536) = false := decide_eq_false c3
      clear c3
      obtain rfl := Option.some.inj H
      go_enter Try.func36, Try.ntmps36
      go_wp2
      go_ret
      exact ⟨by first | rfl | (simp; done) | (simp [*]; done), by repeat (first | exact Drawn0.refl _ | apply Drawn0.step)⟩
  · rw [if_neg c2] at H
    have c2b0 : decide (1 ≤ a0) = false := decide_eq_false c2
    clear c2
    obtain rfl := Option.some.inj H
    go_enter Try.func36, Try.ntmps36
    go_wp2
    go_ret
    exact ⟨by first | rfl | (simp; done) | (simp [*]; done), by repeat (first | exact Drawn0.refl _ | apply Drawn0.step)⟩

/-- THE ONE PURE STATEMENT of walsh_good: yours. -/
def walsh_good.Pure : Prop := ∀ (a0 : Int), (Lit.int .i64 a0).wf = true → walsh_good.f a0 = some true
theorem walsh_good.walk (P : walsh_good.Pure) (a0 : Int) (w : World) (w0 : (Lit.int .i64 a0).wf = true) :
    Calls Try.prog 36 #[.int .i64 a0] w fun e w' => e = .returned (.bool true) ∧ Below w.heap.size w w' := by
  have h := P a0 w0
  refine (walsh_good.calls a0 true w h).mono ?_
  rintro e w' ⟨rfl, hd⟩
  exact ⟨rfl, hd.below⟩

/-! ### walsh_reduced: function 37 -/
def walsh_reduced.l0 : Nat → List Int → List Int → Int → Int → Option (List Int)
  | 0, _, _, _, _ => none
  | k + 1, x3, x9, x10, x11 => if x11 < x10 then (if 0 ≤ x11 then (if x11 < (x9.length : Int) then (if x11 < (x3.length : Int) then (walsh_reduced.l0 k (x3.set (x11 : Int).toNat (Int.tmod (rd x9 x11) 65535)) x9 x10 (wrap64 (x11 + 1))) else (none)) else (none)) else (none)) else (some x3)
def walsh_reduced.f (k : Nat) (l0 : List Int) : Option (List Int) := if 0 ≤ (l0.length : Int) then (if ((l0.length : Int) : Int).toNat ≤ 140737488355328 then (walsh_reduced.l0 k (List.replicate ((l0.length : Int) : Int).toNat 0) l0 (l0.length : Int) 0) else (none)) else (none)
theorem walsh_reduced.mono_l : ∀ k, (∀ y0 y1 y2 y3, LeO (walsh_reduced.l0 k y0 y1 y2 y3) (walsh_reduced.l0 (k + 1) y0 y1 y2 y3))
  | 0 => fun _ _ _ _ r h => by simp [walsh_reduced.l0] at h
  | k + 1 => by
    have ih0 := walsh_reduced.mono_l k
    · intro y0 y1 y2 y3
      unfold walsh_reduced.l0
      repeat' first
      | (with_reducible exact ih0 _ _ _ _)
      | (with_reducible exact LeO.refl _)
      | (with_reducible exact LeO.none _)
      | (with_reducible refine LeO.ite ?_ ?_)
      | (with_reducible refine LeO.bind ?_ (fun _ => ?_))
      | exact ih0 _ _ _ _
      | exact LeO.none _
      | refine LeO.ite ?_ ?_
      | refine LeO.bind ?_ (fun _ => ?_)
theorem walsh_reduced.mono : ∀ a0 k, LeO (walsh_reduced.f k a0) (walsh_reduced.f (k + 1) a0) := by
  intro a0 k
  have ih0 := walsh_reduced.mono_l k
  unfold walsh_reduced.f
  repeat' first
      | (with_reducible exact ih0 _ _ _ _)
      | (with_reducible exact LeO.refl _)
      | (with_reducible exact LeO.none _)
      | (with_reducible refine LeO.ite ?_ ?_)
      | (with_reducible refine LeO.bind ?_ (fun _ => ?_))
      | exact ih0 _ _ _ _
      | exact LeO.none _
      | refine LeO.ite ?_ ?_
      | refine LeO.bind ?_ (fun _ => ?_)
set_option maxHeartbeats 8000000 in
set_option maxRecDepth 100000 in
theorem walsh_reduced.calls (k : Nat) (A0 : Option Addr) (c0 : Nat) (l0 : List Int) (r : List Int) (w : World) (hr0 : Kd.C (Kd.int .u16) w A0 l0.length l0) (hc0 : l0.length ≤ c0) (h : walsh_reduced.f k l0 = some r) :
    Calls Try.prog 37 #[.slice A0 l0.length c0] w fun e w' => ∃ v0_ : Value, e = .returned (v0_) ∧ Kd.R (Kd.int .u16) 33 w' w.heap.size (fun _ => True) v0_ r ∧ Below w.heap.size w w' := by
  have HR0 := Aside0.mk hr0
  have HC0 := Aside0.mk hc0
  clear hr0 hc0
  have HB := Aside0.mk (Below.refl w.heap.size w)
  have H : (if 0 ≤ (l0.length : Int) then (if ((l0.length : Int) : Int).toNat ≤ 140737488355328 then (walsh_reduced.l0 k (List.replicate ((l0.length : Int) : Int).toNat 0) l0 (l0.length : Int) 0) else (none)) else (none)) = some r := h
  clear h
  by_cases c2 : 0 ≤ (l0.length : Int)
  · rw [if_pos c2] at H
    have c2b0 := eq_true c2
    have c2b1 : decide (0 ≤ (l0.length : Int)) = true := decide_eq_true c2
    clear c2
    by_cases c3 : ((l0.length : Int) : Int).toNat ≤ 140737488355328
    · rw [if_pos c3] at H
      have c3b0 := eq_true c3
      have c3b1 : decide (((l0.length : Int) : Int).toNat ≤ 140737488355328) = true := decide_eq_true c3
      clear c3
      obtain ⟨y101, hy101⟩ : ∃ y_ : List Int, y_ = (List.replicate ((l0.length : Int) : Int).toNat 0) := ⟨_, rfl⟩
      replace H : (walsh_reduced.l0 k y101 l0 (l0.length : Int) 0) = some r := by first | (rw [hy101]; with_reducible exact H) | (have H2_ := (Option.bind_some _ _).symm.trans H; rw [hy101]; with_reducible exact H2_) | (have H2_ := (Option.bind_some _ _).symm.trans H; with_reducible exact H2_) | with_reducible exact H | (rw [hy101]; exact H) | exact H
      have Ny101 := Aside0.mk hy101
      clear hy101
      have H' := Aside0.mk H
      clear H
      go_enter Try.func37, Try.ntmps37
      go_wp2_with (first | ((with_reducible refine gate_dst (N := 8) rfl ?_); refine Kd.R_make (Kd.int .u16) _ 33 rfl (N := 8) rfl 22 _ _ rfl (l0.length : Int) rfl rfl Try.underlying22 (.int .u16 0) 2 info33 rfl (by decide) (by omega) 0 (ok := fun _ => True) (okp := fun _ => True) rfl (fun _ hk => hk) trivial (of_decide_eq_true (by first | (with_reducible assumption) | assumption)) (Nat.le_trans (Nat.mul_le_mul_right _ (of_decide_eq_true (by first | (with_reducible assumption) | assumption) : (l0.length : Int).toNat ≤ 140737488355328)) (by omega)) (Below.refl _ _) (Nat.le_refl _) ?_; intro v102 w4 ho5 hb hg_ hnew_; clear hg_ hnew_; (first | rw [← Ny101.out] at ho5 | (simp only [Int.reduceToNat] at ho5; rw [← Ny101.out] at ho5)); have n0_ := Aside0.mk (Kd.R_lower ho5 (below_size (by repeat (first | (with_reducible first | exact HB.out | apply below_alloc | apply pw_below_drewN | apply below_drew1) | exact HB.out)))); have n1_ := Aside0.mk (below_step (by repeat (first | (with_reducible first | exact HB.out | apply below_alloc | apply pw_below_drewN | apply below_drew1) | exact HB.out)) hb); clear HB; have HO103 := n0_; have HB := n1_; clear n0_ n1_; clear hb ho5))
      go_loopg [11] k (fun kq v11 w' => ∃ (x3_1 : List Int) (x11_1 : Int), v11 = .int .i64 x11_1 ∧ Aside0 (walsh_reduced.l0 kq x3_1 l0 (l0.length : Int) x11_1 = some r) ∧ Aside0 (kq ≤ k) ∧ Aside0 (Kd.R (Kd.int .u16) 33 w' w.heap.size (fun _ => True) v102 x3_1) ∧ Aside0 (Below w.heap.size w w'))
      case atStart => exact ⟨(y101), (0), (by first | rfl | (simp; done) | (simp [*]; done)), H', ⟨Nat.le_refl _⟩, ⟨by (with_reducible repeat (first | apply Kd.R_alloc | apply Kd.R_drewN | apply Kd.R_drew)); exact HO103.out⟩, ⟨by repeat (first | (with_reducible first | exact HB.out | apply below_alloc | apply pw_below_drewN | apply below_drew1) | exact HB.out)⟩⟩
      case round =>
        clear H'
        try clear c2
        try clear c2b0
        try clear c2b1
        try clear p2
        try clear c3
        try clear c3b0
        try clear c3b1
        obtain ⟨x3_1, x11_1, rfl, HA, HK1, HO_3, HB⟩ := hrel
        cases gk with
        | zero => exact absurd HA.out (by simp [walsh_reduced.l0])
        | succ k1 =>
          have H := HA.out
          clear HA
          simp only [walsh_reduced.l0] at H
          by_cases c6 : x11_1 < (l0.length : Int)
          · rw [if_pos c6] at H
            have c6b0 : decide (x11_1 < (l0.length : Int)) = true := decide_eq_true c6
            clear c6
            by_cases c7 : 0 ≤ x11_1
            · rw [if_pos c7] at H
              have c7b0 : decide (0 ≤ x11_1) = true := decide_eq_true c7
              clear c7
              by_cases c8 : x11_1 < (l0.length : Int)
              · rw [if_pos c8] at H
                have c8b0 : decide (x11_1 < (l0.length : Int)) = true := decide_eq_true c8
                clear c8
                by_cases c9 : x11_1 < (x3_1.length : Int)
                · rw [if_pos c9] at H
                  have c9b0 : decide (x11_1 < (x3_1.length : Int)) = true := decide_eq_true c9
                  clear c9
                  obtain ⟨y105, hy105⟩ : ∃ y_ : List Int, y_ = (x3_1.set (x11_1 : Int).toNat (Int.tmod (rd l0 x11_1) 65535)) := ⟨_, rfl⟩
                  replace H : (walsh_reduced.l0 k1 y105 l0 (l0.length : Int) (wrap64 (x11_1 + 1))) = some r := by first | (rw [hy105]; with_reducible exact H) | (have H2_ := (Option.bind_some _ _).symm.trans H; rw [hy105]; with_reducible exact H2_) | (have H2_ := (Option.bind_some _ _).symm.trans H; with_reducible exact H2_) | with_reducible exact H | (rw [hy105]; exact H) | exact H
                  have Ny105 := Aside0.mk hy105
                  clear hy105
                  have H' := Aside0.mk H
                  clear H
                  have p104 : 0 ≤ (x11_1 : Int) := of_decide_eq_true (by first | (with_reducible assumption) | assumption)
                  have q104 : x11_1 < (l0.length : Int) := of_decide_eq_true (by first | (with_reducible assumption) | assumption)
                  obtain ⟨ad104, e104, hx104_0⟩ := Kd.at_int HR0.out x11_1 p104 q104
                  cases e104
                  replace hx104_0 := (HB.out.cell (World.block_lt_of_cell? w _ hx104_0)).trans hx104_0
                  replace p104 := eq_true p104
                  replace q104 := eq_true q104
                  have p10 : 0 ≤ (x11_1 : Int) := of_decide_eq_true (by first | (with_reducible assumption) | assumption)
                  have q10 : (x11_1 : Int) < ((x3_1.length : Int) : Int) := of_decide_eq_true (by first | (with_reducible assumption) | assumption)
                  obtain ⟨go10, co10, eo10, gb10, gl10, cl10, HG10⟩ := Kd.R_form HO_3.out (by omega)
                  (first | cases eo10 | (injection eo10 with ea_ en_ ec_; (first | subst ea_ | (injection ea_ with ea_; subst ea_)); subst ec_; clear en_))
                  have GB10 := Aside0.mk gb10
                  have GG10 := Aside0.mk HG10
                  clear gb10 gl10 HG10
                  obtain ⟨hx10_0, hf10_0⟩ := Kd.R_celln 0 HO_3.out (x11_1 : Int) p10 q10
                  replace p10 := eq_true p10
                  replace q10 := eq_true q10
                  have HP11 := Kd.R_putg HO_3.out (x11_1 : Int) (Int.tmod (rd l0 x11_1) 65535)
                  go_wp2_with (first | ((with_reducible refine gate_store (t := 33) (p := 20) rfl ?_); refine store_event (t := 33) (p := 20) (v := ?vo_w12) (w1 := (wr.setCell ⟨go10, (x11_1 : Int).toNat, none⟩ (.int .u16 (Int.tmod (rd l0 x11_1) 65535)))) ?hg ?ho ?hn ?hr ?_; (case ho => rfl); (case hg => rfl); (case hn => rfl); (case hr => first | (go_simp; done) | (go_simp; rfl)); intro w12 hw; have hg : wr.grownBy w12 (some go10) := (by rw [hw]; exact HP11.2); have hp_ : Kd.R (Kd.int .u16) 33 w12 w.heap.size (fun _ => True) (.slice (some ⟨go10, 0, none⟩) x3_1.length co10) y105 := (by rw [hw, Ny105.out]; exact HP11.1); clear HP11; have n0_ := Aside0.mk (hp_); have n1_ := Aside0.mk ((by rw [hw]; exact below_set (HB.out) GB10.out : Below w.heap.size w w12)); clear HO_3; clear HB; have HO_3 := n0_; have HB := n1_; clear n0_ n1_; clear hg hw hp_))
                  go_roundg k1
                  case measure => have := HK1.out; omega
                  case rel => exact ⟨(y105), (wrap64 (x11_1 + 1)), (by first | rfl | (simp; done) | (simp [*]; done)), H', ⟨by have := HK1.out; omega⟩, ⟨by (with_reducible repeat (first | apply Kd.R_alloc | apply Kd.R_drewN | apply Kd.R_drew)); exact HO_3.out⟩, ⟨by repeat (first | (with_reducible first | exact HB.out | apply below_alloc | apply pw_below_drewN | apply below_drew1) | exact HB.out)⟩⟩
                · rw [if_neg c9] at H
                  exact absurd H (by simp)
              · rw [if_neg c8] at H
                exact absurd H (by simp)
            · rw [if_neg c7] at H
              exact absurd H (by simp)
          · rw [if_neg c6] at H
            have c6b0 : decide (x11_1 < (l0.length : Int)) = false := decide_eq_false c6
            clear c6
            obtain rfl := Option.some.inj H
            go_wp2
            go_ret
            exact ⟨_, by first | rfl | (simp [errW_none, errW_some] <;> rfl) | (simp [*, errW_none, errW_some] <;> rfl), by (with_reducible repeat (first | apply Kd.R_alloc | apply Kd.R_drewN | apply Kd.R_drew)); exact HO_3.out, by repeat (first | (with_reducible first | exact HB.out | apply below_alloc | apply pw_below_drewN | apply below_drew1) | exact HB.out)⟩
    · rw [if_neg c3] at H
      exact absurd H (by simp)
  · rw [if_neg c2] at H
    exact absurd H (by simp)

-- NOT PRINTED: function 38 (walsh_turn)

/-! ### gf16_New: function 31 -/
/-- The n-th power of x. -/
def tab16.pw : Nat → Nat
  | 0 => 1
  | n + 1 => if 65535 < 2 * tab16.pw n then (2 * tab16.pw n) ^^^ 65581 else 2 * tab16.pw n
def tab16.lg : Nat → Nat → Option Nat
  | 0, _ => none
  | n + 1, a => if tab16.pw n = a then some n else tab16.lg n a
theorem tab16.pw_lt : ∀ n, tab16.pw n < 65536
  | 0 => by decide
  | n + 1 => by
    have := tab16.pw_lt n
    unfold tab16.pw
    split
    · rename_i h
      have h17 : 2 * tab16.pw n < 2 ^ 17 := by omega
      have hx : (2 * tab16.pw n) ^^^ 65581 < 2 ^ 17 := Nat.xor_lt_two_pow h17 (by decide)
      have hb : ((2 * tab16.pw n) ^^^ 65581).testBit 16 = false := by
        rw [Nat.testBit_xor]
        have : (2 * tab16.pw n).testBit 16 = true := by
          rw [Nat.testBit_eq_decide_div_mod_eq, decide_eq_true_eq]; omega
        rw [this]; decide
      rw [Nat.testBit_eq_decide_div_mod_eq, decide_eq_false_iff_not] at hb
      omega
    · omega
def tab16.Is (n : Nat) (cur : Array Value) : Prop := cur.size = 131071 ∧ (∀ j, j < n → cur[j]? = some (.int .u16 (tab16.pw j : Nat))) ∧ ∀ a m, tab16.lg n a = some m → cur[65535 + a]? = some (.int .u16 (m : Nat))
theorem tab16.lg_lt : ∀ n a m, tab16.lg n a = some m → m < n
  | 0, _, _, h => by cases h
  | n + 1, a, m, h => by
    unfold tab16.lg at h
    split at h
    · obtain rfl := Option.some.inj h; omega
    · have := tab16.lg_lt n a m h; omega
/-- A state of type 69 at block g of W; what its slices lead to came in by w0. -/
def IsS69 (w0 W : World) (g : Nat)  : Prop := ∃ cur_ : Array Value, W.heap[g]? = some (.cells cur_ 69 (0, 0)) ∧ tab16.Is 65535 cur_
theorem IsS69.grown {w0 W : World} {g : Nat}  {W1 : World} {row : Option Nat} (h : IsS69 w0 W g ) (hw : W.grownBy W1 row) (hne : some g ≠ row) : IsS69 w0 W1 g  := by
  obtain ⟨cur_, hb, hg⟩ := h
  exact ⟨cur_, blk_grown hb hw hne, hg⟩
theorem IsS69.own_neN {w0 W : World} {g : Nat}  {α : Type} {d : Kd α} {e : Nat} {base : Nat} {ok : Nat → Prop} {v : Value} {xs : List α} (h : IsS69 w0 W g ) (ho : Kd.N d e W base ok v xs) (ht : e ≠ 69) : some g ≠ v.ownBlock := by
  obtain ⟨cur_, hb, hg⟩ := h
  exact Kd.N_ne ho hb ht
theorem IsS69.fresh {w0 W : World} {g : Nat}  (h : IsS69 w0 W g ) : ∀ k, W.heap.size ≤ k → k ≠ g := by
  obtain ⟨cur_, hb, hg⟩ := h
  exact Kd.freshB hb
theorem IsS69.kept {w0 W : World} {g : Nat}  {W1 : World} {S : Nat → Prop} (h : IsS69 w0 W g ) (hk : Kept W W1 S) (hne : ¬ S g) : IsS69 w0 W1 g  := by
  obtain ⟨cur_, hb, hg⟩ := h
  exact ⟨cur_, blk_kept hb hk hne, hg⟩
theorem IsS69.below {w0 W : World} {g : Nat}  {W1 : World} (h : IsS69 w0 W g ) (hw : Below W.heap.size W W1) : IsS69 w0 W1 g  := h.grown (grown_of_below hw none) (by simp)
theorem IsS69.alloc {w0 W : World} {g : Nat}  (h : IsS69 w0 W g ) (o : Obj) : IsS69 w0 (W.alloc o) g  := h.below (below_alloc (Below.refl _ _) o)
theorem IsS69.drewN {w0 W : World} {g : Nat}  (h : IsS69 w0 W g ) (m : Nat) : IsS69 w0 (W.drewN m) g  := h
theorem IsS69.drew {w0 W : World} {g : Nat}  (h : IsS69 w0 W g ) : IsS69 w0 W.drew g  := h
theorem IsS69.at_ {w0 W : World} {g : Nat}  {w' : World} {m : Nat} (hq : W.drewN m = w') (h : IsS69 w0 W g ) : IsS69 w0 w' g  := by subst hq; exact IsS69.drewN h m
theorem IsS69.apart {w0 W : World} {g : Nat}  {α : Type} {d : Kd α} {e : Nat} {base : Nat} {ok : Nat → Prop} {v : Value} {xs : List α} (h : IsS69 w0 W g ) (ho : d.R e W base ok v xs) (ht : ∀ q, q ∈ e :: d.E → q ≠ 69) : d.R e W base (fun k => ok k ∧ k ≠ g) v xs := by
  obtain ⟨cur_, hb, hg⟩ := h
  exact Kd.R_types ho hb ht
theorem IsS69.own_ne {w0 W : World} {g : Nat}  {α : Type} {d : Kd α} {e : Nat} {base : Nat} {ok : Nat → Prop} {v : Value} {xs : List α} (h : IsS69 w0 W g ) (ho : d.R e W base ok v xs) (ht : e ≠ 69) : some g ≠ v.ownBlock := by
  obtain ⟨cur_, hb, hg⟩ := h
  exact Kd.R_ne ho hb ht
theorem IsS69.apartQ {w0 W : World} {g : Nat}  {α : Type} {d : Kd α} {e : Nat} {base : Nat} {ok : Nat → Prop} {v : Value} {xs : List α} (h : IsS69 w0 W g ) (ho : d.Q e W base ok v xs) (ht : ∀ q, q ∈ e :: d.E → q ≠ 69) : d.Q e W base (fun k => ok k ∧ k ≠ g) v xs := by
  obtain ⟨cur_, hb, hg⟩ := h
  exact Kd.Q_types ho hb ht
theorem IsS69.own_neQ {w0 W : World} {g : Nat}  {α : Type} {d : Kd α} {e : Nat} {base : Nat} {ok : Nat → Prop} {v : Value} {xs : List α} (h : IsS69 w0 W g ) (ho : d.Q e W base ok v xs) (ht : e ≠ 69) : some g ≠ v.ownBlock := by
  obtain ⟨cur_, hb, hg⟩ := h
  exact Kd.Q_ne ho hb ht
theorem IsS69.apartS {w0 W : World} {g : Nat}  {α : Type} {d : Kd α} {e : Nat} {base : Nat} {ok : Nat → Prop} {v : Value} {xs : List α} (h : IsS69 w0 W g ) (ho : d.S e W base ok v xs) (ht : ∀ q, q ∈ e :: d.E → q ≠ 69) : d.S e W base (fun k => ok k ∧ k ≠ g) v xs := by
  obtain ⟨cur_, hb, hg⟩ := h
  exact Kd.S_types ho hb ht
theorem IsS69.own_neS {w0 W : World} {g : Nat}  {α : Type} {d : Kd α} {e : Nat} {base : Nat} {ok : Nat → Prop} {v : Value} {xs : List α} (h : IsS69 w0 W g ) (ho : d.S e W base ok v xs) (ht : e ≠ 69) : some g ≠ v.ownBlock := by
  obtain ⟨cur_, hb, hg⟩ := h
  exact Kd.S_ne ho hb ht
theorem IsS69.lt {w0 W : World} {g : Nat}  (h : IsS69 w0 W g ) : g < W.heap.size := by
  obtain ⟨cur_, hb, hg⟩ := h
  exact blk_lt hb
theorem IsS69.ne_blk {w0 W : World} {g : Nat}  {a : Nat} {cs : Array Value} {t : TypeId} {fr : Nat × Nat} (h : IsS69 w0 W g ) (hb2 : W.heap[a]? = some (.cells cs t fr)) (ht : t ≠ 69) : g ≠ a := by
  obtain ⟨cur_, hb, hg⟩ := h
  rintro rfl
  rw [hb] at hb2
  injection hb2 with hb2
  injection hb2 with _ ht2
  exact ht ht2.symm
theorem IsS69.far {w0 W : World} {g : Nat}  {p : Addr} (h : IsS69 w0 W g ) (hne : g ≠ p.block) (u : Value) : IsS69 w0 (W.setCell p u) g  := by
  obtain ⟨cur_, hb, hg⟩ := h
  exact ⟨cur_, blk_far hb hne u, hg⟩
theorem IsS69.exp {w0 w : World} {g : Nat} (h : IsS69 w0 w g) {j : Nat} (hj : j < 65535) : w.cell? ⟨g, j, none⟩ = some (.int .u16 (tab16.pw j : Nat)) := by
  obtain ⟨cur, hh, _, he, _⟩ := h
  exact (cell_of_row w g j cur 69 (0, 0) hh).trans (he j hj)
theorem IsS69.log {w0 w : World} {g : Nat} (h : IsS69 w0 w g) {a m : Nat} (hm : tab16.lg 65535 a = some m) : w.cell? ⟨g, 65535 + a, none⟩ = some (.int .u16 (m : Nat)) := by
  obtain ⟨cur, hh, _, _, hl⟩ := h
  exact (cell_of_row w g (65535 + a) cur 69 (0, 0) hh).trans (hl a m hm)
theorem wpList_build {P : Program} {ops : Array Oper} {rest : List Oper} {o : Oper} {a : Act} {Q : Exit → Act → World → Prop} {w : World} (hg : o.guard = none) (t : TypeId) (ho : o.op = .build t #[]) (Z : Array Value) (hZ : P.built t [] = some Z)
    (h : wpList P ops Q rest (a.put o.dst (.agg Z)) w) : wpList P ops Q (o :: rest) a w := by
  refine wpList_plain hg fun K hK => wp_build t #[] ho (by simp [hZ]) ?_
  simp [hZ]
  exact hK _ _ h
set_option maxRecDepth 400000 in
theorem built16 : ∃ Z : Array Value, Try.prog.built 69 [] = some Z ∧ Z.size = 131071 := by
  have h1 : Try.prog.info? 69 = some Try.t69 := by kernel_rfl
  have h2 : (Try.t69.zero.map (fun z => z.cells.size)) = some 131071 := by kernel_rfl
  obtain ⟨z, hz, hs⟩ := Option.map_eq_some_iff.1 h2
  refine ⟨z.cells, ?_, hs⟩
  unfold Program.built
  rw [h1, Try.underlying69]
  simp only [hz]
  rfl
theorem tb_xor {a b : Nat} (ha : a < 2 ^ 62) (hb : b < 2 ^ 62) : Go.bits .xor .i64 a b = ((a ^^^ b : Nat) : Int) := by
  have hx : a ^^^ b < 2 ^ 62 := Nat.xor_lt_two_pow ha hb
  unfold Go.bits
  show IntKind.i64.wrap (((BitVec.ofInt 64 (a : Int) ^^^ BitVec.ofInt 64 (b : Int)).toNat : Nat) : Int) = _
  rw [BitVec.ofInt_natCast, BitVec.ofInt_natCast, BitVec.toNat_xor, BitVec.toNat_ofNat, BitVec.toNat_ofNat, Nat.mod_eq_of_lt (by omega), Nat.mod_eq_of_lt (by omega), IntKind.wrap_i64]
  omega
theorem tab16.next_hi {n x : Nat} (hx : x = tab16.pw n) (h : 65535 < x * 2) : Value.int .i64 ((tab16.pw (n + 1) : Nat) : Int) = Value.int .i64 (Go.bits .xor .i64 ((x : Int) * 2) 65581) := by
  have hp := tab16.pw_lt n
  have e := tb_xor (a := 2 * x) (b := 65581) (by omega) (by decide)
  rw [show ((2 * x : Nat) : Int) = (x : Int) * 2 by omega, show ((65581 : Nat) : Int) = 65581 from rfl] at e
  rw [e, tab16.pw, ← hx, if_pos (by omega)]
theorem tab16.next_lo {n x : Nat} (hx : x = tab16.pw n) (h : ¬ 65535 < x * 2) : Value.int .i64 ((tab16.pw (n + 1) : Nat) : Int) = Value.int .i64 ((x : Int) * 2) := by
  rw [tab16.pw, ← hx, if_neg (by omega), show ((2 * x : Nat) : Int) = (x : Int) * 2 by omega]
theorem tab16.Is_next {n : Nat} (hlt : n < 65535) {cur : Array Value} (hs : cur.size = 131071) (he : ∀ j, j < n → cur[j]? = some (.int .u16 (tab16.pw j : Nat))) (hl : ∀ a m, tab16.lg n a = some m → cur[65535 + a]? = some (.int .u16 (m : Nat))) :
    tab16.Is (n + 1) ((cur.setIfInBounds n (.int .u16 ((tab16.pw n : Nat) : Int))).setIfInBounds (65535 + tab16.pw n) (.int .u16 (n : Nat))) := by
  have hp := tab16.pw_lt n
  refine ⟨by simp [hs], fun j hj => ?_, fun a m hm => ?_⟩
  · rw [Array.getElem?_setIfInBounds_ne (by omega)]
    by_cases e : j = n
    · subst e
      rw [Array.getElem?_setIfInBounds_self_of_lt (by omega)]
    · rw [Array.getElem?_setIfInBounds_ne (by omega)]
      exact he j (by omega)
  · unfold tab16.lg at hm
    by_cases e : tab16.pw n = a
    · rw [if_pos e] at hm
      subst e
      obtain rfl := Option.some.inj hm
      rw [Array.getElem?_setIfInBounds_self_of_lt (by simp; omega)]
    · rw [if_neg e] at hm
      rw [Array.getElem?_setIfInBounds_ne (by omega), Array.getElem?_setIfInBounds_ne (by omega)]
      exact hl a m hm
def gf16_New.f : Option Unit := some ()
set_option maxHeartbeats 4000000 in
set_option maxRecDepth 100000 in
theorem gf16_New.calls (w0 w : World) (hB : Below w0.heap.size w0 w) (_h : gf16_New.f = some ()) : Calls Try.prog 31 #[] w fun e w' => ∃ g_ : Nat, e = .returned (.pointer (some ⟨g_, 0, none⟩)) ∧ IsS69 w0 w' g_ ∧ Below w0.heap.size w0 w' ∧ Below w.heap.size w w' := by
  obtain ⟨Z, hZ, hZs⟩ := built16
  go_enter Try.func31, Try.ntmps31
  go_wp2_with (first | (refine wpList_build rfl 69 rfl Z hZ ?_))
  go_loopw [2, 6] (fun v2 v6 wr => ∃ n : Nat, n ≤ 65535 ∧ v6 = .int .i64 n ∧ v2 = .int .i64 (tab16.pw n : Nat) ∧ (∃ cur, wr.heap[w.heap.size]? = some (.cells cur 69 (0, 0)) ∧ tab16.Is n cur) ∧ Below w.heap.size w wr) (fun _ v6 _ => 65535 - (intOf v6).toNat)
  case atStart =>
    have hb0 := below_alloc (Below.refl w.heap.size w) (Obj.cells Z 69)
    exact ⟨0, by omega, by rfl, by rfl, ⟨Z, by simpa using heap_alloc_new w _, hZs, fun j hj => absurd hj (by omega), fun a m hm => by cases hm⟩, hb0⟩
  case round =>
    obtain ⟨n, hn, rfl, rfl, ⟨cur, hh, hs, he, hl⟩, hbw⟩ := hrel
    by_cases hlt : n < 65535
    · have hd : decide ((n : Int) < 65535) = true := decide_eq_true (by omega)
      have hp := tab16.pw_lt n
      obtain ⟨x, hx⟩ : ∃ x, x = tab16.pw n := ⟨_, rfl⟩
      rw [← hx] at hp ⊢
      have HX := Aside0.mk hx
      obtain ⟨u1, hu1⟩ : ∃ u, wr.cell? ⟨w.heap.size, n, none⟩ = some u := ⟨_, (cell_of_row wr _ n cur 69 (0, 0) hh).trans (Array.getElem?_eq_getElem (by omega))⟩
      have hf1 : wr.frozen? ⟨w.heap.size, n, none⟩ = false := blk_frozen hh _
      have hh1 := blk_set hh n (.int .u16 (x : Int))
      have hh2 := blk_set hh1 (65535 + x) (.int .u16 (n : Int))
      obtain ⟨u2, hu2⟩ : ∃ u, (wr.setCell ⟨w.heap.size, n, none⟩ (.int .u16 (x : Int))).cell? ⟨w.heap.size, 65535 + x, none⟩ = some u := ⟨_, (cell_of_row _ _ (65535 + x) _ 69 (0, 0) hh1).trans (Array.getElem?_eq_getElem (by simp; omega))⟩
      have hf2 : (wr.setCell ⟨w.heap.size, n, none⟩ (.int .u16 (x : Int))).frozen? ⟨w.heap.size, 65535 + x, none⟩ = false := blk_frozen hh1 _
      have HH1 := Aside0.mk hh1
      have HH2 := Aside0.mk hh2
      clear hh1 hh2
      have HE := Aside0.mk he
      have HL := Aside0.mk hl
      have HS := Aside0.mk hs
      have HH := Aside0.mk hh
      clear he hl hx hs hh
      clear hZ hZs
      have hIs := tab16.Is_next hlt HS.out HE.out HL.out
      rw [← HX.out] at hIs
      have HIs := Aside0.mk hIs
      clear hIs
      have hB1 : Below w.heap.size w ((wr.setCell ⟨w.heap.size, n, none⟩ (.int .u16 (x : Int))).setCell ⟨w.heap.size, 65535 + x, none⟩ (.int .u16 (n : Int))) := below_set (below_set hbw (Nat.le_refl _)) (Nat.le_refl _)
      have HB1 := Aside0.mk hB1
      clear hB1
      by_cases hgt : 65535 < x * 2
      · have hg1 : decide (65535 < (x : Int) * 2) = true := decide_eq_true (by omega)
        go_wp2
        go_roundw
        case rel => exact ⟨n + 1, by omega, by go_num, by rw [← tab16.next_hi HX.out hgt], ⟨_, HH2.out, HIs.out⟩, HB1.out⟩
        case measure => simp [intOf]; omega
      · have hg1 : decide (65535 < (x : Int) * 2) = false := decide_eq_false (by omega)
        go_wp2
        go_roundw
        case rel => exact ⟨n + 1, by omega, by go_num, by rw [← tab16.next_lo HX.out hgt], ⟨_, HH2.out, HIs.out⟩, HB1.out⟩
        case measure => simp [intOf]; omega
    · have hd : decide ((n : Int) < 65535) = false := decide_eq_false (by omega)
      obtain rfl : n = 65535 := by omega
      go_wp2
      go_ret
      exact ⟨w.heap.size, rfl, ⟨cur, hh, hs, he, hl⟩, below_step hB hbw, hbw⟩

/-! ### gf16_residue: function 53 -/
def gf16_residue.f (a0 : Int) : Option (Int) := if (Int.tmod a0 65535) < 0 then (some (wrap64 ((Int.tmod a0 65535) + 65535))) else (some (Int.tmod a0 65535))
set_option maxHeartbeats 8000000 in
set_option maxRecDepth 100000 in
theorem gf16_residue.calls (a0 : Int) (r : Int) (w : World) (h : gf16_residue.f a0 = some r) :
    Calls Try.prog 53 #[.int .i64 a0] w fun e w' => e = .returned (.int .i64 r) ∧ Drawn0 w w' := by
  have H : (if (Int.tmod a0 65535) < 0 then (some (wrap64 ((Int.tmod a0 65535) + 65535))) else (some (Int.tmod a0 65535))) = some r := h
  clear h
  by_cases c2 : (Int.tmod a0 65535) < 0
  · rw [if_pos c2] at H
    have c2b0 : decide ((Int.tmod a0 65535) < 0) = true := decide_eq_true c2
    clear c2
    obtain rfl := Option.some.inj H
    go_enter Try.func53, Try.ntmps53
    go_wp2
    go_ret
    exact ⟨by first | rfl | (simp; done) | (simp [*]; done), by repeat (first | exact Drawn0.refl _ | apply Drawn0.step)⟩
  · rw [if_neg c2] at H
    have c2b0 : decide ((Int.tmod a0 65535) < 0) = false := decide_eq_false c2
    clear c2
    obtain rfl := Option.some.inj H
    go_enter Try.func53, Try.ntmps53
    go_wp2
    go_ret
    exact ⟨by first | rfl | (simp; done) | (simp [*]; done), by repeat (first | exact Drawn0.refl _ | apply Drawn0.step)⟩

/-! ### gf16_Tables_Exp: function 32 -/
theorem quiet_of_drawn {P : Program} {f : FuncId} {args : Array Value} {w : World} {n : Nat} {v : Value} (h : Calls P f args (w.drewN n) fun e w' => e = .returned v ∧ Drawn0 (w.drewN n) w') :
    Calls P f args (w.drewN n) fun e w'' => e = .returned v ∧ ∃ m, w'' = w.drewN m := by
  refine h.mono ?_
  rintro e w' ⟨he, m, hm⟩
  exact ⟨he, n + m, by rw [hm, World.drewN_drewN]⟩
def gf16_Tables_Exp.f (a0 : Int) : Option Int := (gf16_residue.f a0).bind fun t => if 0 ≤ t ∧ t < 65535 then some ((tab16.pw t.toNat : Nat) : Int) else none
set_option maxHeartbeats 4000000 in
set_option maxRecDepth 100000 in
theorem gf16_Tables_Exp.calls (g : Nat) (a0 r : Int) (w : World) (hI : IsS69 w w g) (h : gf16_Tables_Exp.f a0 = some r) : Calls Try.prog 32 #[.pointer (some ⟨g, 0, none⟩), .int .i64 a0] w fun e w' => e = .returned (.int .u16 r) ∧ Drawn0 w w' := by
  unfold gf16_Tables_Exp.f at h
  obtain ⟨t, ht, h⟩ := Option.bind_eq_some_iff.1 h
  by_cases hr : 0 ≤ t ∧ t < 65535
  · rw [if_pos hr] at h
    obtain ⟨m, rfl⟩ : ∃ m : Nat, t = (m : Int) := ⟨t.toNat, by omega⟩
    rw [Int.toNat_natCast] at h
    obtain rfl := Option.some.inj h
    have hm : m < 65535 := by omega
    have c3 := hI.exp (j := m) hm
    have HT := Aside0.mk ht
    generalize tab16.pw m = p at c3 ⊢
    clear hI h hr ht
    go_enter Try.func32, Try.ntmps32
    go_wp2
    go_quiet ((go_at_call 53; exact quiet_of_drawn (gf16_residue.calls _ _ _ HT.out)))
    go_wp2
    go_ret
    exact ⟨rfl, ⟨_, rfl⟩⟩
  · rw [if_neg hr] at h; cases h

/-! ### gf16_Tables_Log: function 58 -/
def gf16_Tables_Log.f (a0 : Int) : Option (Int × Int) := if 0 ≤ a0 ∧ a0 ≤ 65535 then (if a0 = 0 then some (0, 20) else (tab16.lg 65535 a0.toNat).bind fun la => some ((la : Int), 0)) else none
set_option maxHeartbeats 4000000 in
set_option maxRecDepth 100000 in
theorem gf16_Tables_Log.calls (g : Nat) (a0 r1 r2 : Int) (w : World) (hI : IsS69 w w g) (h : gf16_Tables_Log.f a0 = some (r1, r2)) : Calls Try.prog 58 #[.pointer (some ⟨g, 0, none⟩), .int .u16 a0] w fun e w' => e = .returned (.tuple #[.int .i64 r1, .int .i64 r2]) ∧ Drawn0 w w' := by
  unfold gf16_Tables_Log.f at h
  by_cases hr : 0 ≤ a0 ∧ a0 ≤ 65535
  · rw [if_pos hr] at h
    obtain ⟨a, rfl⟩ : ∃ a : Nat, a0 = (a : Int) := ⟨a0.toNat, by omega⟩
    by_cases h0 : (a : Int) = 0
    · rw [if_pos h0] at h
      obtain ⟨rfl, rfl⟩ := Prod.mk.inj (Option.some.inj h)
      have hz : ((a : Int) == 0) = true := beq_iff_eq.2 h0
      clear h0 h hr
      go_enter Try.func58, Try.ntmps58
      go_wp2
      refine bodyPost_ret (results_tmp2 rfl _ _ _) rfl ?_
      exact ⟨rfl, Drawn0.refl _⟩
    · rw [if_neg h0, Int.toNat_natCast] at h
      have hz : ((a : Int) == 0) = false := beq_eq_false_iff_ne.2 h0
      obtain ⟨la, hla, h⟩ := Option.bind_eq_some_iff.1 h
      obtain ⟨rfl, rfl⟩ := Prod.mk.inj (Option.some.inj h)
      have c1 := hI.log hla
      have l1 := tab16.lg_lt _ _ _ hla
      have ha : a < 65536 := by omega
      clear hI hla h h0 hr
      go_enter Try.func58, Try.ntmps58
      go_wp2
      (try (go_quiet (fail)))
      (try go_wp2)
      refine bodyPost_ret (results_tmp2 rfl _ _ _) rfl ?_
      exact ⟨rfl, by first | exact Drawn0.refl _ | exact ⟨_, rfl⟩⟩
  · rw [if_neg hr] at h; cases h

end Go.Proofs.Ytklkcenffajfeaa.A
