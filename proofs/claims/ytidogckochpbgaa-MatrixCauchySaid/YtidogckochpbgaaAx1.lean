-- Printed for this claim by mp.py, a program of its prover, through the kit's print. Lean checks it.
import Derived.Test.YtidogckochpbgaaAx0
namespace Go.Proofs.Ytidogckochpbgaa.A
open Go.RowKit Go.Proofs.YtidogckochpbgaaW.PrintWords Go.Proofs.YtidogckochpbgaaW.PrintLast Go.Proofs.YtidogckochpbgaaW.PrintMore
attribute [local go_sem] max2_int min2_int max_two min_two max_three min_three max_four min_four   -- for this text's walks alone
set_option linter.unusedVariables false
set_option linter.unusedSimpArgs false

/-! ### gf8_Mul: function 17 -/
def gf8_Mul.l0 : Nat → Int → Int → Int → Option (Int)
  | 0, _, _, _ => none
  | k + 1, x1, x5, x6 => if x1 = 0 then (some ((x6) % 256)) else (if (Go.bits .and .u8 x1 1) = 0 then (if (Go.bits .and .u64 (IntKind.u64.wrap (x5 * 2)) 256) = 0 then (gf8_Mul.l0 k (x1 / 2) (IntKind.u64.wrap (x5 * 2)) x6) else (gf8_Mul.l0 k (x1 / 2) (Go.bits .xor .u64 (IntKind.u64.wrap (x5 * 2)) 285) x6)) else (if (Go.bits .and .u64 (IntKind.u64.wrap (x5 * 2)) 256) = 0 then (gf8_Mul.l0 k (x1 / 2) (IntKind.u64.wrap (x5 * 2)) (Go.bits .xor .u64 x6 x5)) else (gf8_Mul.l0 k (x1 / 2) (Go.bits .xor .u64 (IntKind.u64.wrap (x5 * 2)) 285) (Go.bits .xor .u64 x6 x5))))
def gf8_Mul.f (k : Nat) (a0 : Int) (a1 : Int) : Option (Int) := gf8_Mul.l0 k a1 (IntKind.u64.wrap (a0)) 0
theorem gf8_Mul.mono_l : ∀ k, (∀ y0 y1 y2, LeO (gf8_Mul.l0 k y0 y1 y2) (gf8_Mul.l0 (k + 1) y0 y1 y2))
  | 0 => fun _ _ _ r h => by simp [gf8_Mul.l0] at h
  | k + 1 => by
    have ih0 := gf8_Mul.mono_l k
    · intro y0 y1 y2
      unfold gf8_Mul.l0
      repeat' first
      | (with_reducible exact ih0 _ _ _)
      | (with_reducible exact LeO.refl _)
      | (with_reducible exact LeO.none _)
      | (with_reducible refine LeO.ite ?_ ?_)
      | (with_reducible refine LeO.bind ?_ (fun _ => ?_))
      | exact ih0 _ _ _
      | exact LeO.none _
      | refine LeO.ite ?_ ?_
      | refine LeO.bind ?_ (fun _ => ?_)
theorem gf8_Mul.mono : ∀ a0 a1 k, LeO (gf8_Mul.f k a0 a1) (gf8_Mul.f (k + 1) a0 a1) := by
  intro a0 a1 k
  have ih0 := gf8_Mul.mono_l k
  unfold gf8_Mul.f
  repeat' first
      | (with_reducible exact ih0 _ _ _)
      | (with_reducible exact LeO.refl _)
      | (with_reducible exact LeO.none _)
      | (with_reducible refine LeO.ite ?_ ?_)
      | (with_reducible refine LeO.bind ?_ (fun _ => ?_))
      | exact ih0 _ _ _
      | exact LeO.none _
      | refine LeO.ite ?_ ?_
      | refine LeO.bind ?_ (fun _ => ?_)
set_option maxHeartbeats 8000000 in
set_option maxRecDepth 100000 in
theorem gf8_Mul.calls (k : Nat) (a0 : Int) (a1 : Int) (r : Int) (w : World) (h : gf8_Mul.f k a0 a1 = some r) :
    Calls Try.prog 17 #[.int .u8 a0, .int .u8 a1] w fun e w' => e = .returned (.int .u8 r) ∧ Drawn0 w w' := by
  have H : (gf8_Mul.l0 k a1 (IntKind.u64.wrap (a0)) 0) = some r := h
  clear h
  have H' := Aside0.mk H
  clear H
  go_enter Try.func17, Try.ntmps17
  go_wp2
  go_loopg [1, 5, 6] k (fun kq v1 v5 v6 w' => ∃ (x1_1 : Int) (x5_1 : Int) (x6_1 : Int), v1 = .int .u8 x1_1 ∧ v5 = .int .u64 x5_1 ∧ v6 = .int .u64 x6_1 ∧ Aside0 (gf8_Mul.l0 kq x1_1 x5_1 x6_1 = some r) ∧ Aside0 (kq ≤ k) ∧ Drawn0 w w')
  case atStart => exact ⟨(a1), (IntKind.u64.wrap (a0)), (0), (by first | rfl | (simp; done) | (simp [*]; done)), (by first | rfl | (simp; done) | (simp [*]; done)), (by first | rfl | (simp; done) | (simp [*]; done)), H', ⟨Nat.le_refl _⟩, by repeat (first | exact Drawn0.refl _ | apply Drawn0.step)⟩
  case round =>
    clear H'
    try clear c1
    try clear p2
    obtain ⟨x1_1, x5_1, x6_1, rfl, rfl, rfl, HA, HK1, ⟨m1, rfl⟩⟩ := hrel
    cases gk with
    | zero => exact absurd HA.out (by simp [gf8_Mul.l0])
    | succ k1 =>
      have H := HA.out
      clear HA
      simp only [gf8_Mul.l0] at H
      by_cases c3 : x1_1 = 0
      · rw [if_pos c3] at H
        have c3b0 : (x1_1 == 0) = true := beq_iff_eq.mpr c3
        have c3b1 : (x1_1 != 0) = false := bne_eq_false_iff_eq.mpr c3
        clear c3
        obtain rfl := Option.some.inj H
        go_wp2
        go_ret
        exact ⟨by first | rfl | (simp; done) | (simp [*]; done), by repeat (first | exact Drawn0.refl _ | apply Drawn0.step)⟩
      · rw [if_neg c3] at H
        have c3b0 : (x1_1 == 0) = false := beq_eq_false_iff_ne.mpr c3
        have c3b1 : (x1_1 != 0) = true := bne_iff_ne.mpr c3
        by_cases c4 : (Go.bits .and .u8 x1_1 1) = 0
        · rw [if_pos c4] at H
          have c4b0 : ((Go.bits .and .u8 x1_1 1) == 0) = true := beq_iff_eq.mpr c4
          have c4b1 : ((Go.bits .and .u8 x1_1 1) != 0) = false := bne_eq_false_iff_eq.mpr c4
          clear c4
          by_cases c5 : (Go.bits .and .u64 (IntKind.u64.wrap (x5_1 * 2)) 256) = 0
          · rw [if_pos c5] at H
            have c5b0 : ((Go.bits .and .u64 (IntKind.u64.wrap (x5_1 * 2)) 256) == 0) = true := beq_iff_eq.mpr c5
            have c5b1 : ((Go.bits .and .u64 (IntKind.u64.wrap (x5_1 * 2)) 256) != 0) = false := bne_eq_false_iff_eq.mpr c5
            clear c5
            have H' := Aside0.mk H
            clear H
            go_wp2
            go_roundg k1
            case measure => have := HK1.out; omega
            case rel => exact ⟨(x1_1 / 2), (IntKind.u64.wrap (x5_1 * 2)), (x6_1), (by first | rfl | (simp; done) | (simp [*]; done)), (by first | rfl | (simp; done) | (simp [*]; done)), (by first | rfl | (simp; done) | (simp [*]; done)), H', ⟨by have := HK1.out; omega⟩, by repeat (first | exact Drawn0.refl _ | apply Drawn0.step)⟩
          · rw [if_neg c5] at H
            have c5b0 : ((Go.bits .and .u64 (IntKind.u64.wrap (x5_1 * 2)) 256) == 0) = false := beq_eq_false_iff_ne.mpr c5
            have c5b1 : ((Go.bits .and .u64 (IntKind.u64.wrap (x5_1 * 2)) 256) != 0) = true := bne_iff_ne.mpr c5
            have H' := Aside0.mk H
            clear H
            go_wp2
            go_roundg k1
            case measure => have := HK1.out; omega
            case rel => exact ⟨(x1_1 / 2), (Go.bits .xor .u64 (IntKind.u64.wrap (x5_1 * 2)) 285), (x6_1), (by first | rfl | (simp; done) | (simp [*]; done)), (by first | rfl | (simp; done) | (simp [*]; done)), (by first | rfl | (simp; done) | (simp [*]; done)), H', ⟨by have := HK1.out; omega⟩, by repeat (first | exact Drawn0.refl _ | apply Drawn0.step)⟩
        · rw [if_neg c4] at H
          have c4b0 : ((Go.bits .and .u8 x1_1 1) == 0) = false := beq_eq_false_iff_ne.mpr c4
          have c4b1 : ((Go.bits .and .u8 x1_1 1) != 0) = true := bne_iff_ne.mpr c4
          by_cases c6 : (Go.bits .and .u64 (IntKind.u64.wrap (x5_1 * 2)) 256) = 0
          · rw [if_pos c6] at H
            have c6b0 : ((Go.bits .and .u64 (IntKind.u64.wrap (x5_1 * 2)) 256) == 0) = true := beq_iff_eq.mpr c6
            have c6b1 : ((Go.bits .and .u64 (IntKind.u64.wrap (x5_1 * 2)) 256) != 0) = false := bne_eq_false_iff_eq.mpr c6
            clear c6
            have H' := Aside0.mk H
            clear H
            go_wp2
            go_roundg k1
            case measure => have := HK1.out; omega
            case rel => exact ⟨(x1_1 / 2), (IntKind.u64.wrap (x5_1 * 2)), (Go.bits .xor .u64 x6_1 x5_1), (by first | rfl | (simp; done) | (simp [*]; done)), (by first | rfl | (simp; done) | (simp [*]; done)), (by first | rfl | (simp; done) | (simp [*]; done)), H', ⟨by have := HK1.out; omega⟩, by repeat (first | exact Drawn0.refl _ | apply Drawn0.step)⟩
          · rw [if_neg c6] at H
            have c6b0 : ((Go.bits .and .u64 (IntKind.u64.wrap (x5_1 * 2)) 256) == 0) = false := beq_eq_false_iff_ne.mpr c6
            have c6b1 : ((Go.bits .and .u64 (IntKind.u64.wrap (x5_1 * 2)) 256) != 0) = true := bne_iff_ne.mpr c6
            have H' := Aside0.mk H
            clear H
            go_wp2
            go_roundg k1
            case measure => have := HK1.out; omega
            case rel => exact ⟨(x1_1 / 2), (Go.bits .xor .u64 (IntKind.u64.wrap (x5_1 * 2)) 285), (Go.bits .xor .u64 x6_1 x5_1), (by first | rfl | (simp; done) | (simp [*]; done)), (by first | rfl | (simp; done) | (simp [*]; done)), (by first | rfl | (simp; done) | (simp [*]; done)), H', ⟨by have := HK1.out; omega⟩, by repeat (first | exact Drawn0.refl _ | apply Drawn0.step)⟩

/-! ### gf8_New: function 44 -/
/-- The n-th power of x. -/
def tab8.pw : Nat → Nat
  | 0 => 1
  | n + 1 => if 255 < 2 * tab8.pw n then (2 * tab8.pw n) ^^^ 285 else 2 * tab8.pw n
def tab8.lg : Nat → Nat → Option Nat
  | 0, _ => none
  | n + 1, a => if tab8.pw n = a then some n else tab8.lg n a
theorem tab8.pw_lt : ∀ n, tab8.pw n < 256
  | 0 => by decide
  | n + 1 => by
    have := tab8.pw_lt n
    unfold tab8.pw
    split
    · rename_i h
      have h9 : 2 * tab8.pw n < 2 ^ 9 := by omega
      have hx : (2 * tab8.pw n) ^^^ 285 < 2 ^ 9 := Nat.xor_lt_two_pow h9 (by decide)
      have hb : ((2 * tab8.pw n) ^^^ 285).testBit 8 = false := by
        rw [Nat.testBit_xor]
        have : (2 * tab8.pw n).testBit 8 = true := by
          rw [Nat.testBit_eq_decide_div_mod_eq, decide_eq_true_eq]; omega
        rw [this]; decide
      rw [Nat.testBit_eq_decide_div_mod_eq, decide_eq_false_iff_not] at hb
      omega
    · omega
theorem tab8.lg_lt : ∀ n a m, tab8.lg n a = some m → m < n
  | 0, _, _, h => by cases h
  | n + 1, a, m, h => by
    unfold tab8.lg at h
    split at h
    · obtain rfl := Option.some.inj h; omega
    · have := tab8.lg_lt n a m h; omega
def tab8.Is (n : Nat) (cur : Array Value) : Prop := cur.size = 766 ∧ (∀ j, j < n → cur[j]? = some (.int .u8 (tab8.pw j : Nat)) ∧ cur[j + 255]? = some (.int .u8 (tab8.pw j : Nat))) ∧ ∀ a m, tab8.lg n a = some m → cur[510 + a]? = some (.int .i64 (m : Nat))
/-- A state of type 76 at block g of W; what its slices lead to came in by w0. -/
def IsS76 (w0 W : World) (g : Nat)  : Prop := ∃ cur_ : Array Value, W.heap[g]? = some (.cells cur_ 76 (0, 0)) ∧ tab8.Is 255 cur_
theorem IsS76.grown {w0 W : World} {g : Nat}  {W1 : World} {row : Option Nat} (h : IsS76 w0 W g ) (hw : W.grownBy W1 row) (hne : some g ≠ row) : IsS76 w0 W1 g  := by
  obtain ⟨cur_, hb, hg⟩ := h
  exact ⟨cur_, blk_grown hb hw hne, hg⟩
theorem IsS76.own_neN {w0 W : World} {g : Nat}  {α : Type} {d : Kd α} {e : Nat} {base : Nat} {ok : Nat → Prop} {v : Value} {xs : List α} (h : IsS76 w0 W g ) (ho : Kd.N d e W base ok v xs) (ht : e ≠ 76) : some g ≠ v.ownBlock := by
  obtain ⟨cur_, hb, hg⟩ := h
  exact Kd.N_ne ho hb ht
theorem IsS76.fresh {w0 W : World} {g : Nat}  (h : IsS76 w0 W g ) : ∀ k, W.heap.size ≤ k → k ≠ g := by
  obtain ⟨cur_, hb, hg⟩ := h
  exact Kd.freshB hb
theorem IsS76.kept {w0 W : World} {g : Nat}  {W1 : World} {S : Nat → Prop} (h : IsS76 w0 W g ) (hk : Kept W W1 S) (hne : ¬ S g) : IsS76 w0 W1 g  := by
  obtain ⟨cur_, hb, hg⟩ := h
  exact ⟨cur_, blk_kept hb hk hne, hg⟩
theorem IsS76.below {w0 W : World} {g : Nat}  {W1 : World} (h : IsS76 w0 W g ) (hw : Below W.heap.size W W1) : IsS76 w0 W1 g  := h.grown (grown_of_below hw none) (by simp)
theorem IsS76.alloc {w0 W : World} {g : Nat}  (h : IsS76 w0 W g ) (o : Obj) : IsS76 w0 (W.alloc o) g  := h.below (below_alloc (Below.refl _ _) o)
theorem IsS76.drewN {w0 W : World} {g : Nat}  (h : IsS76 w0 W g ) (m : Nat) : IsS76 w0 (W.drewN m) g  := h
theorem IsS76.drew {w0 W : World} {g : Nat}  (h : IsS76 w0 W g ) : IsS76 w0 W.drew g  := h
theorem IsS76.at_ {w0 W : World} {g : Nat}  {w' : World} {m : Nat} (hq : W.drewN m = w') (h : IsS76 w0 W g ) : IsS76 w0 w' g  := by subst hq; exact IsS76.drewN h m
theorem IsS76.apart {w0 W : World} {g : Nat}  {α : Type} {d : Kd α} {e : Nat} {base : Nat} {ok : Nat → Prop} {v : Value} {xs : List α} (h : IsS76 w0 W g ) (ho : d.R e W base ok v xs) (ht : ∀ q, q ∈ e :: d.E → q ≠ 76) : d.R e W base (fun k => ok k ∧ k ≠ g) v xs := by
  obtain ⟨cur_, hb, hg⟩ := h
  exact Kd.R_types ho hb ht
theorem IsS76.own_ne {w0 W : World} {g : Nat}  {α : Type} {d : Kd α} {e : Nat} {base : Nat} {ok : Nat → Prop} {v : Value} {xs : List α} (h : IsS76 w0 W g ) (ho : d.R e W base ok v xs) (ht : e ≠ 76) : some g ≠ v.ownBlock := by
  obtain ⟨cur_, hb, hg⟩ := h
  exact Kd.R_ne ho hb ht
theorem IsS76.apartQ {w0 W : World} {g : Nat}  {α : Type} {d : Kd α} {e : Nat} {base : Nat} {ok : Nat → Prop} {v : Value} {xs : List α} (h : IsS76 w0 W g ) (ho : d.Q e W base ok v xs) (ht : ∀ q, q ∈ e :: d.E → q ≠ 76) : d.Q e W base (fun k => ok k ∧ k ≠ g) v xs := by
  obtain ⟨cur_, hb, hg⟩ := h
  exact Kd.Q_types ho hb ht
theorem IsS76.own_neQ {w0 W : World} {g : Nat}  {α : Type} {d : Kd α} {e : Nat} {base : Nat} {ok : Nat → Prop} {v : Value} {xs : List α} (h : IsS76 w0 W g ) (ho : d.Q e W base ok v xs) (ht : e ≠ 76) : some g ≠ v.ownBlock := by
  obtain ⟨cur_, hb, hg⟩ := h
  exact Kd.Q_ne ho hb ht
theorem IsS76.apartS {w0 W : World} {g : Nat}  {α : Type} {d : Kd α} {e : Nat} {base : Nat} {ok : Nat → Prop} {v : Value} {xs : List α} (h : IsS76 w0 W g ) (ho : d.S e W base ok v xs) (ht : ∀ q, q ∈ e :: d.E → q ≠ 76) : d.S e W base (fun k => ok k ∧ k ≠ g) v xs := by
  obtain ⟨cur_, hb, hg⟩ := h
  exact Kd.S_types ho hb ht
theorem IsS76.own_neS {w0 W : World} {g : Nat}  {α : Type} {d : Kd α} {e : Nat} {base : Nat} {ok : Nat → Prop} {v : Value} {xs : List α} (h : IsS76 w0 W g ) (ho : d.S e W base ok v xs) (ht : e ≠ 76) : some g ≠ v.ownBlock := by
  obtain ⟨cur_, hb, hg⟩ := h
  exact Kd.S_ne ho hb ht
theorem IsS76.lt {w0 W : World} {g : Nat}  (h : IsS76 w0 W g ) : g < W.heap.size := by
  obtain ⟨cur_, hb, hg⟩ := h
  exact blk_lt hb
theorem IsS76.ne_blk {w0 W : World} {g : Nat}  {a : Nat} {cs : Array Value} {t : TypeId} {fr : Nat × Nat} (h : IsS76 w0 W g ) (hb2 : W.heap[a]? = some (.cells cs t fr)) (ht : t ≠ 76) : g ≠ a := by
  obtain ⟨cur_, hb, hg⟩ := h
  rintro rfl
  rw [hb] at hb2
  injection hb2 with hb2
  injection hb2 with _ ht2
  exact ht ht2.symm
theorem IsS76.far {w0 W : World} {g : Nat}  {p : Addr} (h : IsS76 w0 W g ) (hne : g ≠ p.block) (u : Value) : IsS76 w0 (W.setCell p u) g  := by
  obtain ⟨cur_, hb, hg⟩ := h
  exact ⟨cur_, blk_far hb hne u, hg⟩
theorem IsS76.exp {w0 w : World} {g : Nat} (h : IsS76 w0 w g) {j : Nat} (hj : j < 510) : w.cell? ⟨g, j, none⟩ = some (.int .u8 (tab8.pw (j % 255) : Nat)) := by
  obtain ⟨cur, hh, _, he, _⟩ := h
  refine (cell_of_row w g j cur 76 (0, 0) hh).trans ?_
  by_cases e : j < 255
  · rw [Nat.mod_eq_of_lt e]; exact (he j e).1
  · have := (he (j - 255) (by omega)).2
    rw [show j - 255 + 255 = j by omega] at this
    rw [show j % 255 = j - 255 by omega]; exact this
theorem IsS76.log {w0 w : World} {g : Nat} (h : IsS76 w0 w g) {a m : Nat} (hm : tab8.lg 255 a = some m) : w.cell? ⟨g, 510 + a, none⟩ = some (.int .i64 (m : Nat)) := by
  obtain ⟨cur, hh, _, _, hl⟩ := h
  exact (cell_of_row w g (510 + a) cur 76 (0, 0) hh).trans (hl a m hm)
theorem wpList_build {P : Program} {ops : Array Oper} {rest : List Oper} {o : Oper} {a : Act} {Q : Exit → Act → World → Prop} {w : World} (hg : o.guard = none) (t : TypeId) (ho : o.op = .build t #[]) (Z : Array Value) (hZ : P.built t [] = some Z)
    (h : wpList P ops Q rest (a.put o.dst (.agg Z)) w) : wpList P ops Q (o :: rest) a w := by
  refine wpList_plain hg fun K hK => wp_build t #[] ho (by simp [hZ]) ?_
  simp [hZ]
  exact hK _ _ h
theorem tab8.step : ∀ x, x ∈ List.range 256 → gf8_Mul.f 20 (x : Nat) 2 = some (((if 255 < 2 * x then (2 * x) ^^^ 285 else 2 * x : Nat)) : Int) ∧ (if 255 < 2 * x then (2 * x) ^^^ 285 else 2 * x) < 256 := by decide +kernel
theorem tab8.next (n : Nat) : gf8_Mul.f 20 (tab8.pw n : Nat) 2 = some ((tab8.pw (n + 1) : Nat) : Int) := (tab8.step (tab8.pw n) (List.mem_range.2 (tab8.pw_lt n))).1
theorem tab8.Is_next {n : Nat} (hlt : n < 255) {cur : Array Value} (hs : cur.size = 766) (he : ∀ j, j < n → cur[j]? = some (.int .u8 (tab8.pw j : Nat)) ∧ cur[j + 255]? = some (.int .u8 (tab8.pw j : Nat))) (hl : ∀ a m, tab8.lg n a = some m → cur[510 + a]? = some (.int .i64 (m : Nat))) :
    tab8.Is (n + 1) (((cur.setIfInBounds n (.int .u8 ((tab8.pw n : Nat) : Int))).setIfInBounds (n + 255) (.int .u8 ((tab8.pw n : Nat) : Int))).setIfInBounds (510 + tab8.pw n) (.int .i64 (n : Nat))) := by
  have hp := tab8.pw_lt n
  refine ⟨by simp [hs], fun j hj => ?_, fun a m hm => ?_⟩
  · refine ⟨?_, ?_⟩
    · rw [Array.getElem?_setIfInBounds_ne (by omega), Array.getElem?_setIfInBounds_ne (by omega)]
      by_cases e : j = n
      · subst e
        rw [Array.getElem?_setIfInBounds_self_of_lt (by omega)]
      · rw [Array.getElem?_setIfInBounds_ne (by omega)]
        exact (he j (by omega)).1
    · rw [Array.getElem?_setIfInBounds_ne (by omega)]
      by_cases e : j = n
      · subst e
        rw [Array.getElem?_setIfInBounds_self_of_lt (by simp; omega)]
      · rw [Array.getElem?_setIfInBounds_ne (by omega), Array.getElem?_setIfInBounds_ne (by omega)]
        exact (he j (by omega)).2
  · unfold tab8.lg at hm
    by_cases e : tab8.pw n = a
    · rw [if_pos e] at hm
      subst e
      obtain rfl := Option.some.inj hm
      rw [Array.getElem?_setIfInBounds_self_of_lt (by simp; omega)]
    · rw [if_neg e] at hm
      rw [Array.getElem?_setIfInBounds_ne (by omega), Array.getElem?_setIfInBounds_ne (by omega), Array.getElem?_setIfInBounds_ne (by omega)]
      exact hl a m hm
theorem built8 : ∃ Z : Array Value, Try.prog.built 76 [] = some Z ∧ Z.size = 766 := by
  have h1 : Try.prog.info? 76 = some Try.t76 := by kernel_rfl
  have h2 : (Try.t76.zero.map (fun z => z.cells.size)) = some 766 := by kernel_rfl
  obtain ⟨z, hz, hs⟩ := Option.map_eq_some_iff.1 h2
  refine ⟨z.cells, ?_, hs⟩
  unfold Program.built
  rw [h1, Try.underlying76]
  simp only [hz]
  rfl
def gf8_New.f : Option Unit := some ()
set_option maxHeartbeats 4000000 in
set_option maxRecDepth 100000 in
theorem gf8_New.calls (w0 w : World) (hB : Below w0.heap.size w0 w) (_h : gf8_New.f = some ()) : Calls Try.prog 44 #[] w fun e w' => ∃ g_ : Nat, e = .returned (.pointer (some ⟨g_, 0, none⟩)) ∧ IsS76 w0 w' g_ ∧ Below w0.heap.size w0 w' ∧ Below w.heap.size w w' := by
  obtain ⟨Z, hZ, hZs⟩ := built8
  go_enter Try.func44, Try.ntmps44
  go_wp2_with (first | (refine wpList_build rfl 76 rfl Z hZ ?_))
  go_loopw [2, 6] (fun v2 v6 wr => ∃ n : Nat, n ≤ 255 ∧ v6 = .int .i64 n ∧ v2 = .int .u8 (tab8.pw n : Nat) ∧ (∃ cur, wr.heap[w.heap.size]? = some (.cells cur 76 (0, 0)) ∧ tab8.Is n cur) ∧ Below w.heap.size w wr) (fun _ v6 _ => 255 - (intOf v6).toNat)
  case atStart =>
    have hb0 := below_alloc (Below.refl w.heap.size w) (Obj.cells Z 76)
    exact ⟨0, by omega, by rfl, by rfl, ⟨Z, by simpa using heap_alloc_new w _, hZs, fun j hj => absurd hj (by omega), fun a m hm => by cases hm⟩, hb0⟩
  case round =>
    obtain ⟨n, hn, rfl, rfl, ⟨cur, hh, hs, he, hl⟩, hbw⟩ := hrel
    by_cases hlt : n < 255
    · have hd : decide ((n : Int) < 255) = true := decide_eq_true (by omega)
      have hp := tab8.pw_lt n
      have hnx := tab8.next n
      have hIs := tab8.Is_next hlt hs he hl
      obtain ⟨y, hy⟩ : ∃ y, y = tab8.pw (n + 1) := ⟨_, rfl⟩
      rw [← hy] at hnx
      have HY := Aside0.mk (show Value.int .u8 (y : Int) = Value.int .u8 ((tab8.pw (n + 1) : Nat) : Int) by rw [hy])
      clear hy
      obtain ⟨x, hx⟩ : ∃ x, x = tab8.pw n := ⟨_, rfl⟩
      rw [← hx] at hp hnx hIs ⊢
      have HX := Aside0.mk hx
      obtain ⟨u1, hu1⟩ : ∃ u, wr.cell? ⟨w.heap.size, n, none⟩ = some u := ⟨_, (cell_of_row wr _ n cur 76 (0, 0) hh).trans (Array.getElem?_eq_getElem (by omega))⟩
      have hf1 : wr.frozen? ⟨w.heap.size, n, none⟩ = false := blk_frozen hh _
      have hh1 := blk_set hh n (.int .u8 (x : Int))
      have hh2 := blk_set hh1 (n + 255) (.int .u8 (x : Int))
      have hh3 := blk_set hh2 (510 + x) (.int .i64 (n : Int))
      obtain ⟨u2, hu2⟩ : ∃ u, (wr.setCell ⟨w.heap.size, n, none⟩ (.int .u8 (x : Int))).cell? ⟨w.heap.size, n + 255, none⟩ = some u := ⟨_, (cell_of_row _ _ (n + 255) _ 76 (0, 0) hh1).trans (Array.getElem?_eq_getElem (by simp; omega))⟩
      have hf2 : (wr.setCell ⟨w.heap.size, n, none⟩ (.int .u8 (x : Int))).frozen? ⟨w.heap.size, n + 255, none⟩ = false := blk_frozen hh1 _
      have HIs := Aside0.mk hIs
      have HN := Aside0.mk hnx
      have HH3 := Aside0.mk hh3
      have HH := Aside0.mk hh
      obtain ⟨cur2, hc2⟩ : ∃ c, c = (cur.setIfInBounds n (.int .u8 (x : Int))).setIfInBounds (n + 255) (.int .u8 (x : Int)) := ⟨_, rfl⟩
      have hz2 : cur2.size = 766 := by rw [hc2]; simp [hs]
      rw [← hc2] at hIs hh2
      have HH2 := Aside0.mk hh2
      have hb2 : Below w.heap.size w (((wr.setCell ⟨w.heap.size, n, none⟩ (.int .u8 (x : Int))).setCell ⟨w.heap.size, n + 255, none⟩ (.int .u8 (x : Int))).drew) := below_drew1 (below_set (below_set hbw (Nat.le_refl _)) (Nat.le_refl _))
      have HB2 := Aside0.mk hb2
      have HIs := Aside0.mk hIs
      clear hh1 hh2 hh3 hIs hnx he hl hs hh hx hZ hZs hb2 HH3 HH hc2
      go_wp2
      go_region
      have hh3 : (((wr.setCell ⟨w.heap.size, n, none⟩ (.int .u8 (x : Int))).setCell ⟨w.heap.size, n + 255, none⟩ (.int .u8 (x : Int))).drew).heap[w.heap.size]? = some (.cells cur2 76 (0, 0)) := HH2.out
      have hb3 := HB2.out
      generalize ((wr.setCell ⟨w.heap.size, n, none⟩ (.int .u8 (x : Int))).setCell ⟨w.heap.size, n + 255, none⟩ (.int .u8 (x : Int))).drew = W3 at hh3 hb3 ⊢
      obtain ⟨u3, hu3⟩ : ∃ u, W3.cell? ⟨w.heap.size, 510 + x, none⟩ = some u := ⟨_, (cell_of_row _ _ (510 + x) _ 76 (0, 0) hh3).trans (Array.getElem?_eq_getElem (by omega))⟩
      have hf3 : W3.frozen? ⟨w.heap.size, 510 + x, none⟩ = false := blk_frozen hh3 _
      have HH4 := Aside0.mk (blk_set hh3 (510 + x) (.int .i64 (n : Int)))
      have HB4 := Aside0.mk (below_set (v := .int .i64 (n : Int)) (j := 510 + x) hb3 (Nat.le_refl _))
      clear hh3 hb3 hz2 HH2 HB2
      go_wp2_with (first | (go_at_call 17; refine (gf8_Mul.calls 20 _ _ _ _ HN.out).mono ?_; rintro e w4 ⟨rfl, nd, rfl⟩))
      go_roundw
      case rel => exact ⟨n + 1, by omega, by go_num, HY.out, ⟨_, HH4.out, HIs.out⟩, pw_below_drewN HB4.out _⟩
      case measure => simp [intOf]; omega
    · have hd : decide ((n : Int) < 255) = false := decide_eq_false (by omega)
      obtain rfl : n = 255 := by omega
      go_wp2
      go_ret
      exact ⟨w.heap.size, rfl, ⟨cur, hh, hs, he, hl⟩, below_step hB hbw, hbw⟩

/-! ### gf8_Tables_Inv: function 45 -/
def gf8_Tables_Inv.f (a0 : Int) : Option (Int × Int) := if 0 ≤ a0 ∧ a0 ≤ 255 then (if a0 = 0 then some (0, 20) else (tab8.lg 255 a0.toNat).bind fun la => some (((tab8.pw ((255 - la) % 255) : Nat) : Int), 0)) else none
set_option maxHeartbeats 4000000 in
set_option maxRecDepth 100000 in
theorem gf8_Tables_Inv.calls (g : Nat) (a0 r1 r2 : Int) (w : World) (hI : IsS76 w w g) (h : gf8_Tables_Inv.f a0 = some (r1, r2)) : Calls Try.prog 45 #[.pointer (some ⟨g, 0, none⟩), .int .u8 a0] w fun e w' => e = .returned (.tuple #[.int .u8 r1, .int .i64 r2]) ∧ Drawn0 w w' := by
  unfold gf8_Tables_Inv.f at h
  by_cases hr : 0 ≤ a0 ∧ a0 ≤ 255
  · rw [if_pos hr] at h
    obtain ⟨a, rfl⟩ : ∃ a : Nat, a0 = (a : Int) := ⟨a0.toNat, by omega⟩
    by_cases h0 : (a : Int) = 0
    · rw [if_pos h0] at h
      obtain ⟨rfl, rfl⟩ := Prod.mk.inj (Option.some.inj h)
      have hz : ((a : Int) == 0) = true := beq_iff_eq.2 h0
      clear h0 h hr
      go_enter Try.func45, Try.ntmps45
      go_wp2
      refine bodyPost_ret (results_tmp2 rfl _ _ _) rfl ?_
      exact ⟨rfl, Drawn0.refl _⟩
    · rw [if_neg h0, Int.toNat_natCast] at h
      have hz : ((a : Int) == 0) = false := beq_eq_false_iff_ne.2 h0
      obtain ⟨la, hla, h⟩ := Option.bind_eq_some_iff.1 h
      obtain ⟨rfl, rfl⟩ := Prod.mk.inj (Option.some.inj h)
      have c1 := hI.log hla
      have l1 := tab8.lg_lt _ _ _ hla
      have c3 := hI.exp (j := 255 - la) (by omega)
      have ha : a < 256 := by omega
      generalize tab8.pw ((255 - la) % 255) = p at c3 ⊢
      obtain ⟨m, hm⟩ : ∃ m : Nat, (255 : Int) - (la : Int) = (m : Int) := ⟨255 - la, by omega⟩
      have hm2 : 255 - la = m := by omega
      rw [hm2] at c3
      have hml : m ≤ 255 := by omega
      clear hI hla h h0 hr hm2
      go_enter Try.func45, Try.ntmps45
      go_wp2
      go_quiet (fail)
      go_wp2
      refine bodyPost_ret (results_tmp2 rfl _ _ _) rfl ?_
      exact ⟨rfl, ⟨_, rfl⟩⟩
  · rw [if_neg hr] at h; cases h

/-! ### gf8_Tables_Mul: function 48 -/
def gf8_Tables_Mul.f (a0 a1 : Int) : Option Int := if 0 ≤ a0 ∧ a0 ≤ 255 ∧ 0 ≤ a1 ∧ a1 ≤ 255 then (if a0 = 0 then some 0 else if a1 = 0 then some 0 else (tab8.lg 255 a0.toNat).bind fun la => (tab8.lg 255 a1.toNat).bind fun lb => some ((tab8.pw ((la + lb) % 255) : Nat) : Int)) else none
set_option maxHeartbeats 4000000 in
set_option maxRecDepth 100000 in
theorem gf8_Tables_Mul.calls (g : Nat) (a0 a1 r : Int) (w : World) (hI : IsS76 w w g) (h : gf8_Tables_Mul.f a0 a1 = some r) : Calls Try.prog 48 #[.pointer (some ⟨g, 0, none⟩), .int .u8 a0, .int .u8 a1] w fun e w' => e = .returned (.int .u8 r) ∧ Drawn0 w w' := by
  unfold gf8_Tables_Mul.f at h
  by_cases hr : 0 ≤ a0 ∧ a0 ≤ 255 ∧ 0 ≤ a1 ∧ a1 ≤ 255
  · rw [if_pos hr] at h
    obtain ⟨a, rfl⟩ : ∃ a : Nat, a0 = (a : Int) := ⟨a0.toNat, by omega⟩
    obtain ⟨b, rfl⟩ : ∃ b : Nat, a1 = (b : Int) := ⟨a1.toNat, by omega⟩
    by_cases h0 : (a : Int) = 0
    · rw [if_pos h0] at h
      obtain rfl := Option.some.inj h
      have hz : ((a : Int) == 0) = true := beq_iff_eq.2 h0
      clear h0 h hr
      go_enter Try.func48, Try.ntmps48
      go_wp2
      go_ret
      exact ⟨rfl, Drawn0.refl _⟩
    · rw [if_neg h0] at h
      have hz : ((a : Int) == 0) = false := beq_eq_false_iff_ne.2 h0
      by_cases h1 : (b : Int) = 0
      · rw [if_pos h1] at h
        obtain rfl := Option.some.inj h
        have hz1 : ((b : Int) == 0) = true := beq_iff_eq.2 h1
        clear h0 h h1 hr
        go_enter Try.func48, Try.ntmps48
        go_wp2
        go_ret
        exact ⟨rfl, Drawn0.refl _⟩
      · rw [if_neg h1, Int.toNat_natCast, Int.toNat_natCast] at h
        have hz1 : ((b : Int) == 0) = false := beq_eq_false_iff_ne.2 h1
        obtain ⟨la, hla, h⟩ := Option.bind_eq_some_iff.1 h
        obtain ⟨lb, hlb, h⟩ := Option.bind_eq_some_iff.1 h
        obtain rfl := Option.some.inj h
        have l1 := tab8.lg_lt _ _ _ hla
        have l2 := tab8.lg_lt _ _ _ hlb
        have c1 := hI.log hla
        have c2 := hI.log hlb
        have c3 := hI.exp (j := la + lb) (by omega)
        have ha : a < 256 := by omega
        have hb : b < 256 := by omega
        generalize tab8.pw ((la + lb) % 255) = p at c3 ⊢
        clear hI hla hlb h h0 h1 hr
        go_enter Try.func48, Try.ntmps48
        go_wp2
        go_quiet (fail)
        go_wp2
        go_ret
        exact ⟨rfl, ⟨_, rfl⟩⟩
  · rw [if_neg hr] at h; cases h

end Go.Proofs.Ytidogckochpbgaa.A
