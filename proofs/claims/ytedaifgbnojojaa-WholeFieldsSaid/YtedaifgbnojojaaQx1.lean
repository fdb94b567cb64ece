-- Printed for this claim by mp.py, a program of its prover, through the kit's print. Lean checks it.
import Derived.Test.YtedaifgbnojojaaQx0
namespace Go.Proofs.Ytedaifgbnojojaa.Q
open Go.RowKit Go.Proofs.YtedaifgbnojojaaW.PrintWords Go.Proofs.YtedaifgbnojojaaW.PrintLast Go.Proofs.YtedaifgbnojojaaW.PrintMore
attribute [local go_sem] max2_int min2_int max_two min_two max_three min_three max_four min_four   -- for this text's walks alone
set_option linter.unusedVariables false
set_option linter.unusedSimpArgs false

/-! ### gf16_New: function 13 -/
/-- The n-th power of x. -/
def tab16.pw : Nat → Nat
  | 0 => 1
  | n + 1 => if 65535 < 2 * tab16.pw n then (2 * tab16.pw n) ^^^ 65581 else 2 * tab16.pw n
def tab16.lg : Nat → Nat → Option Nat
  | 0, _ => none
  | n + 1, a => if tab16.pw n = a then some n else tab16.lg n a
theorem tab16.pw_lt : ∀ n, tab16.pw n < 65536
  | 0 => by decide
  | n + 1 => by
    have := tab16.pw_lt n
    unfold tab16.pw
    split
    · rename_i h
      have h17 : 2 * tab16.pw n < 2 ^ 17 := by omega
      have hx : (2 * tab16.pw n) ^^^ 65581 < 2 ^ 17 := Nat.xor_lt_two_pow h17 (by decide)
      have hb : ((2 * tab16.pw n) ^^^ 65581).testBit 16 = false := by
        rw [Nat.testBit_xor]
        have : (2 * tab16.pw n).testBit 16 = true := by
          rw [Nat.testBit_eq_decide_div_mod_eq, decide_eq_true_eq]; omega
        rw [this]; decide
      rw [Nat.testBit_eq_decide_div_mod_eq, decide_eq_false_iff_not] at hb
      omega
    · omega
def tab16.Is (n : Nat) (cur : Array Value) : Prop := cur.size = 131071 ∧ (∀ j, j < n → cur[j]? = some (.int .u16 (tab16.pw j : Nat))) ∧ ∀ a m, tab16.lg n a = some m → cur[65535 + a]? = some (.int .u16 (m : Nat))
theorem tab16.lg_lt : ∀ n a m, tab16.lg n a = some m → m < n
  | 0, _, _, h => by cases h
  | n + 1, a, m, h => by
    unfold tab16.lg at h
    split at h
    · obtain rfl := Option.some.inj h; omega
    · have := tab16.lg_lt n a m h; omega
/-- A state of type 66 at block g of W; what its slices lead to came in by w0. -/
def IsS66 (w0 W : World) (g : Nat)  : Prop := ∃ cur_ : Array Value, W.heap[g]? = some (.cells cur_ 66 (0, 0)) ∧ tab16.Is 65535 cur_
theorem IsS66.grown {w0 W : World} {g : Nat}  {W1 : World} {row : Option Nat} (h : IsS66 w0 W g ) (hw : W.grownBy W1 row) (hne : some g ≠ row) : IsS66 w0 W1 g  := by
  obtain ⟨cur_, hb, hg⟩ := h
  exact ⟨cur_, blk_grown hb hw hne, hg⟩
theorem IsS66.own_neN {w0 W : World} {g : Nat}  {α : Type} {d : Kd α} {e : Nat} {base : Nat} {ok : Nat → Prop} {v : Value} {xs : List α} (h : IsS66 w0 W g ) (ho : Kd.N d e W base ok v xs) (ht : e ≠ 66) : some g ≠ v.ownBlock := by
  obtain ⟨cur_, hb, hg⟩ := h
  exact Kd.N_ne ho hb ht
theorem IsS66.fresh {w0 W : World} {g : Nat}  (h : IsS66 w0 W g ) : ∀ k, W.heap.size ≤ k → k ≠ g := by
  obtain ⟨cur_, hb, hg⟩ := h
  exact Kd.freshB hb
theorem IsS66.kept {w0 W : World} {g : Nat}  {W1 : World} {S : Nat → Prop} (h : IsS66 w0 W g ) (hk : Kept W W1 S) (hne : ¬ S g) : IsS66 w0 W1 g  := by
  obtain ⟨cur_, hb, hg⟩ := h
  exact ⟨cur_, blk_kept hb hk hne, hg⟩
theorem IsS66.below {w0 W : World} {g : Nat}  {W1 : World} (h : IsS66 w0 W g ) (hw : Below W.heap.size W W1) : IsS66 w0 W1 g  := h.grown (grown_of_below hw none) (by simp)
theorem IsS66.alloc {w0 W : World} {g : Nat}  (h : IsS66 w0 W g ) (o : Obj) : IsS66 w0 (W.alloc o) g  := h.below (below_alloc (Below.refl _ _) o)
theorem IsS66.drewN {w0 W : World} {g : Nat}  (h : IsS66 w0 W g ) (m : Nat) : IsS66 w0 (W.drewN m) g  := h
theorem IsS66.drew {w0 W : World} {g : Nat}  (h : IsS66 w0 W g ) : IsS66 w0 W.drew g  := h
theorem IsS66.at_ {w0 W : World} {g : Nat}  {w' : World} {m : Nat} (hq : W.drewN m = w') (h : IsS66 w0 W g ) : IsS66 w0 w' g  := by subst hq; exact IsS66.drewN h m
theorem IsS66.apart {w0 W : World} {g : Nat}  {α : Type} {d : Kd α} {e : Nat} {base : Nat} {ok : Nat → Prop} {v : Value} {xs : List α} (h : IsS66 w0 W g ) (ho : d.R e W base ok v xs) (ht : ∀ q, q ∈ e :: d.E → q ≠ 66) : d.R e W base (fun k => ok k ∧ k ≠ g) v xs := by
  obtain ⟨cur_, hb, hg⟩ := h
  exact Kd.R_types ho hb ht
theorem IsS66.own_ne {w0 W : World} {g : Nat}  {α : Type} {d : Kd α} {e : Nat} {base : Nat} {ok : Nat → Prop} {v : Value} {xs : List α} (h : IsS66 w0 W g ) (ho : d.R e W base ok v xs) (ht : e ≠ 66) : some g ≠ v.ownBlock := by
  obtain ⟨cur_, hb, hg⟩ := h
  exact Kd.R_ne ho hb ht
theorem IsS66.apartQ {w0 W : World} {g : Nat}  {α : Type} {d : Kd α} {e : Nat} {base : Nat} {ok : Nat → Prop} {v : Value} {xs : List α} (h : IsS66 w0 W g ) (ho : d.Q e W base ok v xs) (ht : ∀ q, q ∈ e :: d.E → q ≠ 66) : d.Q e W base (fun k => ok k ∧ k ≠ g) v xs := by
  obtain ⟨cur_, hb, hg⟩ := h
  exact Kd.Q_types ho hb ht
theorem IsS66.own_neQ {w0 W : World} {g : Nat}  {α : Type} {d : Kd α} {e : Nat} {base : Nat} {ok : Nat → Prop} {v : Value} {xs : List α} (h : IsS66 w0 W g ) (ho : d.Q e W base ok v xs) (ht : e ≠ 66) : some g ≠ v.ownBlock := by
  obtain ⟨cur_, hb, hg⟩ := h
  exact Kd.Q_ne ho hb ht
theorem IsS66.apartS {w0 W : World} {g : Nat}  {α : Type} {d : Kd α} {e : Nat} {base : Nat} {ok : Nat → Prop} {v : Value} {xs : List α} (h : IsS66 w0 W g ) (ho : d.S e W base ok v xs) (ht : ∀ q, q ∈ e :: d.E → q ≠ 66) : d.S e W base (fun k => ok k ∧ k ≠ g) v xs := by
  obtain ⟨cur_, hb, hg⟩ := h
  exact Kd.S_types ho hb ht
theorem IsS66.own_neS {w0 W : World} {g : Nat}  {α : Type} {d : Kd α} {e : Nat} {base : Nat} {ok : Nat → Prop} {v : Value} {xs : List α} (h : IsS66 w0 W g ) (ho : d.S e W base ok v xs) (ht : e ≠ 66) : some g ≠ v.ownBlock := by
  obtain ⟨cur_, hb, hg⟩ := h
  exact Kd.S_ne ho hb ht
theorem IsS66.lt {w0 W : World} {g : Nat}  (h : IsS66 w0 W g ) : g < W.heap.size := by
  obtain ⟨cur_, hb, hg⟩ := h
  exact blk_lt hb
theorem IsS66.ne_blk {w0 W : World} {g : Nat}  {a : Nat} {cs : Array Value} {t : TypeId} {fr : Nat × Nat} (h : IsS66 w0 W g ) (hb2 : W.heap[a]? = some (.cells cs t fr)) (ht : t ≠ 66) : g ≠ a := by
  obtain ⟨cur_, hb, hg⟩ := h
  rintro rfl
  rw [hb] at hb2
  injection hb2 with hb2
  injection hb2 with _ ht2
  exact ht ht2.symm
theorem IsS66.far {w0 W : World} {g : Nat}  {p : Addr} (h : IsS66 w0 W g ) (hne : g ≠ p.block) (u : Value) : IsS66 w0 (W.setCell p u) g  := by
  obtain ⟨cur_, hb, hg⟩ := h
  exact ⟨cur_, blk_far hb hne u, hg⟩
theorem IsS66.exp {w0 w : World} {g : Nat} (h : IsS66 w0 w g) {j : Nat} (hj : j < 65535) : w.cell? ⟨g, j, none⟩ = some (.int .u16 (tab16.pw j : Nat)) := by
  obtain ⟨cur, hh, _, he, _⟩ := h
  exact (cell_of_row w g j cur 66 (0, 0) hh).trans (he j hj)
theorem IsS66.log {w0 w : World} {g : Nat} (h : IsS66 w0 w g) {a m : Nat} (hm : tab16.lg 65535 a = some m) : w.cell? ⟨g, 65535 + a, none⟩ = some (.int .u16 (m : Nat)) := by
  obtain ⟨cur, hh, _, _, hl⟩ := h
  exact (cell_of_row w g (65535 + a) cur 66 (0, 0) hh).trans (hl a m hm)
theorem wpList_build {P : Program} {ops : Array Oper} {rest : List Oper} {o : Oper} {a : Act} {Q : Exit → Act → World → Prop} {w : World} (hg : o.guard = none) (t : TypeId) (ho : o.op = .build t #[]) (Z : Array Value) (hZ : P.built t [] = some Z)
    (h : wpList P ops Q rest (a.put o.dst (.agg Z)) w) : wpList P ops Q (o :: rest) a w := by
  refine wpList_plain hg fun K hK => wp_build t #[] ho (by simp [hZ]) ?_
  simp [hZ]
  exact hK _ _ h
theorem built16 : ∃ Z : Array Value, Try.prog.built 66 [] = some Z ∧ Z.size = 131071 := by
  have h1 : Try.prog.info? 66 = some Try.t66 := by kernel_rfl
  have h2 : (Try.t66.zero.map (fun z => z.cells.size)) = some 131071 := by kernel_rfl
  obtain ⟨z, hz, hs⟩ := Option.map_eq_some_iff.1 h2
  refine ⟨z.cells, ?_, hs⟩
  unfold Program.built
  rw [h1, Try.underlying66]
  simp only [hz]
  rfl
theorem tb_xor {a b : Nat} (ha : a < 2 ^ 62) (hb : b < 2 ^ 62) : Go.bits .xor .i64 a b = ((a ^^^ b : Nat) : Int) := by
  have hx : a ^^^ b < 2 ^ 62 := Nat.xor_lt_two_pow ha hb
  unfold Go.bits
  show IntKind.i64.wrap (((BitVec.ofInt 64 (a : Int) ^^^ BitVec.ofInt 64 (b : Int)).toNat : Nat) : Int) = _
  rw [BitVec.ofInt_natCast, BitVec.ofInt_natCast, BitVec.toNat_xor, BitVec.toNat_ofNat, BitVec.toNat_ofNat, Nat.mod_eq_of_lt (by omega), Nat.mod_eq_of_lt (by omega), IntKind.wrap_i64]
  omega
theorem tab16.next_hi {n x : Nat} (hx : x = tab16.pw n) (h : 65535 < x * 2) : Value.int .i64 ((tab16.pw (n + 1) : Nat) : Int) = Value.int .i64 (Go.bits .xor .i64 ((x : Int) * 2) 65581) := by
  have hp := tab16.pw_lt n
  have e := tb_xor (a := 2 * x) (b := 65581) (by omega) (by decide)
  rw [show ((2 * x : Nat) : Int) = (x : Int) * 2 by omega, show ((65581 : Nat) : Int) = 65581 from rfl] at e
  rw [e, tab16.pw, ← hx, if_pos (by omega)]
theorem tab16.next_lo {n x : Nat} (hx : x = tab16.pw n) (h : ¬ 65535 < x * 2) : Value.int .i64 ((tab16.pw (n + 1) : Nat) : Int) = Value.int .i64 ((x : Int) * 2) := by
  rw [tab16.pw, ← hx, if_neg (by omega), show ((2 * x : Nat) : Int) = (x : Int) * 2 by omega]
theorem tab16.Is_next {n : Nat} (hlt : n < 65535) {cur : Array Value} (hs : cur.size = 131071) (he : ∀ j, j < n → cur[j]? = some (.int .u16 (tab16.pw j : Nat))) (hl : ∀ a m, tab16.lg n a = some m → cur[65535 + a]? = some (.int .u16 (m : Nat))) :
    tab16.Is (n + 1) ((cur.setIfInBounds n (.int .u16 ((tab16.pw n : Nat) : Int))).setIfInBounds (65535 + tab16.pw n) (.int .u16 (n : Nat))) := by
  have hp := tab16.pw_lt n
  refine ⟨by simp [hs], fun j hj => ?_, fun a m hm => ?_⟩
  · rw [Array.getElem?_setIfInBounds_ne (by omega)]
    by_cases e : j = n
    · subst e
      rw [Array.getElem?_setIfInBounds_self_of_lt (by omega)]
    · rw [Array.getElem?_setIfInBounds_ne (by omega)]
      exact he j (by omega)
  · unfold tab16.lg at hm
    by_cases e : tab16.pw n = a
    · rw [if_pos e] at hm
      subst e
      obtain rfl := Option.some.inj hm
      rw [Array.getElem?_setIfInBounds_self_of_lt (by simp; omega)]
    · rw [if_neg e] at hm
      rw [Array.getElem?_setIfInBounds_ne (by omega), Array.getElem?_setIfInBounds_ne (by omega)]
      exact hl a m hm
def gf16_New.f : Option Unit := some ()
set_option maxHeartbeats 4000000 in
set_option maxRecDepth 100000 in
theorem gf16_New.calls (w0 w : World) (hB : Below w0.heap.size w0 w) (_h : gf16_New.f = some ()) : Calls Try.prog 13 #[] w fun e w' => ∃ g_ : Nat, e = .returned (.pointer (some ⟨g_, 0, none⟩)) ∧ IsS66 w0 w' g_ ∧ Below w0.heap.size w0 w' ∧ Below w.heap.size w w' := by
  obtain ⟨Z, hZ, hZs⟩ := built16
  go_enter Try.func13, Try.ntmps13
  go_wp2_with (first | (refine wpList_build rfl 66 rfl Z hZ ?_))
  go_loopw [2, 6] (fun v2 v6 wr => ∃ n : Nat, n ≤ 65535 ∧ v6 = .int .i64 n ∧ v2 = .int .i64 (tab16.pw n : Nat) ∧ (∃ cur, wr.heap[w.heap.size]? = some (.cells cur 66 (0, 0)) ∧ tab16.Is n cur) ∧ Below w.heap.size w wr) (fun _ v6 _ => 65535 - (intOf v6).toNat)
  case atStart =>
    have hb0 := below_alloc (Below.refl w.heap.size w) (Obj.cells Z 66)
    exact ⟨0, by omega, by rfl, by rfl, ⟨Z, by simpa using heap_alloc_new w _, hZs, fun j hj => absurd hj (by omega), fun a m hm => by cases hm⟩, hb0⟩
  case round =>
    obtain ⟨n, hn, rfl, rfl, ⟨cur, hh, hs, he, hl⟩, hbw⟩ := hrel
    by_cases hlt : n < 65535
    · have hd : decide ((n : Int) < 65535) = true := decide_eq_true (by omega)
      have hp := tab16.pw_lt n
      obtain ⟨x, hx⟩ : ∃ x, x = tab16.pw n := ⟨_, rfl⟩
      rw [← hx] at hp ⊢
      have HX := Aside0.mk hx
      obtain ⟨u1, hu1⟩ : ∃ u, wr.cell? ⟨w.heap.size, n, none⟩ = some u := ⟨_, (cell_of_row wr _ n cur 66 (0, 0) hh).trans (Array.getElem?_eq_getElem (by omega))⟩
      have hf1 : wr.frozen? ⟨w.heap.size, n, none⟩ = false := blk_frozen hh _
      have hh1 := blk_set hh n (.int .u16 (x : Int))
      have hh2 := blk_set hh1 (65535 + x) (.int .u16 (n : Int))
      obtain ⟨u2, hu2⟩ : ∃ u, (wr.setCell ⟨w.heap.size, n, none⟩ (.int .u16 (x : Int))).cell? ⟨w.heap.size, 65535 + x, none⟩ = some u := ⟨_, (cell_of_row _ _ (65535 + x) _ 66 (0, 0) hh1).trans (Array.getElem?_eq_getElem (by simp; omega))⟩
      have hf2 : (wr.setCell ⟨w.heap.size, n, none⟩ (.int .u16 (x : Int))).frozen? ⟨w.heap.size, 65535 + x, none⟩ = false := blk_frozen hh1 _
      have HH1 := Aside0.mk hh1
      have HH2 := Aside0.mk hh2
      clear hh1 hh2
      have HE := Aside0.mk he
      have HL := Aside0.mk hl
      have HS := Aside0.mk hs
      have HH := Aside0.mk hh
      clear he hl hx hs hh
      clear hZ hZs
      have hIs := tab16.Is_next hlt HS.out HE.out HL.out
      rw [← HX.out] at hIs
      have HIs := Aside0.mk hIs
      clear hIs
      have hB1 : Below w.heap.size w ((wr.setCell ⟨w.heap.size, n, none⟩ (.int .u16 (x : Int))).setCell ⟨w.heap.size, 65535 + x, none⟩ (.int .u16 (n : Int))) := below_set (below_set hbw (Nat.le_refl _)) (Nat.le_refl _)
      have HB1 := Aside0.mk hB1
      clear hB1
      by_cases hgt : 65535 < x * 2
      · have hg1 : decide (65535 < (x : Int) * 2) = true := decide_eq_true (by omega)
        go_wp2
        go_roundw
        case rel => exact ⟨n + 1, by omega, by go_num, by rw [← tab16.next_hi HX.out hgt], ⟨_, HH2.out, HIs.out⟩, HB1.out⟩
        case measure => simp [intOf]; omega
      · have hg1 : decide (65535 < (x : Int) * 2) = false := decide_eq_false (by omega)
        go_wp2
        go_roundw
        case rel => exact ⟨n + 1, by omega, by go_num, by rw [← tab16.next_lo HX.out hgt], ⟨_, HH2.out, HIs.out⟩, HB1.out⟩
        case measure => simp [intOf]; omega
    · have hd : decide ((n : Int) < 65535) = false := decide_eq_false (by omega)
      obtain rfl : n = 65535 := by omega
      go_wp2
      go_ret
      exact ⟨w.heap.size, rfl, ⟨cur, hh, hs, he, hl⟩, below_step hB hbw, hbw⟩

/-! ### gf16_residue: function 41 -/
def gf16_residue.f (a0 : Int) : Option (Int) := if (Int.tmod a0 65535) < 0 then (some (wrap64 ((Int.tmod a0 65535) + 65535))) else (some (Int.tmod a0 65535))
set_option maxHeartbeats 8000000 in
set_option maxRecDepth 100000 in
theorem gf16_residue.calls (a0 : Int) (r : Int) (w : World) (h : gf16_residue.f a0 = some r) :
    Calls Try.prog 41 #[.int .i64 a0] w fun e w' => e = .returned (.int .i64 r) ∧ Drawn0 w w' := by
  have H : (if (Int.tmod a0 65535) < 0 then (some (wrap64 ((Int.tmod a0 65535) + 65535))) else (some (Int.tmod a0 65535))) = some r := h
  clear h
  by_cases c2 : (Int.tmod a0 65535) < 0
  · rw [if_pos c2] at H
    have c2b0 : decide ((Int.tmod a0 65535) < 0) = true := decide_eq_true c2
    clear c2
    obtain rfl := Option.some.inj H
    go_enter Try.func41, Try.ntmps41
    go_wp2
    go_ret
    exact ⟨by first | rfl | (simp; done) | (simp [*]; done), by repeat (first | exact Drawn0.refl _ | apply Drawn0.step)⟩
  · rw [if_neg c2] at H
    have c2b0 : decide ((Int.tmod a0 65535) < 0) = false := decide_eq_false c2
    clear c2
    obtain rfl := Option.some.inj H
    go_enter Try.func41, Try.ntmps41
    go_wp2
    go_ret
    exact ⟨by first | rfl | (simp; done) | (simp [*]; done), by repeat (first | exact Drawn0.refl _ | apply Drawn0.step)⟩

/-! ### gf16_Tables_Exp: function 14 -/
theorem quiet_of_drawn {P : Program} {f : FuncId} {args : Array Value} {w : World} {n : Nat} {v : Value} (h : Calls P f args (w.drewN n) fun e w' => e = .returned v ∧ Drawn0 (w.drewN n) w') :
    Calls P f args (w.drewN n) fun e w'' => e = .returned v ∧ ∃ m, w'' = w.drewN m := by
  refine h.mono ?_
  rintro e w' ⟨he, m, hm⟩
  exact ⟨he, n + m, by rw [hm, World.drewN_drewN]⟩
def gf16_Tables_Exp.f (a0 : Int) : Option Int := (gf16_residue.f a0).bind fun t => if 0 ≤ t ∧ t < 65535 then some ((tab16.pw t.toNat : Nat) : Int) else none
set_option maxHeartbeats 4000000 in
set_option maxRecDepth 100000 in
theorem gf16_Tables_Exp.calls (g : Nat) (a0 r : Int) (w : World) (hI : IsS66 w w g) (h : gf16_Tables_Exp.f a0 = some r) : Calls Try.prog 14 #[.pointer (some ⟨g, 0, none⟩), .int .i64 a0] w fun e w' => e = .returned (.int .u16 r) ∧ Drawn0 w w' := by
  unfold gf16_Tables_Exp.f at h
  obtain ⟨t, ht, h⟩ := Option.bind_eq_some_iff.1 h
  by_cases hr : 0 ≤ t ∧ t < 65535
  · rw [if_pos hr] at h
    obtain ⟨m, rfl⟩ : ∃ m : Nat, t = (m : Int) := ⟨t.toNat, by omega⟩
    rw [Int.toNat_natCast] at h
    obtain rfl := Option.some.inj h
    have hm : m < 65535 := by omega
    have c3 := hI.exp (j := m) hm
    have HT := Aside0.mk ht
    generalize tab16.pw m = p at c3 ⊢
    clear hI h hr ht
    go_enter Try.func14, Try.ntmps14
    go_wp2
    go_quiet ((go_at_call 41; exact quiet_of_drawn (gf16_residue.calls _ _ _ HT.out)))
    go_wp2
    go_ret
    exact ⟨rfl, ⟨_, rfl⟩⟩
  · rw [if_neg hr] at h; cases h

/-! ### bits_Len64: function 77 -/
def bits_Len64.f (a0 : Int) : Option (Int) := if 0 ≤ a0 then (if a0 ≤ 18446744073709551615 then (some (Lib.bitLen a0.toNat : Int)) else none) else none
theorem bits_Len64.calls (a0 : Int) (r : Int) (w : World) (h : bits_Len64.f a0 = some r) :
    Calls Try.prog 77 #[.int .u64 a0] w fun e w' => e = .returned (.int .i64 r) ∧ Drawn0 w w' := by
  unfold bits_Len64.f at h
  by_cases h0 : 0 ≤ a0
  · rw [if_pos h0] at h
    by_cases h1 : a0 ≤ 18446744073709551615
    · rw [if_pos h1] at h
      obtain rfl := Option.some.inj h
      refine (Try.bits_Len64 a0 w h0 h1).mono ?_
      rintro e w' ⟨rfl, rfl⟩
      exact ⟨rfl, Drawn0.refl _⟩
    · rw [if_neg h1] at h; exact absurd h (by simp)
  · rw [if_neg h0] at h; exact absurd h (by simp)

/-! ### ring_Degree: function 73 -/
def ring_Degree.f (a0 : Int) : Option (Int) := (bits_Len64.f a0).bind fun t101 => (some (wrap64 (t101 - 1)))
set_option maxHeartbeats 8000000 in
set_option maxRecDepth 100000 in
theorem ring_Degree.calls (a0 : Int) (r : Int) (w : World) (h : ring_Degree.f a0 = some r) :
    Calls Try.prog 73 #[.int .u64 a0] w fun e w' => e = .returned (.int .i64 r) ∧ Drawn0 w w' := by
  have H : ((bits_Len64.f a0).bind fun t101 => (some (wrap64 (t101 - 1)))) = some r := h
  clear h
  replace H := Option.bind_eq_some_iff.mp H
  obtain ⟨t101, A20, H⟩ := H
  replace H : (some (wrap64 (t101 - 1))) = some r := H
  have A2 := Aside0.mk A20
  clear A20
  obtain rfl := Option.some.inj H
  go_enter Try.func73, Try.ntmps73
  go_wp2_with (first | ((with_reducible refine gate_callee (f := 77) rfl ?_); refine goesL_ (some 4) rfl rfl Try.func77 (by kernel_rfl) rfl #[.int .u64 a0] rfl (by (try simp only [List.map_toArray, List.map_cons, List.map_nil]); first | done | rfl | (simp only [tb_wrap8]; done) | (simp only [tb_wrap8]; rfl) | (simp only [List.length_drop, List.length_take]; rfl)) ?_; (with_reducible refine (bits_Len64.calls a0 t101 _ A2.out).mono ?_); rintro e w' ⟨rfl, ⟨nd, rfl⟩⟩; refine ⟨_, rfl, ?_⟩))
  go_ret
  exact ⟨by first | rfl | (simp; done) | (simp [*]; done), by repeat (first | exact Drawn0.refl _ | apply Drawn0.step)⟩

/-! ### ring_isModulus: function 59 -/
def ring_isModulus.f (a0 : Int) (a1 : Int) : Option (Bool) := (ring_Degree.f a0).bind fun t102 => (if t102 ≥ 1 then (some (decide (t102 ≤ a1))) else (some false))
set_option maxHeartbeats 8000000 in
set_option maxRecDepth 100000 in
theorem ring_isModulus.calls (a0 : Int) (a1 : Int) (r : Bool) (w : World) (h : ring_isModulus.f a0 a1 = some r) :
    Calls Try.prog 59 #[.int .u64 a0, .int .i64 a1] w fun e w' => e = .returned (.bool r) ∧ Drawn0 w w' := by
  have H : ((ring_Degree.f a0).bind fun t102 => (if t102 ≥ 1 then (some (decide (t102 ≤ a1))) else (some false))) = some r := h
  clear h
  replace H := Option.bind_eq_some_iff.mp H
  obtain ⟨t102, A30, H⟩ := H
  replace H : (if t102 ≥ 1 then (some (decide (t102 ≤ a1))) else (some false)) = some r := H
  have A3 := Aside0.mk A30
  clear A30
  by_cases c4 : t102 ≥ 1
  · rw [if_pos c4] at H
    have c4b0 : decide (1 ≤ t102) = true := decide_eq_true c4
    clear c4
    obtain rfl := Option.some.inj H
    go_enter Try.func59, Try.ntmps59
    go_wp2_with (first | ((with_reducible refine gate_callee (f := 73) rfl ?_); refine goesL_ (some 7) rfl rfl Try.func73 (by kernel_rfl) rfl #[.int .u64 a0] rfl (by (try simp only [List.map_toArray, List.map_cons, List.map_nil]); first | done | rfl | (simp only [tb_wrap8]; done) | (simp only [tb_wrap8]; rfl) | (simp only [List.length_drop, List.length_take]; rfl)) ?_; (with_reducible refine (ring_Degree.calls a0 t102 _ A3.out).mono ?_); rintro e w' ⟨rfl, ⟨nd, rfl⟩⟩; refine ⟨_, rfl, ?_⟩))
    go_ret
    exact ⟨by first | rfl | (simp; done) | (simp [*]; done), by repeat (first | exact Drawn0.refl _ | apply Drawn0.step)⟩
  · rw [if_neg c4] at H
    have c4b0 : decide (1 ≤ t102) = false := decide_eq_false c4
    clear c4
    obtain rfl := Option.some.inj H
    go_enter Try.func59, Try.ntmps59
    go_wp2_with (first | ((with_reducible refine gate_callee (f := 73) rfl ?_); refine goesL_ (some 7) rfl rfl Try.func73 (by kernel_rfl) rfl #[.int .u64 a0] rfl (by (try simp only [List.map_toArray, List.map_cons, List.map_nil]); first | done | rfl | (simp only [tb_wrap8]; done) | (simp only [tb_wrap8]; rfl) | (simp only [List.length_drop, List.length_take]; rfl)) ?_; (with_reducible refine (ring_Degree.calls a0 t102 _ A3.out).mono ?_); rintro e w' ⟨rfl, ⟨nd, rfl⟩⟩; refine ⟨_, rfl, ?_⟩))
    go_ret
    exact ⟨by first | rfl | (simp; done) | (simp [*]; done), by repeat (first | exact Drawn0.refl _ | apply Drawn0.step)⟩

/-! ### ring_divMod: function 63 -/
def ring_divMod.l0 : Nat → Int → Int → Int → Int → Option (Int × Int)
  | 0, _, _, _, _ => none
  | k + 1, x0, x1, x4, x6 => (ring_Degree.f x0).bind fun t104 => (if (wrap64 (t104 - x6)) < 0 then (some (x4, x0)) else (if 0 ≤ (wrap64 (t104 - x6)) then (ring_divMod.l0 k (Go.bits .xor .u64 x0 (shl .u64 x1 (wrap64 (t104 - x6)))) x1 (Go.bits .or .u64 x4 (shl .u64 1 (wrap64 (t104 - x6)))) x6) else (none)))
def ring_divMod.f (k : Nat) (a0 : Int) (a1 : Int) : Option (Int × Int) := (ring_Degree.f a1).bind fun t103 => (ring_divMod.l0 k a0 a1 0 t103)
theorem ring_divMod.mono_l : ∀ k, (∀ y0 y1 y2 y3, LeO (ring_divMod.l0 k y0 y1 y2 y3) (ring_divMod.l0 (k + 1) y0 y1 y2 y3))
  | 0 => fun _ _ _ _ r h => by simp [ring_divMod.l0] at h
  | k + 1 => by
    have ih0 := ring_divMod.mono_l k
    · intro y0 y1 y2 y3
      unfold ring_divMod.l0
      repeat' first
      | (with_reducible exact ih0 _ _ _ _)
      | (with_reducible exact LeO.refl _)
      | (with_reducible exact LeO.none _)
      | (with_reducible refine LeO.ite ?_ ?_)
      | (with_reducible refine LeO.bind ?_ (fun _ => ?_))
      | exact ih0 _ _ _ _
      | exact LeO.none _
      | refine LeO.ite ?_ ?_
      | refine LeO.bind ?_ (fun _ => ?_)
theorem ring_divMod.mono : ∀ a0 a1 k, LeO (ring_divMod.f k a0 a1) (ring_divMod.f (k + 1) a0 a1) := by
  intro a0 a1 k
  have ih0 := ring_divMod.mono_l k
  unfold ring_divMod.f
  repeat' first
      | (with_reducible exact ih0 _ _ _ _)
      | (with_reducible exact LeO.refl _)
      | (with_reducible exact LeO.none _)
      | (with_reducible refine LeO.ite ?_ ?_)
      | (with_reducible refine LeO.bind ?_ (fun _ => ?_))
      | exact ih0 _ _ _ _
      | exact LeO.none _
      | refine LeO.ite ?_ ?_
      | refine LeO.bind ?_ (fun _ => ?_)
set_option maxHeartbeats 8000000 in
set_option maxRecDepth 100000 in
theorem ring_divMod.calls (k : Nat) (a0 : Int) (a1 : Int) (r1 : Int) (r2 : Int) (w : World) (h : ring_divMod.f k a0 a1 = some (r1, r2)) :
    Calls Try.prog 63 #[.int .u64 a0, .int .u64 a1] w fun e w' => e = .returned (.tuple #[.int .u64 r1, .int .u64 r2]) ∧ Drawn0 w w' := by
  have H : ((ring_Degree.f a1).bind fun t103 => (ring_divMod.l0 k a0 a1 0 t103)) = some (r1, r2) := h
  clear h
  replace H := Option.bind_eq_some_iff.mp H
  obtain ⟨t103, A30, H⟩ := H
  replace H : (ring_divMod.l0 k a0 a1 0 t103) = some (r1, r2) := H
  have A3 := Aside0.mk A30
  clear A30
  have H' := Aside0.mk H
  clear H
  go_enter Try.func63, Try.ntmps63
  go_wp2_with (first | ((with_reducible refine gate_callee (f := 73) rfl ?_); refine goesL_ (some 9) rfl rfl Try.func73 (by kernel_rfl) rfl #[.int .u64 a1] rfl (by (try simp only [List.map_toArray, List.map_cons, List.map_nil]); first | done | rfl | (simp only [tb_wrap8]; done) | (simp only [tb_wrap8]; rfl) | (simp only [List.length_drop, List.length_take]; rfl)) ?_; (with_reducible refine (ring_Degree.calls a1 t103 _ A3.out).mono ?_); rintro e w' ⟨rfl, ⟨nd, rfl⟩⟩; refine ⟨_, rfl, ?_⟩))
  go_loopg [0, 4] k (fun kq v0 v4 w' => ∃ (x0_1 : Int) (x4_1 : Int), v0 = .int .u64 x0_1 ∧ v4 = .int .u64 x4_1 ∧ Aside0 (ring_divMod.l0 kq x0_1 a1 x4_1 t103 = some (r1, r2)) ∧ Aside0 (kq ≤ k) ∧ Drawn0 w w')
  case atStart => exact ⟨(a0), (0), (by first | rfl | (simp; done) | (simp [*]; done)), (by first | rfl | (simp; done) | (simp [*]; done)), H', ⟨Nat.le_refl _⟩, by repeat (first | exact Drawn0.refl _ | apply Drawn0.step)⟩
  case round =>
    clear H'
    try clear p2
    obtain ⟨x0_1, x4_1, rfl, rfl, HA, HK1, ⟨m1, rfl⟩⟩ := hrel
    cases gk with
    | zero => exact absurd HA.out (by simp [ring_divMod.l0])
    | succ k1 =>
      have H := HA.out
      clear HA
      simp only [ring_divMod.l0] at H
      replace H := Option.bind_eq_some_iff.mp H
      obtain ⟨t104, A40, H⟩ := H
      replace H : (if (wrap64 (t104 - t103)) < 0 then (some (x4_1, x0_1)) else (if 0 ≤ (wrap64 (t104 - t103)) then (ring_divMod.l0 k1 (Go.bits .xor .u64 x0_1 (shl .u64 a1 (wrap64 (t104 - t103)))) a1 (Go.bits .or .u64 x4_1 (shl .u64 1 (wrap64 (t104 - t103)))) t103) else (none))) = some (r1, r2) := H
      have A4 := Aside0.mk A40
      clear A40
      by_cases c5 : (wrap64 (t104 - t103)) < 0
      · rw [if_pos c5] at H
        have c5b0 : decide ((wrap64 (t104 - t103)) < 0) = true := decide_eq_true c5
        clear c5
        simp only [Option.some.injEq, Prod.mk.injEq] at H
        obtain ⟨rfl, rfl⟩ := H
        go_wp2_with (first | ((with_reducible refine gate_callee (f := 73) rfl ?_); refine goesL_ (some 11) rfl rfl Try.func73 (by kernel_rfl) rfl #[.int .u64 x0_1] rfl (by (try simp only [List.map_toArray, List.map_cons, List.map_nil]); first | done | rfl | (simp only [tb_wrap8]; done) | (simp only [tb_wrap8]; rfl) | (simp only [List.length_drop, List.length_take]; rfl)) ?_; (with_reducible refine (ring_Degree.calls x0_1 t104 _ A4.out).mono ?_); rintro e w' ⟨rfl, ⟨nd, rfl⟩⟩; refine ⟨_, rfl, ?_⟩))
        go_ret2
        exact ⟨by first | rfl | (simp; done) | (simp [*]; done), by repeat (first | exact Drawn0.refl _ | apply Drawn0.step)⟩
      · rw [if_neg c5] at H
        have c5b0 : decide ((wrap64 (t104 - t103)) < 0) = false := decide_eq_false c5
        clear c5
        obtain ⟨ji6, hji6⟩ : ∃ j_ : Int, (wrap64 (t104 - t103)) = j_ := ⟨_, rfl⟩
        replace H : (if 0 ≤ (ji6) then (ring_divMod.l0 k1 (Go.bits .xor .u64 x0_1 (shl .u64 a1 (ji6))) a1 (Go.bits .or .u64 x4_1 (shl .u64 1 (ji6))) t103) else (none)) = some (r1, r2) := by first | (rw [hji6] at H; exact H) | (simp only [hji6] at H ⊢; exact H)
        (try rw [hji6] at c5b0)
        (try rw [hji6] at A4)
        have hji6w : (IntKind.i64.wrap (t104 - t103)) = ji6 := (i64_w _).trans hji6
        by_cases c7 : 0 ≤ (ji6)
        · rw [if_pos c7] at H
          have c7b0 := eq_true c7
          have c7b1 : decide (0 ≤ (ji6)) = true := decide_eq_true c7
          clear c7
          obtain ⟨ji8, hji8⟩ : ∃ j_ : Int, (shl .u64 1 (ji6)) = j_ := ⟨_, rfl⟩
          replace H : (ring_divMod.l0 k1 (Go.bits .xor .u64 x0_1 (shl .u64 a1 (ji6))) a1 (Go.bits .or .u64 x4_1 (ji8)) t103) = some (r1, r2) := by first | (rw [hji8] at H; exact H) | (simp only [hji8] at H ⊢; exact H)
          (try rw [hji8] at A4)
          have hji8_ : (IntKind.u64.wrap (1 * 2 ^ min (ji6).toNat 64)) = ji8 := hji8
          have hji8z : (ji6) ≤ 64 → (IntKind.u64.wrap (1 * 2 ^ (ji6).toNat)) = ji8 := shl_small hji8
          have hji8u : (IntKind.u64.wrap (2 ^ min (ji6).toNat 64)) = ji8 := by have h_ := hji8_; rw [Int.one_mul] at h_; exact h_
          have hji8v : (ji6) ≤ 64 → (IntKind.u64.wrap (2 ^ (ji6).toNat)) = ji8 := fun hle_ => by have h_ := hji8z hle_; rw [Int.one_mul] at h_; exact h_
          have c9b0 := eq_true (of_decide_eq_true (by first | (with_reducible assumption) | assumption) : 0 ≤ (ji6))
          obtain ⟨ji10, hji10⟩ : ∃ j_ : Int, (shl .u64 a1 (ji6)) = j_ := ⟨_, rfl⟩
          replace H : (ring_divMod.l0 k1 (Go.bits .xor .u64 x0_1 (ji10)) a1 (Go.bits .or .u64 x4_1 (ji8)) t103) = some (r1, r2) := by first | (rw [hji10] at H; exact H) | (simp only [hji10] at H ⊢; exact H)
          (try rw [hji10] at A4)
          have hji10_ : (IntKind.u64.wrap (a1 * 2 ^ min (ji6).toNat 64)) = ji10 := hji10
          have hji10z : (ji6) ≤ 64 → (IntKind.u64.wrap (a1 * 2 ^ (ji6).toNat)) = ji10 := shl_small hji10
          have H' := Aside0.mk H
          clear H
          go_wp2_with (first | ((with_reducible refine gate_callee (f := 73) rfl ?_); refine goesL_ (some 11) rfl rfl Try.func73 (by kernel_rfl) rfl #[.int .u64 x0_1] rfl (by (try simp only [List.map_toArray, List.map_cons, List.map_nil]); first | done | rfl | (simp only [tb_wrap8]; done) | (simp only [tb_wrap8]; rfl) | (simp only [List.length_drop, List.length_take]; rfl)) ?_; (with_reducible refine (ring_Degree.calls x0_1 t104 _ A4.out).mono ?_); rintro e w' ⟨rfl, ⟨nd, rfl⟩⟩; refine ⟨_, rfl, ?_⟩))
          go_roundg k1
          case measure => have := HK1.out; omega
          case rel => exact ⟨(Go.bits .xor .u64 x0_1 (ji10)), (Go.bits .or .u64 x4_1 (ji8)), (by first | rfl | (simp; done) | (simp only [← hji10] <;> (first | rfl | simp)) | (simp [*]; done)), (by first | rfl | (simp; done) | (simp only [← hji8] <;> (first | rfl | simp)) | (simp [*]; done)), H', ⟨by have := HK1.out; omega⟩, by repeat (first | exact Drawn0.refl _ | apply Drawn0.step)⟩
        · rw [if_neg c7] at H
          exact absurd H (by simp)

end Go.Proofs.Ytedaifgbnojojaa.Q
