/- Texts of polynomials: the program's Parse. -/
import Derived.Test.YthldahaimcdejaaDoorRJ
import Derived.Laws.RangeAny

namespace Go.Proofs.YthldahaimcdejaaDoor.A
open Go.RowKit Go.Deep Go.Proofs.YthldahaimcdejaaDoorW.PrintWords Go.Proofs.YthldahaimcdejaaDoorW.PrintLast Go.Proofs.YthldahaimcdejaaDoorW.PrintMore GP
set_option linter.unusedVariables false
set_option linter.unusedSimpArgs false
set_option maxRecDepth 100000
/-- Parse's four variables and its iterator, in memory. -/
structure H4 (w : World) (q : RT.St) (s : ByteArray) (pos : Nat) (V : World) : Prop where
  bp : V.heap[w.heap.size]? = some (.cells #[.int .u64 (q.p : Int)] 24 (0, 0))
  ba : V.heap[w.heap.size + 1]? = some (.cells #[.int .i64 (q.at' : Int)] 3 (0, 0))
  bx : V.heap[w.heap.size + 1 + 1]? = some (.cells #[.bool q.inX] 4 (0, 0))
  bn : V.heap[w.heap.size + 1 + 1 + 1]? = some (.cells #[.bool q.inN] 4 (0, 0))
  it : V.heap[w.heap.size + 1 + 1 + 1 + 1]? = some (.stringIter s pos)
  be : Below w.heap.size w V
theorem far {V : World} {b : Nat} {o : Obj} (h : V.heap[b]? = some o) {p : Addr} (hp : b ≠ p.block) (u : Value) : (V.setCell p u).heap[b]? = some o := (Below.heap_setCell V p u b hp).trans h
theorem be_set {w V : World} (h : Below w.heap.size w V) {k : Nat} (hk : w.heap.size ≤ k) (u : Value) : Below w.heap.size w (V.setCell ⟨k, 0, none⟩ u) :=
  ⟨h.os, h.tape, h.output, by simpa [World.setCell] using h.size, fun b hb => (Below.heap_setCell V _ u b (by show b ≠ k; omega)).trans (h.block b hb)⟩
theorem H4.drew {w : World} {q : RT.St} {s : ByteArray} {pos : Nat} {V : World} (h : H4 w q s pos V) (n : Nat) : H4 w q s pos (V.drewN n) := ⟨h.bp, h.ba, h.bx, h.bn, h.it, pw_below_drewN h.be n⟩
theorem H4.drew1 {w : World} {q : RT.St} {s : ByteArray} {pos : Nat} {V : World} (h : H4 w q s pos V) : H4 w q s pos V.drew := ⟨h.bp, h.ba, h.bx, h.bn, h.it, below_drew1 h.be⟩
theorem H4.putp {w : World} {q : RT.St} {s : ByteArray} {pos : Nat} {V : World} (h : H4 w q s pos V) (x : Nat) : H4 w { q with p := x } s pos (V.setCell ⟨w.heap.size, 0, none⟩ (.int .u64 (x : Int))) :=
  ⟨blk_put h.bp 0 _ rfl, far h.ba (by show _ ≠ w.heap.size; omega) _, far h.bx (by show _ ≠ w.heap.size; omega) _, far h.bn (by show _ ≠ w.heap.size; omega) _, far h.it (by show _ ≠ w.heap.size; omega) _, be_set h.be (by omega) _⟩
theorem H4.puta {w : World} {q : RT.St} {s : ByteArray} {pos : Nat} {V : World} (h : H4 w q s pos V) (x : Nat) : H4 w { q with at' := x } s pos (V.setCell ⟨w.heap.size + 1, 0, none⟩ (.int .i64 (x : Int))) :=
  ⟨far h.bp (by show _ ≠ w.heap.size + 1; omega) _, blk_put h.ba 0 _ rfl, far h.bx (by show _ ≠ w.heap.size + 1; omega) _, far h.bn (by show _ ≠ w.heap.size + 1; omega) _, far h.it (by show _ ≠ w.heap.size + 1; omega) _, be_set h.be (by omega) _⟩
theorem H4.putx {w : World} {q : RT.St} {s : ByteArray} {pos : Nat} {V : World} (h : H4 w q s pos V) (x : Bool) : H4 w { q with inX := x } s pos (V.setCell ⟨w.heap.size + 1 + 1, 0, none⟩ (.bool x)) :=
  ⟨far h.bp (by show _ ≠ w.heap.size + 1 + 1; omega) _, far h.ba (by show _ ≠ w.heap.size + 1 + 1; omega) _, blk_put h.bx 0 _ rfl, far h.bn (by show _ ≠ w.heap.size + 1 + 1; omega) _, far h.it (by show _ ≠ w.heap.size + 1 + 1; omega) _, be_set h.be (by omega) _⟩
theorem H4.putn {w : World} {q : RT.St} {s : ByteArray} {pos : Nat} {V : World} (h : H4 w q s pos V) (x : Bool) : H4 w { q with inN := x } s pos (V.setCell ⟨w.heap.size + 1 + 1 + 1, 0, none⟩ (.bool x)) :=
  ⟨far h.bp (by show _ ≠ w.heap.size + 1 + 1 + 1; omega) _, far h.ba (by show _ ≠ w.heap.size + 1 + 1 + 1; omega) _, far h.bx (by show _ ≠ w.heap.size + 1 + 1 + 1; omega) _, blk_put h.bn 0 _ rfl, far h.it (by show _ ≠ w.heap.size + 1 + 1 + 1; omega) _, be_set h.be (by omega) _⟩
/-- The world behind `next`. -/
def seek (V : World) (k : Nat) (s : ByteArray) (pos : Nat) : World := { V with heap := V.heap.setIfInBounds k (.stringIter s pos) }
theorem seek_far {V : World} {k b : Nat} (s : ByteArray) (pos : Nat) (h : b ≠ k) : (seek V k s pos).heap[b]? = V.heap[b]? := by
  show (V.heap.setIfInBounds k _)[b]? = _
  rw [Array.getElem?_setIfInBounds_ne (fun e => h e.symm)]
theorem H4.seek {w : World} {q : RT.St} {s : ByteArray} {pos : Nat} {V : World} (h : H4 w q s pos V) (pos' : Nat) : H4 w q s pos' (seek V (w.heap.size + 1 + 1 + 1 + 1) s pos') := by
  refine ⟨(seek_far _ _ (by omega)).trans h.bp, (seek_far _ _ (by omega)).trans h.ba, (seek_far _ _ (by omega)).trans h.bx, (seek_far _ _ (by omega)).trans h.bn, ?_, ⟨h.be.os, h.be.tape, h.be.output, ?_, fun b hb => (seek_far _ _ (by omega)).trans (h.be.block b hb)⟩⟩
  · show (V.heap.setIfInBounds _ _)[_]? = _
    have := h.it
    have hlt : w.heap.size + 1 + 1 + 1 + 1 < V.heap.size := blk_lt this
    rw [Array.getElem?_setIfInBounds_self_of_lt hlt]
  · show w.heap.size ≤ (V.heap.setIfInBounds _ _).size
    rw [Array.size_setIfInBounds]
    exact h.be.size
theorem run_next_in {P : Program} {V : World} {k : Nat} {s : ByteArray} {pos : Nat} (ty : TypeId) (hV : V.heap[k]? = some (.stringIter s pos)) (h : pos < s.size) :
    (Instr.next (.pointer (some ⟨k, 0, none⟩)) true ty).run P V = .ok (.tuple #[.bool true, .int .i64 pos, .int .i32 (Utf8.decode s pos).1]) (seek V k s (pos + (Utf8.decode s pos).2)) := by
  simp only [Instr.next, getObj, setObj, Sem.run_bind, Sem.run, hV, Result.andThen, h, if_true]
  simp [goInt, A.seek]
theorem run_next_out {P : Program} {V : World} {k : Nat} {s : ByteArray} {pos : Nat} (ty : TypeId) (hV : V.heap[k]? = some (.stringIter s pos)) (h : ¬ pos < s.size) :
    (Instr.next (.pointer (some ⟨k, 0, none⟩)) true ty).run P V = .ok (.tuple #[.bool false]) V := by
  simp [Instr.next, getObj, Sem.run, hV, h]
set_option maxHeartbeats 4000000 in
theorem end_walk (w V : World) (q : RT.St) (hp : q.p < 2 ^ 64) (ha : q.at' ≤ 1000) (s : ByteArray) (pos : Nat) (H : H4 w q s pos V) : Calls Tryd.prog 65 #[.pointer (some ⟨w.heap.size + 1 + 1 + 1, 0, none⟩), .pointer (some ⟨w.heap.size + 1, 0, none⟩), .pointer (some ⟨w.heap.size, 0, none⟩), .pointer (some ⟨w.heap.size + 1 + 1, 0, none⟩)] V fun e V' => e = .returned (.tuple #[]) ∧ H4 w (RT.fin q) s pos V' := by
  have H0 := Aside0.mk H
  have c0 : V.cell? ⟨w.heap.size, 0, none⟩ = some (.int .u64 (q.p : Int)) := cell_of_row V _ 0 _ _ _ H.bp
  have c1 : V.cell? ⟨w.heap.size + 1, 0, none⟩ = some (.int .i64 (q.at' : Int)) := cell_of_row V _ 0 _ _ _ H.ba
  have c2 : V.cell? ⟨w.heap.size + 1 + 1, 0, none⟩ = some (.bool q.inX) := cell_of_row V _ 0 _ _ _ H.bx
  have c3 : V.cell? ⟨w.heap.size + 1 + 1 + 1, 0, none⟩ = some (.bool q.inN) := cell_of_row V _ 0 _ _ _ H.bn
  have f0 : V.frozen? ⟨w.heap.size, 0, none⟩ = false := blk_frozen H.bp _
  have f1 : V.frozen? ⟨w.heap.size + 1, 0, none⟩ = false := blk_frozen H.ba _
  have f2 : V.frozen? ⟨w.heap.size + 1 + 1, 0, none⟩ = false := blk_frozen H.bx _
  have f3 : V.frozen? ⟨w.heap.size + 1 + 1 + 1, 0, none⟩ = false := blk_frozen H.bn _
  have hfz : ∀ (W : World) (a : Addr) (v : Value) (b : Addr), (W.setCell a v).frozen? b = W.frozen? b := fun W a v b => World.frozen?_setCell ..
  clear H
  obtain ⟨p, at', inX, inN⟩ := q
  simp only at c0 c1 c2 c3 hp ha
  have e2 : bits .or .u64 (p : Int) 2 = ((p ||| 2 : Nat) : Int) := R.bits_or64 (b := 2) hp (by decide)
  by_cases hN : inN = false ∨ 64 ≤ at'
  · obtain ⟨b, hb⟩ : ∃ b, b = (inN && decide (at' < 64)) := ⟨_, rfl⟩
    have hbf : b = false := by
      rcases hN with h | h
      · rw [hb, h]; rfl
      · rw [hb, decide_eq_false (by omega)]; exact Bool.and_false _
    have hlt : inN = true → decide ((at' : Int) < 64) = false := fun h => decide_eq_false (by rcases hN with e | e; exact absurd (h.symm.trans e) (by decide); omega)
    cases inN <;> cases inX
    all_goals (try have hlt := hlt rfl)
    all_goals go_enter Tryd.func65, Tryd.ntmps65
    all_goals go_wp2
    all_goals go_end0
    · exact ⟨rfl, ((H0.out.puta 0).putx false).putn false⟩
    · have e : RT.fin ⟨p, at', true, false⟩ = ⟨p ||| 2, 0, false, false⟩ := rfl
      rw [e]
      exact ⟨rfl, (((H0.out.putp (p ||| 2)).puta 0).putx false).putn false⟩
    all_goals
      have e : ∀ c, RT.fin ⟨p, at', c, true⟩ = ⟨p, 0, false, false⟩ := fun c => by
        have h2 : (true && decide (at' < 64)) = false := hb.symm.trans hbf
        unfold RT.fin; simp only [h2]; simp
      rw [e]
      exact ⟨rfl, ((H0.out.puta 0).putx false).putn false⟩
  obtain ⟨rfl, hlt⟩ : inN = true ∧ at' < 64 := ⟨by cases inN; exact absurd (.inl rfl) hN; rfl, by by_cases h : at' < 64; exact h; exact absurd (.inr (by omega)) hN⟩
  have hdl : decide ((at' : Int) < 64) = true := decide_eq_true (by omega)
  have e1 : bits .or .u64 (p : Int) ((2 ^ at' : Nat) : Int) = ((p ||| 2 ^ at' : Nat) : Int) := R.bits_or64 hp (Nat.pow_lt_pow_right (by decide) hlt)
  have s1 : shl .u64 1 at' = ((2 ^ at' : Nat) : Int) := by have := R.shl64 (a := 1) (s := at') (by omega) (by rw [Nat.one_mul]; exact Nat.pow_lt_pow_right (by decide) hlt); rwa [Nat.one_mul] at this
  have ha0 : (0 : Int) ≤ (at' : Int) := by omega
  have ha4 : at' ≤ 64 := by omega
  have e3 : bits .or .u64 (p : Int) (IntKind.u64.wrap (2 ^ at')) = ((p ||| 2 ^ at' : Nat) : Int) := by
    rw [← e1]; congr 1
    have : (2 : Int) ^ at' = ((2 ^ at' : Nat) : Int) := by rw [Int.natCast_pow]; rfl
    rw [this]; exact R.u64_wrap_nat (Nat.pow_lt_pow_right (by decide) hlt)
  have e : ∀ b, RT.fin ⟨p, at', b, true⟩ = ⟨p ||| 2 ^ at', 0, false, false⟩ := fun b => by unfold RT.fin; simp [hlt]
  cases inX
  all_goals go_enter Tryd.func65, Tryd.ntmps65
  all_goals go_wp2
  all_goals go_region
  all_goals go_wp2
  all_goals go_end0
  all_goals
    rw [e]
    exact ⟨rfl, ((((H0.out.putp (p ||| 2 ^ at')).puta 0).putx false).putn false).drew1⟩
theorem term_ascii : ∀ i : Fin 64, ∀ c ∈ RT.term i.val, c.toNat < 128 := by decide +kernel
theorem plus_mem {c : UInt8} : ∀ {L : List (List UInt8)}, c ∈ RT.plus L → c = 43 ∨ ∃ t ∈ L, c ∈ t
  | [], h => by cases h
  | [t], h => .inr ⟨t, List.mem_cons_self, h⟩
  | t :: u :: r, h => by
    have h2 : c ∈ t ++ 43 :: RT.plus (u :: r) := h
    rcases List.mem_append.1 h2 with h3 | h3
    · exact .inr ⟨t, List.mem_cons_self, h3⟩
    · rcases List.mem_cons.1 h3 with h4 | h4
      · exact .inl h4
      · rcases plus_mem h4 with h5 | ⟨x, hx, hc⟩
        · exact .inl h5
        · exact .inr ⟨x, List.mem_cons_of_mem _ hx, hc⟩
theorem text_ascii {n : Nat} {c : UInt8} (h : c ∈ RT.text n) : c.toNat < 128 := by
  unfold RT.text at h
  split at h
  · have : c = 48 := by simpa using h
    rw [this]; decide
  · rcases plus_mem h with e | ⟨t, ht, hc⟩
    · rw [e]; decide
    · obtain ⟨j, hj, _, rfl⟩ := RT.terms_mem ht
      exact term_ascii ⟨j, hj⟩ c hc
theorem fin_ok {q : RT.St} (hp : q.p < 2 ^ 64) : (RT.fin q).p < 2 ^ 64 ∧ (RT.fin q).at' ≤ 1000 := by
  refine ⟨?_, Nat.zero_le _⟩
  show (if q.inN && decide (q.at' < 64) then q.p ||| 2 ^ q.at' else if q.inX && !q.inN then q.p ||| 2 else q.p) < 2 ^ 64
  split
  · rename_i h
    have h2 : q.at' < 64 := by simp at h; exact h.2
    exact Nat.or_lt_two_pow hp (Nat.pow_lt_pow_right (by decide) h2)
  · split
    · exact Nat.or_lt_two_pow hp (by decide)
    · exact hp
theorem step_ok {q : RT.St} (r : Int) (hp : q.p < 2 ^ 64) (ha : q.at' ≤ 1000) : (RT.step q r).p < 2 ^ 64 ∧ (RT.step q r).at' ≤ 1000 := by
  unfold RT.step
  split
  · exact ⟨hp, ha⟩
  split
  · exact ⟨hp, ha⟩
  split
  · exact fin_ok hp
  split
  · exact ⟨hp, Nat.min_le_right _ _⟩
  split
  · exact ⟨Nat.or_lt_two_pow hp (by decide), ha⟩
  · exact ⟨hp, ha⟩
theorem rel_step {l : List UInt8} {sx : ByteArray} {q : RT.St} {pos : Nat} (hx : sx = bs l) (hp : pos < sx.size) (h : ∀ n, n < 2 ^ 64 → l = RT.text n → q = RT.run (RT.st0 0) (l.take pos) ∧ pos ≤ l.length) :
    ∀ n, n < 2 ^ 64 → l = RT.text n → RT.step q ((Utf8.decode sx pos).1 : Int) = RT.run (RT.st0 0) (l.take (pos + (Utf8.decode sx pos).2)) ∧ pos + (Utf8.decode sx pos).2 ≤ l.length := fun n hn hl => by
  subst hx
  have hpl : pos < l.length := hp
  obtain ⟨hq, -⟩ := h n hn hl
  have hc : (bs l)[pos]'hp = l[pos]'hpl := rfl
  have ha : ((bs l)[pos]'hp).toNat < 128 := by
    rw [hc]
    exact text_ascii (n := n) (hl ▸ List.getElem_mem hpl)
  rw [decode_ascii _ _ hp ha]
  refine ⟨?_, hpl⟩
  rw [List.take_add_one, List.getElem?_eq_getElem hpl, Option.toList_some, RT.run_app, ← hq]
  rfl
theorem wide {sx : ByteArray} {pos : Nat} (hp : pos < sx.size) : pos < pos + (Utf8.decode sx pos).2 := by
  by_cases ha : (sx[pos]'hp).toNat < 128
  · rw [decode_ascii sx pos hp ha]; exact Nat.lt_succ_self _
  · have := (decode_high sx pos hp (by omega)).2; omega
theorem step_x {q : RT.St} {r : Int} (h : r = 120) : RT.step q r = { q with inX := true } := by unfold RT.step; rw [if_pos h]
theorem step_n {q : RT.St} {r : Int} (h : r = 94) (hx : q.inX = true) : RT.step q r = { q with inN := true } := by unfold RT.step; rw [if_neg (by omega), if_pos ⟨h, hx⟩]
theorem step_p {q : RT.St} {r : Int} (h : r = 43) : RT.step q r = RT.fin q := by unfold RT.step; rw [if_neg (by omega), if_neg (fun e => by omega), if_pos h]
theorem step_d {q : RT.St} {r : Int} (h : 48 ≤ r ∧ r ≤ 57) (hn : q.inN = true) : RT.step q r = { q with at' := min (q.at' * 10 + (r - 48).toNat) 1000 } := by unfold RT.step; rw [if_neg (by omega), if_neg (fun e => by omega), if_neg (by omega), if_pos ⟨h.1, h.2, hn⟩]
theorem step_1 {q : RT.St} {r : Int} (h : r = 49) (hn : q.inN = false) : RT.step q r = { q with p := q.p ||| 1 } := by unfold RT.step; rw [if_neg (by omega), if_neg (fun e => by omega), if_neg (by omega), if_neg (fun e => by rw [hn] at e; exact absurd e.2.2 (by decide)), if_pos h]
theorem step_o {q : RT.St} {r : Int} (h1 : r ≠ 120) (h2 : ¬ (r = 94 ∧ q.inX = true)) (h3 : r ≠ 43) (h4 : ¬ (48 ≤ r ∧ r ≤ 57 ∧ q.inN = true)) (h5 : r ≠ 49) : RT.step q r = q := by unfold RT.step; rw [if_neg h1, if_neg h2, if_neg h3, if_neg h4, if_neg h5]
theorem arr5 {α : Type} (h : Array α) (a b c d e : α) : let V := ((((h.push a).push b).push c).push d).push e
    V[h.size]? = some a ∧ V[h.size + 1]? = some b ∧ V[h.size + 1 + 1]? = some c ∧ V[h.size + 1 + 1 + 1]? = some d ∧ V[h.size + 1 + 1 + 1 + 1]? = some e := by
  intro V
  have e1 : ∀ (g : Array α) (x : α) (i : Nat), i < g.size → (g.push x)[i]? = g[i]? := fun g x i hi => by rw [Array.getElem?_push_lt hi, Array.getElem?_eq_getElem hi]
  have e2 : ∀ (g : Array α) (x : α) (i : Nat), i = g.size → (g.push x)[i]? = some x := fun g x i hi => by subst hi; simp
  have s : ∀ (g : Array α) (x : α), (g.push x).size = g.size + 1 := fun g x => Array.size_push ..
  refine ⟨?_, ?_, ?_, ?_, ?_⟩
  · rw [e1, e1, e1, e1, e2] <;> simp only [s] <;> omega
  · rw [e1, e1, e1, e2] <;> simp only [s] <;> omega
  · rw [e1, e1, e2] <;> simp only [s] <;> omega
  · rw [e1, e2] <;> simp only [s] <;> omega
  · rw [e2]; simp only [s]
theorem heap5 (w : World) (a b c d e : Obj) : let V := ((((w.alloc a).alloc b).alloc c).alloc d).alloc e
    V.heap[w.heap.size]? = some a ∧ V.heap[w.heap.size + 1]? = some b ∧ V.heap[w.heap.size + 1 + 1]? = some c ∧ V.heap[w.heap.size + 1 + 1 + 1]? = some d ∧ V.heap[w.heap.size + 1 + 1 + 1 + 1]? = some e := by
  exact arr5 w.heap a b c d e
set_option maxHeartbeats 4000000 in
theorem parse_walk (sx : ByteArray) (l : List UInt8) (hsl : sx = bs l) (hl : l.length ≤ 140737488351232) (w : World) : Calls Tryd.prog 58 #[.string sx] w fun e w' => e = .returned (.tuple #[.int .u64 (parseR l).1, .int .i64 (parseR l).2]) ∧ Below w.heap.size w w' := by
  have HS := Aside0.mk hsl
  have hsz : sx.size = l.length := by rw [hsl]; rfl
  have htl : sx.toList = l := by rw [hsl]; exact ByteArray.toList_mk l
  clear hsl
  have hmf : ∀ (fn : Fn) (first cap : Array Value) (w : World), (Instr.makeFunc fn first cap).run Tryd.prog w = .ok (.func fn first cap) w := fun _ _ _ _ => rfl
  by_cases hlong : 320 < l.length
  · have hgt : decide (320 < (l.length : Int)) = true := decide_eq_true (by omega)
    clear htl
    go_enter Tryd.func58, Tryd.ntmps58
    go_wp2
    go_ret2
    refine ⟨?_, Below.refl _ _⟩
    have : parseR l = (0, 13) := by unfold parseR; rw [RT.parse_long hlong]
    rw [this]; rfl
  have hgt : decide (320 < (l.length : Int)) = false := decide_eq_false (by omega)
  have HTL := Aside0.mk htl
  clear htl
  go_enter Tryd.func58, Tryd.ntmps58
  go_wp2
  go_loopg [10] sx.size (fun k v10 V => ∃ (q : RT.St) (pos : Nat), H4 w q sx pos V ∧ sx.size - pos = k ∧ q.p < 2 ^ 64 ∧ q.at' ≤ 1000 ∧ (∀ n, n < 2 ^ 64 → l = RT.text n → q = RT.run (RT.st0 0) (l.take pos) ∧ pos ≤ l.length))
  case atStart =>
    refine ⟨RT.st0 0, 0, ?_, rfl, by decide, by decide, fun n _ _ => ⟨rfl, Nat.zero_le _⟩⟩
    obtain ⟨b0, b1, b2, b3, b4⟩ := heap5 w (.cells #[.int .u64 0] 24) (.cells #[.int .i64 0] 3) (.cells #[.bool false] 4) (.cells #[.bool false] 4) (.stringIter sx 0)
    exact ⟨b0, b1, b2, b3, b4, below_alloc (below_alloc (below_alloc (below_alloc (below_alloc (Below.refl _ _) _) _) _) _) _⟩
  case round =>
  obtain ⟨q, pos, H, hk, hqp, hqa, hq⟩ := hrel
  by_cases hpos : pos < sx.size
  case neg =>
    have hnx : ∀ ty, (Instr.next (.pointer (some ⟨w.heap.size + 1 + 1 + 1 + 1, 0, none⟩)) true ty).run Tryd.prog wr = _ := fun ty => run_next_out ty H.it hpos
    have HQ := Aside0.mk hq
    clear hq
    go_wp2_with fail
    (with_reducible refine (end_walk w wr q hqp hqa sx pos H).mono ?_)
    rintro e V2 ⟨rfl, H2⟩
    obtain ⟨pf, hpf⟩ : ∃ pf, pf = (RT.fin q).p := ⟨_, rfl⟩
    have hpl : pf < 2 ^ 64 := by rw [hpf]; exact (fin_ok hqp).1
    have c0 : V2.cell? ⟨w.heap.size, 0, none⟩ = some (.int .u64 (pf : Int)) := by rw [hpf]; exact cell_of_row V2 _ 0 _ _ _ H2.bp
    have HP := Aside0.mk hpf
    clear hpf
    go_wp2_with fail
    (with_reducible refine (text_walk pf hpl V2).mono ?_)
    rintro e V3 ⟨rfl, hb3⟩
    have hB3 := H2.be.trans (hb3.mono H2.be.size)
    have hp3 : V3.heap[w.heap.size]? = some (.cells #[.int .u64 (pf : Int)] 24 (0, 0)) := by rw [HP.out]; exact blk_below H2.bp hb3
    have c3 : V3.cell? ⟨w.heap.size, 0, none⟩ = some (.int .u64 (pf : Int)) := cell_of_row V3 _ 0 _ _ _ hp3
    have htx : (bs (RT.text pf)).toList = RT.text pf := ByteArray.toList_mk _
    have hpi := RT.parse_is (s := l) hpl (fun n hn hln => by
      obtain ⟨h1, h2⟩ := HQ.out n hn hln
      rw [HP.out, h1, List.take_of_length_le (by omega), hln]
      exact RT.loose_text hn)
    obtain ⟨tx, htxx⟩ : ∃ tx, tx = bs (RT.text pf) := ⟨_, rfl⟩
    rw [← htxx] at htx ⊢
    clear htxx
    by_cases hsame : RT.text pf = l
    · have hqs : (tx.toList == sx.toList) = true := by rw [htx, HTL.out, hsame]; exact beq_self_eq_true _
      rw [if_pos hsame] at hpi
      have hpr : parseR l = ((pf : Int), 0) := by unfold parseR; rw [← hpi]
      have HPR := Aside0.mk hpr
      clear htx hsame hpi hpr
      go_wp2
      go_ret2
      refine ⟨?_, hB3⟩
      rw [HPR.out]; rfl
    · have hqs : (tx.toList == sx.toList) = false := by rw [htx, HTL.out]; exact beq_eq_false_iff_ne.2 hsame
      rw [if_neg hsame] at hpi
      have hpr : parseR l = (0, 13) := by unfold parseR; rw [← hpi]
      have HPR := Aside0.mk hpr
      clear htx hsame hpi hpr
      go_wp2
      go_ret2
      refine ⟨?_, hB3⟩
      rw [HPR.out]; rfl
  obtain ⟨r, hr⟩ : ∃ r : Int, r = ((Utf8.decode sx pos).1 : Int) := ⟨_, rfl⟩
  obtain ⟨pp, hpp⟩ : ∃ pp, pp = pos + (Utf8.decode sx pos).2 := ⟨_, rfl⟩
  obtain ⟨V1, hV1⟩ : ∃ V1, V1 = seek wr (w.heap.size + 1 + 1 + 1 + 1) sx pp := ⟨_, rfl⟩
  have hnx : ∀ ty, (Instr.next (.pointer (some ⟨w.heap.size + 1 + 1 + 1 + 1, 0, none⟩)) true ty).run Tryd.prog wr = .ok (.tuple #[.bool true, .int .i64 pos, .int .i32 r]) V1 := fun ty => by
    rw [hr, hV1, hpp]; exact run_next_in ty H.it hpos
  have H1 : H4 w q sx pp V1 := hV1 ▸ H.seek pp
  have hw : pos < pp := by rw [hpp]; exact wide hpos
  have HQ := Aside0.mk (show ∀ n, n < 2 ^ 64 → l = RT.text n → RT.step q r = RT.run (RT.st0 0) (l.take pp) ∧ pp ≤ l.length by rw [hr, hpp]; exact rel_step HS.out hpos hq)
  clear H hq hr hpp hV1
  have H0 := Aside0.mk H1
  have c0 : V1.cell? ⟨w.heap.size, 0, none⟩ = some (.int .u64 (q.p : Int)) := cell_of_row V1 _ 0 _ _ _ H1.bp
  have c1 : V1.cell? ⟨w.heap.size + 1, 0, none⟩ = some (.int .i64 (q.at' : Int)) := cell_of_row V1 _ 0 _ _ _ H1.ba
  have c2 : V1.cell? ⟨w.heap.size + 1 + 1, 0, none⟩ = some (.bool q.inX) := cell_of_row V1 _ 0 _ _ _ H1.bx
  have c3 : V1.cell? ⟨w.heap.size + 1 + 1 + 1, 0, none⟩ = some (.bool q.inN) := cell_of_row V1 _ 0 _ _ _ H1.bn
  have f0 : V1.frozen? ⟨w.heap.size, 0, none⟩ = false := blk_frozen H1.bp _
  have f1 : V1.frozen? ⟨w.heap.size + 1, 0, none⟩ = false := blk_frozen H1.ba _
  have f2 : V1.frozen? ⟨w.heap.size + 1 + 1, 0, none⟩ = false := blk_frozen H1.bx _
  have f3 : V1.frozen? ⟨w.heap.size + 1 + 1 + 1, 0, none⟩ = false := blk_frozen H1.bn _
  clear H1
  have HK := Aside0.mk (And.intro hk (And.intro hqp hqa))
  have HO := Aside0.mk (step_ok r hqp hqa)
  by_cases r1 : r = 120
  · subst r1
    go_wp2
    go_roundg (sx.size - pp)
    case measure => omega
    case rel => exact ⟨RT.step q 120, pp, by rw [step_x rfl]; exact H0.out.putx true, rfl, HO.out.1, HO.out.2, HQ.out⟩
  by_cases r2 : r = 94
  · subst r2
    by_cases hx : q.inX = true
    · have hs := Aside0.mk (step_n (q := q) rfl hx)
      rw [hx] at c2
      clear hx
      go_wp2
      go_roundg (sx.size - pp)
      case measure => omega
      case rel => exact ⟨RT.step q 94, pp, by rw [hs.out]; exact H0.out.putn true, rfl, HO.out.1, HO.out.2, HQ.out⟩
    · have hs := Aside0.mk (step_o (q := q) (r := 94) (by decide) (fun e => hx e.2) (by decide) (fun e => absurd e.2.1 (by decide)) (by decide))
      rw [Bool.eq_false_iff.2 hx] at c2
      clear hx
      go_wp2
      go_roundg (sx.size - pp)
      case measure => omega
      case rel => exact ⟨RT.step q 94, pp, by rw [hs.out]; exact H0.out, rfl, HO.out.1, HO.out.2, HQ.out⟩
  by_cases r3 : r = 43
  · subst r3
    go_wp2_with fail
    (with_reducible refine (end_walk w V1 q hqp hqa sx pp H0.out).mono ?_)
    rintro e V2 ⟨rfl, H2⟩
    go_wp2
    go_roundg (sx.size - pp)
    case measure => omega
    case rel => exact ⟨RT.step q 43, pp, by rw [step_p rfl]; exact H2, rfl, HO.out.1, HO.out.2, HQ.out⟩
  have t1 : (r == 120) = false := beq_eq_false_iff_ne.2 r1
  have t2 : (r == 94) = false := beq_eq_false_iff_ne.2 r2
  have t3 : (r == 43) = false := beq_eq_false_iff_ne.2 r3
  by_cases r4 : 48 ≤ r ∧ r ≤ 57
  case neg =>
    have r5 : r ≠ 49 := by omega
    have t5 : (r == 49) = false := beq_eq_false_iff_ne.2 r5
    have hs := Aside0.mk (step_o (q := q) (r := r) r1 (fun e => r2 e.1) r3 (fun e => r4 ⟨e.1, e.2.1⟩) r5)
    by_cases r6 : 48 ≤ r
    · have t6 : decide (48 ≤ r) = true := decide_eq_true r6
      have t7 : decide (r ≤ 57) = false := decide_eq_false (by omega)
      go_wp2
      go_roundg (sx.size - pp)
      case measure => omega
      case rel => exact ⟨RT.step q r, pp, by rw [hs.out]; exact H0.out, rfl, HO.out.1, HO.out.2, HQ.out⟩
    · have t6 : decide (48 ≤ r) = false := decide_eq_false r6
      go_wp2
      go_roundg (sx.size - pp)
      case measure => omega
      case rel => exact ⟨RT.step q r, pp, by rw [hs.out]; exact H0.out, rfl, HO.out.1, HO.out.2, HQ.out⟩
  have t6 : decide (48 ≤ r) = true := decide_eq_true r4.1
  have t7 : decide (r ≤ 57) = true := decide_eq_true r4.2
  by_cases hn : q.inN = true
  case neg =>
    have hnf : q.inN = false := Bool.eq_false_iff.2 hn
    rw [hnf] at c3
    by_cases r5 : r = 49
    · subst r5
      have hs := Aside0.mk (step_1 (q := q) rfl hnf)
      have e1 : bits .or .u64 (q.p : Int) 1 = ((q.p ||| 1 : Nat) : Int) := R.bits_or64 (b := 1) hqp (by decide)
      clear hn hnf
      go_wp2
      go_roundg (sx.size - pp)
      case measure => omega
      case rel => exact ⟨RT.step q 49, pp, by rw [hs.out]; exact H0.out.putp _, rfl, HO.out.1, HO.out.2, HQ.out⟩
    · have t5 : (r == 49) = false := beq_eq_false_iff_ne.2 r5
      have hs := Aside0.mk (step_o (q := q) (r := r) r1 (fun e => r2 e.1) r3 (fun e => hn e.2.2) r5)
      clear hn hnf
      go_wp2
      go_roundg (sx.size - pp)
      case measure => omega
      case rel => exact ⟨RT.step q r, pp, by rw [hs.out]; exact H0.out, rfl, HO.out.1, HO.out.2, HQ.out⟩
  have hs := Aside0.mk (step_d (q := q) r4 hn)
  rw [hn] at c3
  clear hn
  have g1 : IntKind.i32.wrap (r - 48) = r - 48 := by rw [IntKind.wrap_i32]; omega
  have g2 : IntKind.i64.wrap (r - 48) = r - 48 := by rw [IntKind.wrap_i64]; omega
  have g3 : IntKind.i64.wrap ((q.at' : Int) * 10) = (q.at' : Int) * 10 := by rw [IntKind.wrap_i64]; omega
  have g4 : IntKind.i64.wrap ((q.at' : Int) * 10 + (r - 48)) = (q.at' : Int) * 10 + (r - 48) := by rw [IntKind.wrap_i64]; omega
  go_wp2
  go_roundg (sx.size - pp)
  case measure => omega
  case rel =>
    have e : min ((q.at' : Int) * 10 + (r - 48)) 1000 = ((min (q.at' * 10 + (r - 48).toNat) 1000 : Nat) : Int) := by omega
    exact ⟨RT.step q r, pp, by rw [hs.out, e]; exact H0.out.puta _, rfl, HO.out.1, HO.out.2, HQ.out⟩
end Go.Proofs.YthldahaimcdejaaDoor.A
