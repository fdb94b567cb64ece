/- Own rows of whole numbers of any kind, between blocks (rowIs) and the print's words (Kd.R, Kd.C); an append where there is room. -/
import Derived.Test.YtedaifgbnojojaaWApart
import Derived.Test.YtedaifgbnojojaaWKept
import Derived.Test.YtedaifgbnojojaaWMore
import Derived.Test.YtedaifgbnojojaaQuietTail
import Derived.StillTailTactics
import Derived.BigQuiet
import Derived.Deep.QuietTactic
import Derived.Outline
namespace Go.Proofs.Ytedaifgbnojojaa.RI
open Go.RowKit Go.Deep Go.Proofs.YtedaifgbnojojaaW.PrintWords Go.Proofs.YtedaifgbnojojaaW.PrintLast Go.Proofs.YtedaifgbnojojaaW.PrintMore
set_option linter.unusedVariables false
set_option linter.unusedSimpArgs false
theorem rowOwn {W : World} {b t n base : Nat} {f : Nat → Value} (h : W.rowIs b t n f) (hb : base ≤ b) (hn : n ≤ maxLen) : W.ownsRow base t 1 (.slice (some ⟨b, 0, none⟩) n n) n ((List.range n).map f) := by
  obtain ⟨c, h1, h2, h3⟩ := h
  refine ⟨by simp, .inr ⟨b, n, c, rfl, hb, h1, Nat.le_refl _, hn, by omega, ?_⟩⟩
  apply List.ext_getElem?
  intro i
  rw [Nat.mul_one, List.getElem?_take]
  by_cases hi : i < n
  · rw [if_pos hi, Array.getElem?_toList, h3 i hi, List.getElem?_map, List.getElem?_range hi]
    rfl
  · rw [if_neg hi, List.getElem?_eq_none (by simp; omega)]
theorem rowR {W : World} {b E n base : Nat} {k : IntKind} {v : Nat → Int} {ok : Nat → Prop} (h : W.rowIs b E n (fun j => .int k (v j))) (hb : base ≤ b) (hn : n ≤ maxLen) (hok : ok b) : Kd.R (Kd.int k) E W base ok (.slice (some ⟨b, 0, none⟩) n n) ((List.range n).map v) := by
  refine Kd.R_of_own ?_ (fun q hq => ?_)
  · rw [List.length_map, List.length_range]
    have e : encs (Value.int k) ((List.range n).map v) = (List.range n).map fun j => Value.int k (v j) := by unfold encs; rw [List.map_map]; rfl
    rw [e]; exact rowOwn h hb hn
  · have : b = q := by simpa [Value.ownBlock] using hq
    exact this ▸ hok
/-- Numbers that came in, at an address. -/
theorem readI {W : World} {A : Option Addr} {xs : List Int} {k : IntKind} (h : (Kd.int k).C W A xs.length xs) (hp : 0 < xs.length) : ∃ ad, A = some ad ∧ ∀ j, j < xs.length → W.cell? (ad.add j) = some (.int k (xs.getD j 0)) := by
  obtain ⟨_, _, h3⟩ := h
  obtain ⟨ad, e, hc⟩ := h3 hp
  refine ⟨ad, e, fun j hj => ?_⟩
  obtain ⟨c, hl, hK, hcell⟩ := hc j _ (List.getElem?_eq_getElem hj)
  have hK' : c = [.int k xs[j]] := hK
  subst hK'
  have := hcell 0 _ rfl
  rw [List.getD_eq_getElem?_getD, List.getElem?_eq_getElem hj]
  rw [show j * (Kd.int k).sz + 0 = j from by simp [Kd.int, Kd.scalar]] at this
  exact this
/-- W' is W but for what block g holds. -/
structure ButI (g : Nat) (W W' : World) : Prop where
  os : W'.os = W.os
  tape : W'.tape = W.tape
  output : W'.output = W.output
  size : W'.heap.size = W.heap.size
  block : ∀ k, k ≠ g → W'.heap[k]? = W.heap[k]?
theorem ButI.below {g B : Nat} {W W' : World} (h : ButI g W W') (hB : B ≤ g) : Below B W W' := ⟨h.os, h.tape, h.output, by rw [h.size]; exact Nat.le_refl _, fun k hk => h.block k (by omega)⟩
theorem ButI.kept {g : Nat} {W W' : World} (h : ButI g W W') : Kept W W' (fun k => k = g) := ⟨Nat.le_of_eq h.size.symm, fun i hi hn => h.block i hn⟩
theorem rowFar {W : World} {b t n g i : Nat} {f : Nat → Value} (h : W.rowIs b t n f) (hne : b ≠ g) (v : Value) : (W.setCell ⟨g, i, none⟩ v).rowIs b t n f := h.of_block (by simp [World.setCell, Array.getElem?_modify, hne, Ne.symm hne])
theorem rowAlloc {W : World} {b t n : Nat} {f : Nat → Value} (h : W.rowIs b t n f) (o : Obj) : (W.alloc o).rowIs b t n f := h.of_block (Below.heap_alloc _ _ _ h.lt)
/-- append of one cell, where there is room. -/
theorem append1 {P : Program} {W : World} {ops : Array Oper} {rest : List Oper} {o : Oper} {a : Act} {Q : Exit → Act → World → Prop} (hgd : o.guard = none) (s x : Operand) (t e : TypeId) (i : TypeInfo)
    (ho : o.op = .call { callee := .builtin .append, args := #[s, x], argTypes := #[t, t] }) (ht : P.underlying t = some (.slice e)) (hi : P.info? e = some i) (hsz : i.size = 1)
    {g n N c : Nat} {ad : Addr} {f : Nat → Value} {v : Value} (hs : a.eval s = .slice (some ⟨g, 0, none⟩) n N) (hx : a.eval x = .slice (some ad) 1 c) (hg : W.rowIs g e N f) (hn : n < N) (hv : W.cell? ad = some v) (h1 : v.oneCell' = true)
    (h : ∀ W', W'.rowIs g e N (fun j => if j = n then v else f j) → ButI g W W' → wpList P ops Q rest (a.put o.dst (.slice (some ⟨g, 0, none⟩) (n + 1) N)) W') : wpList P ops Q (o :: rest) a W := by
  obtain ⟨cur, hb, hN, hc⟩ := hg
  have hr := run_append_room (P := P) W t o.type e i ht hi g n N cur hb ad 1 c [v] (by rw [hsz]; rfl) (fun j u hj => by
    match j, hj with
    | 0, hj => simp at hj; subst hj; simpa [Addr.add] using hv) (fun u hu => by simp at hu; subst hu; exact h1) (by omega) (by rw [hsz]; simp; omega)
  have hrun : (execOp a.eval o).run P W = .ok (.value (.slice (some ⟨g, 0, none⟩) (n + 1) N)) (W.setRow g (cur.toList.take (n * i.size) ++ [v] ++ cur.toList.drop (n * i.size + [v].length)).toArray) := by
    unfold execOp
    simp only [ho, resolve, invoke, builtin, Sem.run_bind, Sem.run_pure, Result.andThen_ok, List.map_toArray, List.map_cons, List.map_nil, hs, hx, hr]
  refine Kd.event_run hgd hrun (h _ ⟨_, setRow_heap W g cur _ e _ hb, ?_, fun j hj => ?_⟩ ⟨rfl, rfl, rfl, setRow_size _ _ _, fun k hk => setRow_other W g k _ hk⟩)
  · rw [hsz]; simp; omega
  · rw [hsz, Nat.mul_one]
    show _ = some (if j = n then v else f j)
    rw [List.getElem?_toArray, List.append_assoc, List.getElem?_append]
    have e3 : (cur.toList.take n).length = n := by simp; omega
    by_cases e1 : j < n
    · rw [if_pos (by rw [e3]; exact e1), List.getElem?_take, if_pos e1, if_neg (by omega), Array.getElem?_toList]
      exact hc j hj
    · rw [if_neg (by rw [e3]; exact e1), e3]
      by_cases e2 : j = n
      · subst e2; rw [if_pos rfl, Nat.sub_self]; rfl
      · rw [if_neg e2]
        obtain ⟨d, hd⟩ : ∃ d, j - n = d + 1 := ⟨j - n - 1, by omega⟩
        rw [hd]
        show (cur.toList.drop (n + 1))[d]? = _
        rw [List.getElem?_drop, show n + 1 + d = j by omega, Array.getElem?_toList]
        exact hc j hj
theorem oneRow (W : World) (t : TypeId) (v : Value) : (W.alloc (.cells #[v] t)).rowIs W.heap.size t 1 (fun _ => v) := ⟨#[v], heap_alloc_new W _, rfl, fun i hi => by
  obtain rfl : i = 0 := by omega
  rfl⟩
theorem quiet_drawnI {P : Program} {f : FuncId} {args : Array Value} {w : World} {n : Nat} {v : Value}
    (h : Calls P f args (w.drewN n) fun e w' => e = .returned v ∧ Drawn0 (w.drewN n) w') : Calls P f args (w.drewN n) fun e w'' => e = .returned v ∧ ∃ m, w'' = w.drewN m :=
  Calls.quiet_of (h.mono fun _ _ ⟨he, hd⟩ => ⟨he, hd.out⟩)
/-- A loop of rounds that counts up to n. -/
theorem ev_up {α : Type} {r : α} {n : Nat} {L : Nat → Nat → Option α} (fin : Ev (fun k => L k n) r) (step : ∀ i, i < n → Ev (fun k => L k (i + 1)) r → Ev (fun k => L k i) r) : ∀ i, i ≤ n → Ev (fun k => L k i) r := by
  have : ∀ d i, i + d = n → Ev (fun k => L k i) r := by
    intro d
    induction d with
    | zero => intro i h; rw [Nat.add_zero] at h; rw [h]; exact fin
    | succ d ih => intro i h; exact step i (by omega) (ih (i + 1) (by omega))
  exact fun i hi => this (n - i) i (by omega)
theorem w64 {n : Int} (h0 : -9223372036854775808 ≤ n) (h1 : n ≤ 9223372036854775807) : wrap64 n = n := by unfold wrap64; omega
theorem wr_up {n : Nat} (h : n < 2 ^ 62) : wrap64 ((n : Int) + 1) = ((n + 1 : Nat) : Int) := by rw [w64 (by omega) (by omega)]; omega
theorem rd_nat {l : List Int} (i : Nat) : rd l (i : Int) = l.getD i 0 := by unfold rd; rw [Int.toNat_natCast]
end Go.Proofs.Ytedaifgbnojojaa.RI
