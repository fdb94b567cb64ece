/- Matrices in memory: one block of row headers, one block a row; reading one that came in; copy into a row. -/
import Derived.Test.YtkdoilmfchlpdaaZ7
import Derived.Deep.OwnRows
import Derived.Laws.CopyOwn
import Derived.Laws.NewBlocks
import Derived.StillTailTactics
import Derived.Test.YtkdoilmfchlpdaaQuietTail
import Derived.BigQuiet
import Derived.Test.YtkdoilmfchlpdaaZ1

namespace Go.Proofs.Ytkdoilmfchlpdaa.R
open Go.RowKit Go.Deep Go.Proofs.YtkdoilmfchlpdaaW.PrintWords
set_option linter.unusedVariables false
/-- Block g holds the headers of m rows of w cells, block b i the cells of row i: a matrix of the call's own. -/
structure Grid (W : World) (T E base g m w : Nat) (b : Nat → Nat) (A : Nat → Nat → G8) : Prop where
  hd : W.rowIs g T m (fun i => .slice (some ⟨b i, 0, none⟩) w w)
  row : ∀ i, i < m → W.rowIs (b i) E w (fun j => .int .u8 ((A i j).1 : Nat))
  inj : ∀ i j, i < m → j < m → b i = b j → i = j
  ge : base ≤ g
  geb : ∀ i, i < m → base ≤ b i
  te : T ≠ E
/-- W' is W but for what block g holds. -/
structure But (g : Nat) (W W' : World) : Prop where
  os : W'.os = W.os
  tape : W'.tape = W.tape
  output : W'.output = W.output
  size : W'.heap.size = W.heap.size
  block : ∀ k, k ≠ g → W'.heap[k]? = W.heap[k]?
theorem But.undrew {g : Nat} {W W' : World} (h : But g W.drew W') : But g W W' := ⟨h.os, h.tape, h.output, h.size, h.block⟩
theorem But.below {g B : Nat} {W W' : World} (h : But g W W') (hB : B ≤ g) : Below B W W' := ⟨h.os, h.tape, h.output, by rw [h.size]; exact Nat.le_refl _, fun k hk => h.block k (by omega)⟩
namespace Grid
variable {W : World} {T E base g m w : Nat} {b : Nat → Nat} {A : Nat → Nat → G8}
theorem ne (h : Grid W T E base g m w b A) {i : Nat} (hi : i < m) : b i ≠ g := by
  intro e
  obtain ⟨c, hb, _, _⟩ := h.row i hi
  obtain ⟨c', hb', _, _⟩ := h.hd
  rw [e, hb'] at hb
  injection hb with hb
  injection hb with h1 h2 h3
  exact h.te h2
theorem moved {W' : World} (h : Grid W T E base g m w b A) (hm : ∀ k, base ≤ k → k < W.heap.size → W'.heap[k]? = W.heap[k]?) : Grid W' T E base g m w b A :=
  ⟨h.hd.of_block (hm _ h.ge h.hd.lt), fun i hi => (h.row i hi).of_block (hm _ (h.geb i hi) (h.row i hi).lt), h.inj, h.ge, h.geb, h.te⟩
theorem below {W' : World} (h : Grid W T E base g m w b A) (hb : Below W.heap.size W W') : Grid W' T E base g m w b A := h.moved (fun k _ hk => hb.block k hk)
theorem alloc (h : Grid W T E base g m w b A) (o : Obj) : Grid (W.alloc o) T E base g m w b A := h.moved (fun k _ hk => Below.heap_alloc W o k hk)
theorem drawn {W' : World} (h : Grid W T E base g m w b A) (hb : Drawn0 W W') : Grid W' T E base g m w b A := by obtain ⟨k, rfl⟩ := hb.out; exact h.moved (fun _ _ _ => rfl)
theorem drew (h : Grid W T E base g m w b A) : Grid W.drew T E base g m w b A := h.moved (fun _ _ _ => rfl)
theorem lower {base' : Nat} (h : Grid W T E base g m w b A) (hb : base' ≤ base) : Grid W T E base' g m w b A := ⟨h.hd, h.row, h.inj, Nat.le_trans hb h.ge, fun i hi => Nat.le_trans hb (h.geb i hi), h.te⟩
theorem congr {B : Nat → Nat → G8} (h : Grid W T E base g m w b A) (e : ∀ i j, i < m → j < w → A i j = B i j) : Grid W T E base g m w b B :=
  ⟨h.hd, fun i hi => (h.row i hi).congr (fun j hj => by rw [e i j hi hj]), h.inj, h.ge, h.geb, h.te⟩
theorem grown {W' : World} {row : Option Nat} (h : Grid W T E base g m w b A) (hg : W.grownBy W' row) (h1 : some g ≠ row) (h2 : ∀ i, i < m → some (b i) ≠ row) : Grid W' T E base g m w b A :=
  ⟨h.hd.of_block (hg.block _ h.hd.lt h1), fun i hi => (h.row i hi).of_block (hg.block _ (h.row i hi).lt (h2 i hi)), h.inj, h.ge, h.geb, h.te⟩
/-- One cell is written. -/
theorem put (h : Grid W T E base g m w b A) {i j : Nat} (hi : i < m) (v : G8) : Grid (W.setCell ⟨b i, j, none⟩ (.int .u8 (v.1 : Nat))) T E base g m w b (fun a c => if a = i ∧ c = j then v else A a c) := by
  refine ⟨h.hd.setOther (Ne.symm (h.ne hi)) _, fun a ha => ?_, h.inj, h.ge, h.geb, h.te⟩
  by_cases e : a = i
  · subst e
    refine ((h.row a ha).set j _).congr (fun c _ => ?_)
    by_cases e2 : c = j
    · simp [e2]
    · simp [e2]
  · refine ((h.row a ha).setOther (fun e' => e (h.inj a i ha hi e')) _).congr (fun c _ => ?_)
    simp [e]
/-- A stretch of a row is written. -/
theorem putrow {W' : World} (h : Grid W T E base g m w b A) {i : Nat} (hi : i < m) {off n : Nat} {v : Nat → G8}
    (hr : W'.rowIs (b i) E w (fun j => if off ≤ j ∧ j < off + n then .int .u8 ((v (j - off)).1 : Nat) else .int .u8 ((A i j).1 : Nat))) (hb : But (b i) W W') : Grid W' T E base g m w b (fun a j => if a = i ∧ off ≤ j ∧ j < off + n then v (j - off) else A a j) := by
  refine ⟨h.hd.of_block (hb.block _ (Ne.symm (h.ne hi))), fun a ha => ?_, h.inj, h.ge, h.geb, h.te⟩
  by_cases e : a = i
  · subst e
    refine hr.congr (fun j hj => ?_)
    by_cases e2 : off ≤ j ∧ j < off + n
    · rw [if_pos e2, if_pos ⟨rfl, e2.1, e2.2⟩]
    · rw [if_neg e2, if_neg (fun h => e2 h.2)]
  · refine ((h.row a ha).of_block (hb.block _ (fun e' => e (h.inj a i ha hi e')))).congr (fun j _ => ?_)
    rw [if_neg (fun h => e h.1)]
/-- Two rows change places. -/
theorem swap (h : Grid W T E base g m w b A) {i j : Nat} (hi : i < m) (hj : j < m) :
    Grid ((W.setCell ⟨g, i, none⟩ (.slice (some ⟨b j, 0, none⟩) w w)).setCell ⟨g, j, none⟩ (.slice (some ⟨b i, 0, none⟩) w w)) T E base g m w (fun a => if a = i then b j else if a = j then b i else b a) (LA.sw A i j) := by
  refine ⟨((h.hd.set i _).set j _).congr (fun a ha => ?_), fun a ha => ?_, fun a c ha hc e => ?_, h.ge, fun a ha => ?_, h.te⟩
  · by_cases e1 : a = i
    · by_cases e2 : a = j
      · subst e1; subst e2; simp
      · subst e1; simp [e2]
    · by_cases e2 : a = j
      · subst e2; simp [e1]
      · simp [e1, e2]
  · have key : ∀ k, k < m → ((W.setCell ⟨g, i, none⟩ (.slice (some ⟨b j, 0, none⟩) w w)).setCell ⟨g, j, none⟩ (.slice (some ⟨b i, 0, none⟩) w w)).rowIs (b k) E w (fun l => .int .u8 ((A k l).1 : Nat)) :=
      fun k hk => ((h.row k hk).setOther (h.ne hk) _).setOther (h.ne hk) _
    unfold LA.sw
    by_cases e1 : a = i
    · simp only [if_pos e1]; exact key j hj
    · by_cases e2 : a = j
      · simp only [if_neg e1, if_pos e2]; exact key i hi
      · simp only [if_neg e1, if_neg e2]; exact key a ha
  · have hinj := h.inj
    have key : ∀ a, a < m → ∃ k, k < m ∧ (if a = i then b j else if a = j then b i else b a) = b k ∧ (k = if a = i then j else if a = j then i else a) := by
      intro a ha
      by_cases e1 : a = i
      · exact ⟨j, hj, by simp [e1], by simp [e1]⟩
      · by_cases e2 : a = j
        · exact ⟨i, hi, by simp only [if_neg e1, if_pos e2], by simp only [if_neg e1, if_pos e2]⟩
        · exact ⟨a, ha, by simp [e1, e2], by simp [e1, e2]⟩
    obtain ⟨p, hp, ep, fp⟩ := key a ha
    obtain ⟨q, hq, eq, fq⟩ := key c hc
    rw [ep, eq] at e
    have := hinj p q hp hq e
    rw [fp, fq] at this
    clear ep eq fp fq e key
    (repeat' split at this) <;> omega
  · by_cases e1 : a = i
    · simp only [if_pos e1]; exact h.geb j hj
    · by_cases e2 : a = j
      · simp only [if_neg e1, if_pos e2]; exact h.geb i hi
      · simp only [if_neg e1, if_neg e2]; exact h.geb a ha
end Grid
/-- A matrix that can be read, at the address of its first header. -/
def RdM (W : World) (ad : Addr) (m w : Nat) (M : Nat → Nat → G8) : Prop :=
  ∃ (f : Nat → Addr) (cp : Nat → Nat), ∀ i, i < m → W.cell? (ad.add i) = some (.slice (some (f i)) w (cp i)) ∧ w ≤ cp i ∧ ∀ j, j < w → W.cell? ((f i).add j) = some (.int .u8 ((M i j).1 : Nat))
theorem RdM.below {W W' : World} {ad : Addr} {m w : Nat} {M : Nat → Nat → G8} (h : RdM W ad m w M) (hb : Below W.heap.size W W') : RdM W' ad m w M := by
  obtain ⟨f, cp, h⟩ := h
  refine ⟨f, cp, fun i hi => ?_⟩
  obtain ⟨h1, h2, h3⟩ := h i hi
  exact ⟨pw_cell_below hb h1, h2, fun j hj => pw_cell_below hb (h3 j hj)⟩
theorem Grid.read {W : World} {T E base g m w : Nat} {b : Nat → Nat} {A : Nat → Nat → G8} (h : Grid W T E base g m w b A) : RdM W ⟨g, 0, none⟩ m w A :=
  ⟨fun i => ⟨b i, 0, none⟩, fun _ => w, fun i hi => ⟨by rw [add_plain]; exact h.hd.cell hi, Nat.le_refl _, fun j hj => by rw [add_plain]; exact (h.row i hi).cell hj⟩⟩
/-- copy, as a law for the walk: the cells are told by their indices. -/
theorem wpList_copy_at {P : Program} {W : World} {ops : Array Oper} {rest : List Oper} {o : Oper} {a : Act} {Q : Exit → Act → World → Prop} (hgd : o.guard = none) (d s : Operand) (dT sT : TypeId)
    (ho : o.op = .call { callee := .builtin .copy, args := #[d, s], argTypes := #[dT, sT] }) (elem : TypeId) (hu : P.underlying dT = some (.slice elem)) (hsz : (P.info? elem).map (·.size) = some 1)
    {dp sp : Option Addr} {dLen dCap sLen sCap : Nat} (hd : a.eval d = .slice dp dLen dCap) (hs : a.eval s = .slice sp sLen sCap)
    {g off : Nat} {t : TypeId} {N : Nat} {f : Nat → Value} (hg : W.rowIs g t N f) (n : Nat) (hn : n = min sLen dLen) (v : Nat → Value)
    (hpos : 0 < n → dp = some ⟨g, off, none⟩ ∧ ∃ ad, sp = some ad ∧ ∀ j, j < n → W.cell? (ad.add j) = some (v j))
    (hfit : off + n ≤ N) (h1 : ∀ j, j < n → (v j).oneCell' = true)
    (h : ∀ W', W'.rowIs g t N (fun j => if off ≤ j ∧ j < off + n then v (j - off) else f j) → But g W W' → wpList P ops Q rest (a.put o.dst (goInt n)) W') :
    wpList P ops Q (o :: rest) a W := by
  by_cases h0 : n = 0
  · subst h0
    refine wpList_copy_nothing hgd d s dT sT ho elem hu hsz dp sp dLen dCap sLen sCap hd hs hn.symm ?_
    exact h W (hg.congr (fun i _ => by rw [if_neg (by omega)])) ⟨rfl, rfl, rfl, rfl, fun _ _ => rfl⟩
  · obtain ⟨rfl, ad, rfl, hsrc⟩ := hpos (by omega)
    obtain ⟨c, hb, hN, hc⟩ := hg
    have hl : ((List.range n).map v).length = n := by simp
    refine wpList_copy_own hgd d s dT sT ho elem hu hsz g off dLen dCap ad sLen sCap hd hs c t hb ((List.range n).map v) (by rw [hl]; exact hn) (fun j u hj => ?_) (by rw [hl]; omega) (fun u hu => ?_) ?_
    · have hj' : j < n := by have := (List.getElem?_eq_some_iff.1 hj).1; simpa using this
      rw [List.getElem?_map, List.getElem?_range hj'] at hj
      rw [hsrc j hj']
      simpa using hj
    · obtain ⟨j, hj, rfl⟩ := List.mem_map.1 hu
      exact h1 j (List.mem_range.1 hj)
    · rw [hl]
      refine h _ ⟨_, setRow_heap W g c _ t _ hb, ?_, fun i hi => ?_⟩ ⟨rfl, rfl, rfl, setRow_size _ _ _, fun k hk => setRow_other W g k _ hk⟩
      · simp; omega
      · show _ = some (if off ≤ i ∧ i < off + n then v (i - off) else f i)
        rw [List.getElem?_toArray, List.getElem?_append]
        by_cases e1 : i < off
        · rw [if_pos (by simp; omega), List.getElem?_take, if_pos e1, if_neg (by omega), Array.getElem?_toList]
          exact hc i hi
        · rw [if_neg (by simp; omega), List.getElem?_append]
          have e3 : (c.toList.take off).length = off := by simp; omega
          rw [e3, hl]
          by_cases e2 : i - off < n
          · rw [if_pos e2, if_pos (by omega), List.getElem?_map, List.getElem?_range e2]
            rfl
          · rw [if_neg e2, if_neg (by omega), List.getElem?_drop, Array.getElem?_toList, show off + n + (i - off - n) = i by omega]
            exact hc i hi
theorem quiet_drawn {P : Program} {f : FuncId} {args : Array Value} {w : World} {n : Nat} {v : Value}
    (h : Calls P f args (w.drewN n) fun e w' => e = .returned v ∧ Drawn0 (w.drewN n) w') : Calls P f args (w.drewN n) fun e w'' => e = .returned v ∧ ∃ m, w'' = w.drewN m :=
  Calls.quiet_of (h.mono fun _ _ ⟨he, hd⟩ => ⟨he, hd.out⟩)
/-- A row's rest from cell k on. -/
theorem cut_row {P : Program} (t e : TypeId) (kl : IntKind) {i : TypeInfo} (ht : P.underlying t = some (.slice e)) (hi : P.info? e = some i) (hsz : i.size = 1) (b n cap k : Nat) (hk : k ≤ n) (hc : cap ≠ k) (W : World) :
    (Instr.slice t (.slice (some ⟨b, 0, none⟩) n cap) (some (.int kl (k : Int))) none none).run P W = .ok (.slice (some ⟨b, k, none⟩) (n - k) (cap - k)) W := by
  have := cut_from t e kl ht hi 1 hsz (some ⟨b, 0, none⟩) n cap (k : Int) (by omega) (by omega) W
  rw [Int.toNat_natCast, if_neg hc, Nat.mul_one] at this
  rw [this]
  simp only [Option.map_some, add_plain]
/-- Rows that are made as far as k (make of the headers, then one make a row). -/
structure Mid (W : World) (T E g m w k : Nat) (b : Nat → Nat) : Prop where
  hd : W.rowIs g T m (fun i => if i < k then .slice (some ⟨b i, 0, none⟩) w w else .slice none 0 0)
  row : ∀ i, i < k → W.rowIs (b i) E w (fun j => .int .u8 0)
  inj : ∀ i j, i < k → j < k → b i = b j → i = j
  geb : ∀ i, i < k → g < b i
theorem Mid.step {W : World} {T E g m w k : Nat} {b : Nat → Nat} (h : Mid W T E g m w k b) (hk : k < m) :
    Mid ((W.setCell ⟨g, k, none⟩ (.slice (some ⟨W.heap.size, 0, none⟩) w w)).alloc (.cells (madeCells #[.int .u8 0] w) E)) T E g m w (k + 1) (fun i => if i = k then W.heap.size else b i) := by
  have hg := h.hd.lt
  rw [← World.setCell_alloc_past _ _ _ _ hg]
  have hlt : ∀ i, i < k → b i < W.heap.size := fun i hi => (h.row i hi).lt
  refine ⟨((h.hd.alloc _).set k _).congr (fun i hi => ?_), fun i hi => ?_, fun i j hi hj e => ?_, fun i hi => ?_⟩
  · by_cases e : i = k
    · subst e; simp
    · have : i < k + 1 ↔ i < k := by omega
      simp [e, this]
  · by_cases e : i = k
    · subst e
      simp only [if_true]
      exact (World.rowIs_made W (.int .u8 0) w E).setOther (by simp; omega) _
    · simp only [if_neg e]
      exact ((h.row i (by omega)).alloc _).setOther (by have := h.geb i (by omega); simp; omega) _
  · by_cases e1 : i = k
    · by_cases e2 : j = k
      · omega
      · have := hlt j (by omega); simp [e1, e2] at e; omega
    · by_cases e2 : j = k
      · have := hlt i (by omega); simp [e1, e2] at e; omega
      · simp [e1, e2] at e; exact h.inj i j (by omega) (by omega) e
  · by_cases e : i = k
    · simp [e]; exact hg
    · simp [e]; exact h.geb i (by omega)
theorem Mid.grid {W : World} {T E g m w base : Nat} {b : Nat → Nat} (h : Mid W T E g m w m b) (hb : base ≤ g) (te : T ≠ E) : Grid W T E base g m w b (fun _ _ => 0) :=
  ⟨h.hd.congr (fun i hi => if_pos hi), fun i hi => (h.row i hi).congr (fun _ _ => rfl), h.inj, hb, fun i hi => Nat.le_trans hb (Nat.le_of_lt (h.geb i hi)), te⟩
end Go.Proofs.Ytkdoilmfchlpdaa.R
