import Derived.StillTail
import Derived.Deep.Quiet
import Derived.Deep.QuietTactic
import Derived.Test.YtidogckochpbgaaL1
import Derived.Deep.OwnRows
import Derived.Laws.CopyOwn
import Derived.Laws.NewBlocks
import Derived.StillTailTactics
import Derived.BigQuiet
import Derived.Test.YtidogckochpbgaaWWords
import Derived.Test.YtidogckochpbgaaAx2
import Derived.Test.YtidogckochpbgaaAx6
import Derived.Test.YtidogckochpbgaaAx7
import Derived.Test.YtidogckochpbgaaWApart
import Derived.Test.YtidogckochpbgaaAx4
/- Regions that draw their order: reads and calls that only read, in whatever order, ahead of a tail in one forced order. -/
namespace Go.Proofs.Ytidogckochpbgaa.R
open Go
variable {P : Program} {ops : Array Oper} {md : Region.Mode} {C : World → Prop}
def anyQ (P : Program) (md : Region.Mode) (ops : Array Oper) (C : World → Prop) (n : Nat) (L : Array Bool → Act → Prop) : Nat → Array Bool → Act → Prop
  | 0, listed, a => L listed a
  | f + 1, listed, a => Region.ready md ops listed ≠ [] ∧ ∀ i ∈ Region.ready md ops listed, i < n ∧ qOp P ops C i (anyQ P md ops C n L f (listed.setIfInBounds i true)) a
theorem any_of_head {n g : Nat} {L : Array Bool → Act → Prop} {Q' : Exit → Act → World → Prop} (hL : ∀ listed a w, C w → L listed a → wpAny P md ops Q' g listed a w) :
    ∀ (f : Nat) (listed : Array Bool) (a : Act) (w : World), C w → anyQ P md ops C n L f listed a → wpAny P md ops Q' (f + g) listed a w
  | 0, listed, a, w, hw, h => by rw [Nat.zero_add]; exact hL _ _ _ hw h
  | f + 1, listed, a, w, hw, h => by
    rw [show f + 1 + g = (f + g) + 1 by omega]
    exact ⟨fun h0 => absurd h0 h.1, fun i hi => wpOp_of_qOp hw (fun a' w' hw' h' => any_of_head hL f _ a' w' hw' h') (h.2 i hi).2⟩
theorem anyQ_first {n i : Nat} {oi : Oper} {v : Value} {L : Array Bool → Act → Prop} (hi : ops[i]? = some oi) (hsel : ∀ (j : Nat) (o : Oper) cs b, ops[j]? = some o → o.op ≠ .select cs b)
    (hs : Region.sinkB md ops n = true) (hc : Region.chainB md ops n = true) (hn : n < ops.size) (hin : i < n)
    (hdone : ∀ listed a, L listed a → ∀ j ∈ Region.ready md ops listed, n ≤ j) :
    ∀ (f : Nat) (listed : Array Bool) (a : Act), HeadInv md ops n listed →
      (∀ j oj, ops[j]? = some oj → j ≠ i → listed.getD j true = false → (∀ e ∈ oj.after, Region.binds md e = true → e.on ≠ i) → oi.apart ops oj = true) →
      i ∈ Region.ready md ops listed → YieldsIn P ops C oi v a →
      anyQ P md ops C n L f (listed.setIfInBounds i true) (a.put oi.dst v) → anyQ P md ops C n L (f + 1) listed a := by
  intro f
  induction f with
  | zero =>
    intro listed a inv _ hr hy H
    have hun := (mem_ready.1 hr).1
    refine ⟨fun h => (by rw [h] at hr; cases hr), fun j hj => ?_⟩
    have hjn : j < n := by
      rcases Nat.lt_or_ge j n with h | h
      · exact h
      · exact absurd hj (tail_waits hs hc hn inv _ i rfl hin hun j h)
    refine ⟨hjn, ?_⟩
    by_cases hji : j = i
    · subst hji; exact hy.qOp hi H
    · have := hdone _ _ H j (ready_mono hj hji)
      omega
  | succ f ih =>
    intro listed a inv hfree hr hy H
    have hun := (mem_ready.1 hr).1
    refine ⟨fun h => (by rw [h] at hr; cases hr), fun j hj => ?_⟩
    have hjn : j < n := by
      rcases Nat.lt_or_ge j n with h | h
      · exact h
      · exact absurd hj (tail_waits hs hc hn inv _ i rfl hin hun j h)
    refine ⟨hjn, ?_⟩
    by_cases hji : j = i
    · subst hji; exact hy.qOp hi H
    · have h1 := (H.2 j (ready_mono hj hji)).2
      obtain ⟨hjun, oj, hoj, hall⟩ := mem_ready.1 hj
      have hnot : ∀ e ∈ oj.after, Region.binds md e = true → e.on ≠ i := fun e he hb heq => by
        have h1 := hall e he hb
        rw [heq, getD_both hun] at h1
        cases h1
      have h2 := qOp_put hoj (hfree j oj hoj hji hjun hnot) (fun cs b => hsel i oi cs b hi) (fun cs b => hsel j oj cs b hoj) hy h1
      have hfree' : ∀ k ok, ops[k]? = some ok → k ≠ i → (listed.setIfInBounds j true).getD k true = false →
          (∀ e ∈ ok.after, Region.binds md e = true → e.on ≠ i) → oi.apart ops ok = true := fun k ok hk hki hun hno => by
        refine hfree k ok hk hki ?_ hno
        by_cases hjk : j = k
        · subst hjk; exact hjun
        · rw [getD_set_ne true hjk] at hun; exact hun
      refine qOp_mono (fun a' h3 => ih (listed.setIfInBounds j true) a' (inv.set hj hjn) hfree' (ready_mono hr (Ne.symm hji)) h3.1 ?_) h2
      rw [Array.setIfInBounds_comm _ _ hji]
      exact h3.2
theorem anyQ_lex {n g : Nat} {Lq : Act → Prop} (hsel : Region.noSelect ops = true) (hs : Region.sinkB md ops n = true) (hc : Region.chainB md ops n = true) (hn : n < ops.size) :
    ∀ (l : List Oper) (k : Nat) (listed : Array Bool) (a : Act), (∀ j, j < l.length → l[j]? = ops[k + j]?) → k + l.length = n → HeadInv md ops n listed →
    Region.lexHead md ops g l.length k listed = true → wpQuiet P ops C Lq l a →
    anyQ P md ops C n (fun listed' a' => Region.seqB md ops g n listed' = true ∧ Lq a') l.length listed a
  | [], k, listed, a, _, hk, _, hB, h => by
    have : k = n := by simpa using hk
    subst this
    exact ⟨by simpa [Region.lexHead] using hB, h⟩
  | o :: l, k, listed, a, hl, hk, inv, hB, h => by
    have h0 : ops[k]? = some o := by simpa using (hl 0 (by simp)).symm
    simp only [List.length_cons, Region.lexHead, Bool.and_eq_true] at hB
    obtain ⟨⟨hr, hf⟩, hB'⟩ := hB
    have hkn : k < n := by simp only [List.length_cons] at hk; omega
    have hr' : k ∈ Region.ready md ops listed := by simpa using hr
    have hst : qOp P ops C k (wpQuiet P ops C Lq l) a := by unfold qOp; simp only [h0]; exact h
    obtain ⟨v, hy, hK⟩ := yieldsIn_of_qOp h0 hst
    exact anyQ_first h0 (Region.noSelect_spec hsel) hs hc hn hkn (fun listed' a' hL => seqB_ready hL.1) l.length listed a inv (Region.free_spec h0 hf) hr' hy
      (anyQ_lex hsel hs hc hn l (k + 1) _ _ (fun j hj => by have := hl (j + 1) (by simp; omega); simpa [Nat.add_assoc, Nat.add_comm 1 j] using this) (by simp only [List.length_cons] at hk; omega) (inv.set hr' hkn) hB' hK)
/-- One walk of the text's order serves every order; what stands behind is asked at every number of draws. -/
theorem wp_region_quiet_tail {id : Nat} {Q : Exit → Act → World → Prop} {a : Act} {w : World} {l : List Oper} (n : Nat) (hm : P.follows .mixedOrders = true) (hB : Region.lexTailB .any l.toArray n = true)
    (h : wpQuiet P l.toArray (fun w' => ∃ n, w' = w.drewN n) (fun a' => ∀ w', (∃ n, w' = w.drewN n) → wpList P l.toArray Q (l.drop n) a' w') (l.take n) a) : (Code.region id l.toArray true).wp P Q a w := by
  simp only [Region.lexTailB, Bool.and_eq_true, decide_eq_true_eq] at hB
  obtain ⟨⟨⟨⟨hsel, hn⟩, hs⟩, hc⟩, hlex⟩ := hB
  have hn' : n < l.length := by simpa using hn
  have htl : (l.take n).length = n := by simp; omega
  have hdl : (l.drop n).length = l.toArray.size - n := by simp
  have inv0 : HeadInv .any l.toArray n (Array.replicate l.toArray.size false) :=
    ⟨by simp, fun j oj _ hl => (by rw [getD_replicate_false] at hl; cases hl), fun t _ ht => getD_in (by simpa using ht) (getD_replicate_false _ _)⟩
  have H := anyQ_lex (md := .any) (g := l.toArray.size - n) hsel hs hc hn (l.take n) 0 _ a (fun j hj => by
    have hj' : j < n := by rw [htl] at hj; exact hj
    simp [hj']) (by simpa using htl) inv0 (by rw [htl]; exact hlex) h
  refine wp_region_any hm ?_
  have := any_of_head (Q' := Q) (g := l.toArray.size - n) (fun listed a' w' hw' hL => by
    have := wpAny_of_seq (md := .any) (Q' := Q) (l.drop n) n listed a' w' (fun j => by simp [List.getElem?_drop]) (by rw [hdl]; exact hL.1) (hL.2 w' hw')
    rwa [hdl] at this) _ _ _ ({ w with drawn := w.drawn + 1 } : World) ⟨1, rfl⟩ H
  rw [htl, show n + (l.toArray.size - n) = l.toArray.size by omega] at this
  exact this
end Go.Proofs.Ytidogckochpbgaa.R

/- Matrices in memory: one block of row headers, one block a row; reading one that came in; copy into a row. -/
namespace Go.Proofs.Ytidogckochpbgaa.R
open Go.RowKit Go.Deep Go.Proofs.YtidogckochpbgaaW.PrintWords
set_option linter.unusedVariables false
/-- Block g holds the headers of m rows of w cells, block b i the cells of row i: a matrix of the call's own. -/
structure Grid (W : World) (T E base g m w : Nat) (b : Nat → Nat) (A : Nat → Nat → G8) : Prop where
  hd : W.rowIs g T m (fun i => .slice (some ⟨b i, 0, none⟩) w w)
  row : ∀ i, i < m → W.rowIs (b i) E w (fun j => .int .u8 ((A i j).1 : Nat))
  inj : ∀ i j, i < m → j < m → b i = b j → i = j
  ge : base ≤ g
  geb : ∀ i, i < m → base ≤ b i
  te : T ≠ E
/-- W' is W but for what block g holds. -/
structure But (g : Nat) (W W' : World) : Prop where
  os : W'.os = W.os
  tape : W'.tape = W.tape
  output : W'.output = W.output
  size : W'.heap.size = W.heap.size
  block : ∀ k, k ≠ g → W'.heap[k]? = W.heap[k]?
theorem But.undrew {g : Nat} {W W' : World} (h : But g W.drew W') : But g W W' := ⟨h.os, h.tape, h.output, h.size, h.block⟩
theorem But.below {g B : Nat} {W W' : World} (h : But g W W') (hB : B ≤ g) : Below B W W' := ⟨h.os, h.tape, h.output, by rw [h.size]; exact Nat.le_refl _, fun k hk => h.block k (by omega)⟩
theorem rowIs_below {W W' : World} {b t n : Nat} {f : Nat → Value} (h : W.rowIs b t n f) (hb : Below W.heap.size W W') : W'.rowIs b t n f := h.of_block (hb.block _ h.lt)
theorem rowIs_drawn {W W' : World} {b t n : Nat} {f : Nat → Value} (h : W.rowIs b t n f) (hb : Drawn0 W W') : W'.rowIs b t n f := by obtain ⟨k, rfl⟩ := hb.out; exact h
namespace Grid
variable {W : World} {T E base g m w : Nat} {b : Nat → Nat} {A : Nat → Nat → G8}
theorem ne (h : Grid W T E base g m w b A) {i : Nat} (hi : i < m) : b i ≠ g := by
  intro e
  obtain ⟨c, hb, _, _⟩ := h.row i hi
  obtain ⟨c', hb', _, _⟩ := h.hd
  rw [e, hb'] at hb
  injection hb with hb
  injection hb with h1 h2 h3
  exact h.te h2
theorem moved {W' : World} (h : Grid W T E base g m w b A) (hm : ∀ k, base ≤ k → k < W.heap.size → W'.heap[k]? = W.heap[k]?) : Grid W' T E base g m w b A :=
  ⟨h.hd.of_block (hm _ h.ge h.hd.lt), fun i hi => (h.row i hi).of_block (hm _ (h.geb i hi) (h.row i hi).lt), h.inj, h.ge, h.geb, h.te⟩
theorem below {W' : World} (h : Grid W T E base g m w b A) (hb : Below W.heap.size W W') : Grid W' T E base g m w b A := h.moved (fun k _ hk => hb.block k hk)
theorem alloc (h : Grid W T E base g m w b A) (o : Obj) : Grid (W.alloc o) T E base g m w b A := h.moved (fun k _ hk => Below.heap_alloc W o k hk)
theorem drawn {W' : World} (h : Grid W T E base g m w b A) (hb : Drawn0 W W') : Grid W' T E base g m w b A := by obtain ⟨k, rfl⟩ := hb.out; exact h.moved (fun _ _ _ => rfl)
theorem drew (h : Grid W T E base g m w b A) : Grid W.drew T E base g m w b A := h.moved (fun _ _ _ => rfl)
theorem lower {base' : Nat} (h : Grid W T E base g m w b A) (hb : base' ≤ base) : Grid W T E base' g m w b A := ⟨h.hd, h.row, h.inj, Nat.le_trans hb h.ge, fun i hi => Nat.le_trans hb (h.geb i hi), h.te⟩
theorem congr {B : Nat → Nat → G8} (h : Grid W T E base g m w b A) (e : ∀ i j, i < m → j < w → A i j = B i j) : Grid W T E base g m w b B :=
  ⟨h.hd, fun i hi => (h.row i hi).congr (fun j hj => by rw [e i j hi hj]), h.inj, h.ge, h.geb, h.te⟩
theorem grown {W' : World} {row : Option Nat} (h : Grid W T E base g m w b A) (hg : W.grownBy W' row) (h1 : some g ≠ row) (h2 : ∀ i, i < m → some (b i) ≠ row) : Grid W' T E base g m w b A :=
  ⟨h.hd.of_block (hg.block _ h.hd.lt h1), fun i hi => (h.row i hi).of_block (hg.block _ (h.row i hi).lt (h2 i hi)), h.inj, h.ge, h.geb, h.te⟩
/-- One cell is written. -/
theorem put (h : Grid W T E base g m w b A) {i j : Nat} (hi : i < m) (v : G8) : Grid (W.setCell ⟨b i, j, none⟩ (.int .u8 (v.1 : Nat))) T E base g m w b (fun a c => if a = i ∧ c = j then v else A a c) := by
  refine ⟨h.hd.setOther (Ne.symm (h.ne hi)) _, fun a ha => ?_, h.inj, h.ge, h.geb, h.te⟩
  by_cases e : a = i
  · subst e
    refine ((h.row a ha).set j _).congr (fun c _ => ?_)
    by_cases e2 : c = j
    · simp [e2]
    · simp [e2]
  · refine ((h.row a ha).setOther (fun e' => e (h.inj a i ha hi e')) _).congr (fun c _ => ?_)
    simp [e]
/-- A stretch of a row is written. -/
theorem putrow {W' : World} (h : Grid W T E base g m w b A) {i : Nat} (hi : i < m) {off n : Nat} {v : Nat → G8}
    (hr : W'.rowIs (b i) E w (fun j => if off ≤ j ∧ j < off + n then .int .u8 ((v (j - off)).1 : Nat) else .int .u8 ((A i j).1 : Nat))) (hb : But (b i) W W') : Grid W' T E base g m w b (fun a j => if a = i ∧ off ≤ j ∧ j < off + n then v (j - off) else A a j) := by
  refine ⟨h.hd.of_block (hb.block _ (Ne.symm (h.ne hi))), fun a ha => ?_, h.inj, h.ge, h.geb, h.te⟩
  by_cases e : a = i
  · subst e
    refine hr.congr (fun j hj => ?_)
    by_cases e2 : off ≤ j ∧ j < off + n
    · rw [if_pos e2, if_pos ⟨rfl, e2.1, e2.2⟩]
    · rw [if_neg e2, if_neg (fun h => e2 h.2)]
  · refine ((h.row a ha).of_block (hb.block _ (fun e' => e (h.inj a i ha hi e')))).congr (fun j _ => ?_)
    rw [if_neg (fun h => e h.1)]
/-- Two rows change places. -/
theorem swap (h : Grid W T E base g m w b A) {i j : Nat} (hi : i < m) (hj : j < m) :
    Grid ((W.setCell ⟨g, i, none⟩ (.slice (some ⟨b j, 0, none⟩) w w)).setCell ⟨g, j, none⟩ (.slice (some ⟨b i, 0, none⟩) w w)) T E base g m w (fun a => if a = i then b j else if a = j then b i else b a) (LA.sw A i j) := by
  refine ⟨((h.hd.set i _).set j _).congr (fun a ha => ?_), fun a ha => ?_, fun a c ha hc e => ?_, h.ge, fun a ha => ?_, h.te⟩
  · by_cases e1 : a = i
    · by_cases e2 : a = j
      · subst e1; subst e2; simp
      · subst e1; simp [e2]
    · by_cases e2 : a = j
      · subst e2; simp [e1]
      · simp [e1, e2]
  · have key : ∀ k, k < m → ((W.setCell ⟨g, i, none⟩ (.slice (some ⟨b j, 0, none⟩) w w)).setCell ⟨g, j, none⟩ (.slice (some ⟨b i, 0, none⟩) w w)).rowIs (b k) E w (fun l => .int .u8 ((A k l).1 : Nat)) :=
      fun k hk => ((h.row k hk).setOther (h.ne hk) _).setOther (h.ne hk) _
    unfold LA.sw
    by_cases e1 : a = i
    · simp only [if_pos e1]; exact key j hj
    · by_cases e2 : a = j
      · simp only [if_neg e1, if_pos e2]; exact key i hi
      · simp only [if_neg e1, if_neg e2]; exact key a ha
  · have hinj := h.inj
    have key : ∀ a, a < m → ∃ k, k < m ∧ (if a = i then b j else if a = j then b i else b a) = b k ∧ (k = if a = i then j else if a = j then i else a) := by
      intro a ha
      by_cases e1 : a = i
      · exact ⟨j, hj, by simp [e1], by simp [e1]⟩
      · by_cases e2 : a = j
        · exact ⟨i, hi, by simp only [if_neg e1, if_pos e2], by simp only [if_neg e1, if_pos e2]⟩
        · exact ⟨a, ha, by simp [e1, e2], by simp [e1, e2]⟩
    obtain ⟨p, hp, ep, fp⟩ := key a ha
    obtain ⟨q, hq, eq, fq⟩ := key c hc
    rw [ep, eq] at e
    have := hinj p q hp hq e
    rw [fp, fq] at this
    clear ep eq fp fq e key
    (repeat' split at this) <;> omega
  · by_cases e1 : a = i
    · simp only [if_pos e1]; exact h.geb j hj
    · by_cases e2 : a = j
      · simp only [if_neg e1, if_pos e2]; exact h.geb i hi
      · simp only [if_neg e1, if_neg e2]; exact h.geb a ha
end Grid
/-- A matrix that can be read, at the address of its first header. -/
def RdM (W : World) (ad : Addr) (m w : Nat) (M : Nat → Nat → G8) : Prop :=
  ∃ (f : Nat → Addr) (cp : Nat → Nat), ∀ i, i < m → W.cell? (ad.add i) = some (.slice (some (f i)) w (cp i)) ∧ w ≤ cp i ∧ ∀ j, j < w → W.cell? ((f i).add j) = some (.int .u8 ((M i j).1 : Nat))
theorem RdM.below {W W' : World} {ad : Addr} {m w : Nat} {M : Nat → Nat → G8} (h : RdM W ad m w M) (hb : Below W.heap.size W W') : RdM W' ad m w M := by
  obtain ⟨f, cp, h⟩ := h
  refine ⟨f, cp, fun i hi => ?_⟩
  obtain ⟨h1, h2, h3⟩ := h i hi
  exact ⟨pw_cell_below hb h1, h2, fun j hj => pw_cell_below hb (h3 j hj)⟩
theorem Grid.read {W : World} {T E base g m w : Nat} {b : Nat → Nat} {A : Nat → Nat → G8} (h : Grid W T E base g m w b A) : RdM W ⟨g, 0, none⟩ m w A :=
  ⟨fun i => ⟨b i, 0, none⟩, fun _ => w, fun i hi => ⟨by rw [add_plain]; exact h.hd.cell hi, Nat.le_refl _, fun j hj => by rw [add_plain]; exact (h.row i hi).cell hj⟩⟩
/-- copy, as a law for the walk: the cells are told by their indices. -/
theorem wpList_copy_at {P : Program} {W : World} {ops : Array Oper} {rest : List Oper} {o : Oper} {a : Act} {Q : Exit → Act → World → Prop} (hgd : o.guard = none) (d s : Operand) (dT sT : TypeId)
    (ho : o.op = .call { callee := .builtin .copy, args := #[d, s], argTypes := #[dT, sT] }) (elem : TypeId) (hu : P.underlying dT = some (.slice elem)) (hsz : (P.info? elem).map (·.size) = some 1)
    {dp sp : Option Addr} {dLen dCap sLen sCap : Nat} (hd : a.eval d = .slice dp dLen dCap) (hs : a.eval s = .slice sp sLen sCap)
    {g off : Nat} {t : TypeId} {N : Nat} {f : Nat → Value} (hg : W.rowIs g t N f) (n : Nat) (hn : n = min sLen dLen) (v : Nat → Value)
    (hpos : 0 < n → dp = some ⟨g, off, none⟩ ∧ ∃ ad, sp = some ad ∧ ∀ j, j < n → W.cell? (ad.add j) = some (v j))
    (hfit : off + n ≤ N) (h1 : ∀ j, j < n → (v j).oneCell' = true)
    (h : ∀ W', W'.rowIs g t N (fun j => if off ≤ j ∧ j < off + n then v (j - off) else f j) → But g W W' → wpList P ops Q rest (a.put o.dst (goInt n)) W') :
    wpList P ops Q (o :: rest) a W := by
  by_cases h0 : n = 0
  · subst h0
    refine wpList_copy_nothing hgd d s dT sT ho elem hu hsz dp sp dLen dCap sLen sCap hd hs hn.symm ?_
    exact h W (hg.congr (fun i _ => by rw [if_neg (by omega)])) ⟨rfl, rfl, rfl, rfl, fun _ _ => rfl⟩
  · obtain ⟨rfl, ad, rfl, hsrc⟩ := hpos (by omega)
    obtain ⟨c, hb, hN, hc⟩ := hg
    have hl : ((List.range n).map v).length = n := by simp
    refine wpList_copy_own hgd d s dT sT ho elem hu hsz g off dLen dCap ad sLen sCap hd hs c t hb ((List.range n).map v) (by rw [hl]; exact hn) (fun j u hj => ?_) (by rw [hl]; omega) (fun u hu => ?_) ?_
    · have hj' : j < n := by have := (List.getElem?_eq_some_iff.1 hj).1; simpa using this
      rw [List.getElem?_map, List.getElem?_range hj'] at hj
      rw [hsrc j hj']
      simpa using hj
    · obtain ⟨j, hj, rfl⟩ := List.mem_map.1 hu
      exact h1 j (List.mem_range.1 hj)
    · rw [hl]
      refine h _ ⟨_, setRow_heap W g c _ t _ hb, ?_, fun i hi => ?_⟩ ⟨rfl, rfl, rfl, setRow_size _ _ _, fun k hk => setRow_other W g k _ hk⟩
      · simp; omega
      · show _ = some (if off ≤ i ∧ i < off + n then v (i - off) else f i)
        rw [List.getElem?_toArray, List.getElem?_append]
        by_cases e1 : i < off
        · rw [if_pos (by simp; omega), List.getElem?_take, if_pos e1, if_neg (by omega), Array.getElem?_toList]
          exact hc i hi
        · rw [if_neg (by simp; omega), List.getElem?_append]
          have e3 : (c.toList.take off).length = off := by simp; omega
          rw [e3, hl]
          by_cases e2 : i - off < n
          · rw [if_pos e2, if_pos (by omega), List.getElem?_map, List.getElem?_range e2]
            rfl
          · rw [if_neg e2, if_neg (by omega), List.getElem?_drop, Array.getElem?_toList, show off + n + (i - off - n) = i by omega]
            exact hc i hi
theorem quiet_drawn {P : Program} {f : FuncId} {args : Array Value} {w : World} {n : Nat} {v : Value}
    (h : Calls P f args (w.drewN n) fun e w' => e = .returned v ∧ Drawn0 (w.drewN n) w') : Calls P f args (w.drewN n) fun e w'' => e = .returned v ∧ ∃ m, w'' = w.drewN m :=
  Calls.quiet_of (h.mono fun _ _ ⟨he, hd⟩ => ⟨he, hd.out⟩)
/-- A row's rest from cell k on. -/
theorem cut_row {P : Program} (t e : TypeId) (kl : IntKind) {i : TypeInfo} (ht : P.underlying t = some (.slice e)) (hi : P.info? e = some i) (hsz : i.size = 1) (b n cap k : Nat) (hk : k ≤ n) (hc : cap ≠ k) (W : World) :
    (Instr.slice t (.slice (some ⟨b, 0, none⟩) n cap) (some (.int kl (k : Int))) none none).run P W = .ok (.slice (some ⟨b, k, none⟩) (n - k) (cap - k)) W := by
  have := cut_from t e kl ht hi 1 hsz (some ⟨b, 0, none⟩) n cap (k : Int) (by omega) (by omega) W
  rw [Int.toNat_natCast, if_neg hc, Nat.mul_one] at this
  rw [this]
  simp only [Option.map_some, add_plain]
/-- Rows that are made as far as k (make of the headers, then one make a row). -/
structure Mid (W : World) (T E g m w k : Nat) (b : Nat → Nat) : Prop where
  hd : W.rowIs g T m (fun i => if i < k then .slice (some ⟨b i, 0, none⟩) w w else .slice none 0 0)
  row : ∀ i, i < k → W.rowIs (b i) E w (fun j => .int .u8 0)
  inj : ∀ i j, i < k → j < k → b i = b j → i = j
  geb : ∀ i, i < k → g < b i
theorem Mid.step {W : World} {T E g m w k : Nat} {b : Nat → Nat} (h : Mid W T E g m w k b) (hk : k < m) :
    Mid ((W.setCell ⟨g, k, none⟩ (.slice (some ⟨W.heap.size, 0, none⟩) w w)).alloc (.cells (madeCells #[.int .u8 0] w) E)) T E g m w (k + 1) (fun i => if i = k then W.heap.size else b i) := by
  have hg := h.hd.lt
  rw [← World.setCell_alloc_past _ _ _ _ hg]
  have hlt : ∀ i, i < k → b i < W.heap.size := fun i hi => (h.row i hi).lt
  refine ⟨((h.hd.alloc _).set k _).congr (fun i hi => ?_), fun i hi => ?_, fun i j hi hj e => ?_, fun i hi => ?_⟩
  · by_cases e : i = k
    · subst e; simp
    · have : i < k + 1 ↔ i < k := by omega
      simp [e, this]
  · by_cases e : i = k
    · subst e
      simp only [if_true]
      exact (World.rowIs_made W (.int .u8 0) w E).setOther (by simp; omega) _
    · simp only [if_neg e]
      exact ((h.row i (by omega)).alloc _).setOther (by have := h.geb i (by omega); simp; omega) _
  · by_cases e1 : i = k
    · by_cases e2 : j = k
      · omega
      · have := hlt j (by omega); simp [e1, e2] at e; omega
    · by_cases e2 : j = k
      · have := hlt i (by omega); simp [e1, e2] at e; omega
      · simp [e1, e2] at e; exact h.inj i j (by omega) (by omega) e
  · by_cases e : i = k
    · simp [e]; exact hg
    · simp [e]; exact h.geb i (by omega)
theorem Mid.grid {W : World} {T E g m w base : Nat} {b : Nat → Nat} (h : Mid W T E g m w m b) (hb : base ≤ g) (te : T ≠ E) : Grid W T E base g m w b (fun _ _ => 0) :=
  ⟨h.hd.congr (fun i hi => if_pos hi), fun i hi => (h.row i hi).congr (fun _ _ => rfl), h.inj, hb, fun i hi => Nat.le_trans hb (Nat.le_of_lt (h.geb i hi)), te⟩
end Go.Proofs.Ytidogckochpbgaa.R

/- What the printed functions of layer 10 compute that make matrices. -/
namespace Go.Proofs.Ytidogckochpbgaa.R
open Go.RowKit Go.Proofs.YtidogckochpbgaaW.PrintWords Go.Proofs.YtidogckochpbgaaW.PrintLast Go.Proofs.YtidogckochpbgaaW.PrintMore Go.Proofs.Ytidogckochpbgaa.A GP
set_option linter.unusedVariables false
set_option linter.unusedSimpArgs false

theorem wr64 {n : Nat} (h : n < 2 ^ 62) : wrap64 ((n : Int) + 1) = ((n + 1 : Nat) : Int) := by rw [wrap64_id (by omega) (by omega)]; omega
theorem blank_l0 {r c : Nat} (hc : c ≤ 281474976710656) (hr : r ≤ 11728124029610) : ∀ n i : Nat, r - i ≤ n → i ≤ r → Ev (fun k => matrix_blank.l0 k (c : Int) (List.replicate i (List.replicate c (0 : Int)) ++ List.replicate (r - i) ([] : List Int)) (r : Int) (i : Int)) (List.replicate r (List.replicate c (0 : Int))) := by
  have fin : ∀ i : Nat, ¬ i < r → i ≤ r → Ev (fun k => matrix_blank.l0 k (c : Int) (List.replicate i (List.replicate c (0 : Int)) ++ List.replicate (r - i) ([] : List Int)) (r : Int) (i : Int)) (List.replicate r (List.replicate c (0 : Int))) := by
    intro i hi hi2
    obtain rfl : i = r := by omega
    refine Ev.step (fun k => matrix_blank.l0.eq_2 _ _ _ _ k) ?_
    simp only [if_neg (show ¬ ((i : Nat) : Int) < (i : Int) by omega), Nat.sub_self, List.replicate_zero, List.append_nil]
    exact Ev.now _
  intro n
  induction n with
  | zero => intro i h hi; exact fin i (by omega) hi
  | succ n ih =>
    intro i h hi
    by_cases hlt : i < r
    · refine Ev.step (fun k => matrix_blank.l0.eq_2 _ _ _ _ k) ?_
      have hl : (List.replicate i (List.replicate c (0 : Int)) ++ List.replicate (r - i) ([] : List Int)).length = r := by simp; omega
      have hs : (List.replicate i (List.replicate c (0 : Int)) ++ List.replicate (r - i) ([] : List Int)).set i (List.replicate c (0 : Int)) = List.replicate (i + 1) (List.replicate c (0 : Int)) ++ List.replicate (r - (i + 1)) ([] : List Int) := by
        rw [List.set_append_right _ _ (by simp), List.length_replicate, Nat.sub_self, show r - i = (r - (i + 1)) + 1 by omega, List.replicate_succ, List.set_cons_zero, List.replicate_succ', List.append_assoc]
        rfl
      simp only [if_pos (show ((i : Nat) : Int) < (r : Int) by omega), if_pos (show (0 : Int) ≤ (c : Int) by omega), Int.toNat_natCast, if_pos hc, if_pos (show (0 : Int) ≤ (i : Int) by omega), hl, hs, wr64 (n := i) (by omega)]
      exact ih (i + 1) (by omega) (by omega)
    · exact fin i hlt hi
theorem Blank {r c : Nat} (hc : c ≤ 281474976710656) (hr : r ≤ 11728124029610) : Ev (fun k => matrix_blank.f k (r : Int) (c : Int)) (mat r c (fun _ _ => 0)) := by
  unfold matrix_blank.f
  simp only [if_pos (show (0 : Int) ≤ (r : Int) by omega), Int.toNat_natCast, if_pos hr, Option.bind_some, List.length_replicate]
  rw [← replicate_mat]
  have := blank_l0 hc hr r 0 (by omega) (by omega)
  simpa using this
/-- The element of Vandermonde's matrix: row i, column j. -/
def vd (i j : Nat) : Nat := p8 (i % 256) j
theorem vd_lt (i j : Nat) : vd i j < 256 := fpow_lt bl285 _ _
theorem vd_zero (i : Nat) : vd i 0 = 1 := by unfold vd p8; rw [fpow_zero, pmod_one irr8 bl285]
theorem vd_succ (i j : Nat) : vd i (j + 1) = m8 (vd i j) (i % 256) := fpow_succ (by decide) _ j
/-- Vandermonde's matrix, made as far as (i, j). -/
def vdTo (i j : Nat) : Nat → Nat → Nat := fun a b => if a < i ∨ a = i ∧ b < j then vd a b else 0
theorem vdTo_put {r c i j v : Nat} (hi : i < r) (hv : v = vd i j) : (mat r c (vdTo i j)).set i ((rd_L1 (mat r c (vdTo i j)) (i : Int)).set j ((v : Nat) : Int)) = mat r c (vdTo i (j + 1)) := by
  rw [mat_put hi, hv]
  apply mat_congr
  intro a b _ _
  unfold vdTo
  by_cases e : a = i
  · subst e
    by_cases e2 : b = j
    · subst e2; simp
    · have : b < j + 1 ↔ b < j := by omega
      simp [e2, this]
  · simp [e]
theorem vd_l1 {r c : Nat} (hr : r ≤ 256) (hc : c ≤ 512) {i : Nat} (hi : i < r)
    (next : Ev (fun k => matrix_Vandermonde.l0 k (c : Int) (mat r c (vdTo (i + 1) 0)) (r : Int) ((i + 1 : Nat) : Int)) (mat r c vd, (0 : Int))) :
    ∀ n j : Nat, c - j ≤ n → 1 ≤ j → j ≤ c → Ev (fun k => matrix_Vandermonde.l1 k (c : Int) (mat r c (vdTo i j)) (i : Int) (j : Int) (r : Int) (i : Int)) (mat r c vd, (0 : Int)) := by
  have fin : ∀ j : Nat, ¬ j < c → j ≤ c → Ev (fun k => matrix_Vandermonde.l1 k (c : Int) (mat r c (vdTo i j)) (i : Int) (j : Int) (r : Int) (i : Int)) (mat r c vd, (0 : Int)) := by
    intro j hj hj2
    obtain rfl : j = c := by omega
    refine Ev.step (fun k => matrix_Vandermonde.l1.eq_2 _ _ _ _ _ _ k) ?_
    simp only [if_neg (show ¬ ((j : Nat) : Int) < (j : Int) by omega), wr64 (n := i) (by omega)]
    have : mat r j (vdTo i j) = mat r j (vdTo (i + 1) 0) := by
      apply mat_congr
      intro a b _ hb
      unfold vdTo
      have : (a < i ∨ a = i ∧ b < j) ↔ (a < i + 1 ∨ a = i + 1 ∧ b < 0) := by omega
      simp only [this]
    rw [this]
    exact next
  intro n
  induction n with
  | zero => intro j h h1 hj; exact fin j (by omega) hj
  | succ n ih =>
    intro j h h1 hj
    by_cases hlt : j < c
    · refine Ev.step (fun k => matrix_Vandermonde.l1.eq_2 _ _ _ _ _ _ k) ?_
      have hw : wrap64 ((j : Int) - 1) = ((j - 1 : Nat) : Int) := by rw [wrap64_id (by omega) (by omega)]; omega
      have hrow : rd_L1 (mat r c (vdTo i j)) (i : Int) = rowOf c (vdTo i j i) := mat_row hi c _
      have hg : rd (rowOf c (vdTo i j i)) ((j - 1 : Nat) : Int) = ((vd i (j - 1) : Nat) : Int) := by
        rw [rowOf_get (by omega)]
        unfold vdTo
        rw [if_pos (by omega)]
      have hm : (i : Int) % 256 = ((i % 256 : Nat) : Int) := by omega
      have hput := vdTo_put (r := r) (c := c) (i := i) (j := j) (v := m8 (vd i (j - 1)) (i % 256)) hi (by rw [← vd_succ, show j - 1 + 1 = j by omega])
      rw [hrow] at hput
      simp only [if_pos (show ((j : Nat) : Int) < (c : Int) by omega), if_pos (show (0 : Int) ≤ (i : Int) by omega), mat_len, if_pos (show ((i : Nat) : Int) < (r : Int) by omega), hw, if_pos (show (0 : Int) ≤ ((j - 1 : Nat) : Int) by omega), hrow, rowOf_len, if_pos (show ((j - 1 : Nat) : Int) < (c : Int) by omega), hg, hm]
      refine Ev.bind (Mul8 (vd_lt i (j - 1)) (Nat.mod_lt _ (by decide))) ?_
      simp only [if_pos (show (0 : Int) ≤ (j : Int) by omega), Int.toNat_natCast, hput, wr64 (n := j) (by omega)]
      exact ih (j + 1) (by omega) (by omega) (by omega)
    · exact fin j hlt hj
theorem vd_l0 {r c : Nat} (hr : r ≤ 256) (hc : c ≤ 512) (hc1 : 1 ≤ c) : ∀ n i : Nat, r - i ≤ n → i ≤ r → Ev (fun k => matrix_Vandermonde.l0 k (c : Int) (mat r c (vdTo i 0)) (r : Int) (i : Int)) (mat r c vd, (0 : Int)) := by
  have fin : ∀ i : Nat, ¬ i < r → i ≤ r → Ev (fun k => matrix_Vandermonde.l0 k (c : Int) (mat r c (vdTo i 0)) (r : Int) (i : Int)) (mat r c vd, (0 : Int)) := by
    intro i hi hi2
    obtain rfl : i = r := by omega
    refine Ev.step (fun k => matrix_Vandermonde.l0.eq_2 _ _ _ _ k) ?_
    simp only [if_neg (show ¬ ((i : Nat) : Int) < (i : Int) by omega)]
    have : mat i c (vdTo i 0) = mat i c vd := by
      apply mat_congr
      intro a b ha _
      unfold vdTo
      rw [if_pos (.inl ha)]
    rw [this]
    exact Ev.now _
  intro n
  induction n with
  | zero => intro i h hi; exact fin i (by omega) hi
  | succ n ih =>
    intro i h hi
    by_cases hlt : i < r
    · refine Ev.step (fun k => matrix_Vandermonde.l0.eq_2 _ _ _ _ k) ?_
      have hrow : rd_L1 (mat r c (vdTo i 0)) (i : Int) = rowOf c (vdTo i 0 i) := mat_row hlt c _
      have hput := vdTo_put (r := r) (c := c) (i := i) (j := 0) (v := 1) hlt (vd_zero i).symm
      rw [hrow] at hput
      simp only [if_pos (show ((i : Nat) : Int) < (r : Int) by omega), if_pos (show (0 : Int) ≤ (i : Int) by omega), mat_len, hrow, rowOf_len, if_pos (show (0 : Int) < (c : Int) by omega), Int.toNat_natCast, Int.toNat_zero]
      rw [show ((1 : Int)) = ((1 : Nat) : Int) from rfl, hput]
      exact vd_l1 hr hc hlt (ih (i + 1) (by omega) (by omega)) c 1 (by omega) (by omega) hc1
    · exact fin i hlt hi
theorem Vandermonde {r c : Nat} (hr1 : 1 ≤ r) (hr : r ≤ 256) (hc1 : 1 ≤ c) (hc : c ≤ 512) : Ev (fun k => matrix_Vandermonde.f k (r : Int) (c : Int)) (mat r c vd, (0 : Int)) := by
  unfold matrix_Vandermonde.f
  simp only [if_neg (show ¬ (r : Int) < 1 by omega), if_neg (show ¬ (r : Int) > 256 by omega), if_neg (show ¬ (c : Int) < 1 by omega), decide_eq_false (show ¬ (c : Int) > 512 by omega)]
  refine Ev.step (fun k => matrix_Vandermonde.j0.eq_2 _ _ _ k) ?_
  simp only [Bool.false_eq_true, if_false]
  refine Ev.bind (Blank (r := r) (c := c) (by omega) (by omega)) ?_
  simp only [mat_len]
  have := vd_l0 hr hc hc1 r 0 (by omega) (by omega)
  rw [show mat r c (vdTo 0 0) = mat r c (fun _ _ => 0) from mat_congr (fun a b _ _ => by unfold vdTo; rw [if_neg (by omega)])] at this
  exact this
theorem Vandermonde_no {r c : Int} (h : r < 1 ∨ r > 256 ∨ c < 1 ∨ c > 512) : Ev (fun k => matrix_Vandermonde.f k r c) (([] : List (List Int)), (100 : Int)) := by
  have j : Ev (fun k => matrix_Vandermonde.j0 k r c true) (([] : List (List Int)), (100 : Int)) := by
    refine Ev.step (fun k => matrix_Vandermonde.j0.eq_2 _ _ _ k) ?_
    simp only [if_true]
    exact Ev.now _
  unfold matrix_Vandermonde.f
  by_cases h1 : r < 1
  · simp only [if_pos h1]; exact j
  simp only [if_neg h1]
  by_cases h2 : r > 256
  · simp only [if_pos h2]; exact j
  simp only [if_neg h2]
  by_cases h3 : c < 1
  · simp only [if_pos h3]; exact j
  simp only [if_neg h3, decide_eq_true (show c > 512 by omega)]
  exact j
theorem Check_l0 {r c : Nat} (hr1 : 1 ≤ r) (hr : r ≤ 256) (g : Nat → Nat → Nat) : ∀ n i : Nat, r - i ≤ n → i ≤ r → Ev (fun k => matrix_Check.l0 k (mat r c g) (mat r c g) (r : Int) (i : Int)) (0 : Int) := by
  have fin : ∀ i : Nat, ¬ i < r → Ev (fun k => matrix_Check.l0 k (mat r c g) (mat r c g) (r : Int) (i : Int)) (0 : Int) := by
    intro i hi
    refine Ev.step (fun k => matrix_Check.l0.eq_2 _ _ _ _ k) ?_
    simp only [if_neg (show ¬ ((i : Nat) : Int) < (r : Int) by omega)]
    exact Ev.now _
  intro n
  induction n with
  | zero => intro i h hi; exact fin i (by omega)
  | succ n ih =>
    intro i h hi
    by_cases hlt : i < r
    · refine Ev.step (fun k => matrix_Check.l0.eq_2 _ _ _ _ k) ?_
      have h0 : rd_L1 (mat r c g) 0 = rowOf c (g 0) := mat_row (i := 0) (by omega) c g
      simp only [if_pos (show ((i : Nat) : Int) < (r : Int) by omega), if_pos (show (0 : Int) ≤ (i : Int) by omega), mat_len, if_pos (show (0 : Int) < (r : Int) by omega), mat_row hlt, h0, rowOf_len, if_true, wr64 (n := i) (by omega)]
      exact ih (i + 1) (by omega) (by omega)
    · exact fin i hlt
theorem Check_mat {r c : Nat} (hr1 : 1 ≤ r) (hr : r ≤ 256) (hc1 : 1 ≤ c) (hc : c ≤ 512) (g : Nat → Nat → Nat) : Ev (fun k => matrix_Check.f k (mat r c g)) (0 : Int) := by
  have h0 : rd_L1 (mat r c g) 0 = rowOf c (g 0) := mat_row (i := 0) (by omega) c g
  unfold matrix_Check.f
  simp only [mat_len, if_neg (show ¬ (r : Int) < 1 by omega), if_neg (show ¬ (r : Int) > 256 by omega), if_pos (show (0 : Int) < (r : Int) by omega), h0, rowOf_len, if_neg (show ¬ (c : Int) < 1 by omega), decide_eq_false (show ¬ (c : Int) > 512 by omega)]
  refine Ev.step (fun k => matrix_Check.j0.eq_2 _ _ k) ?_
  simp only [Bool.false_eq_true, if_false, mat_len]
  exact Check_l0 hr1 hr g r 0 (by omega) (by omega)
/-- What a filling has made as far as (i, j). -/
def fillTo (t : Nat → Nat → Nat) (i j : Nat) : Nat → Nat → Nat := fun a b => if a < i ∨ a = i ∧ b < j then t a b else 0
theorem fillTo_put {t : Nat → Nat → Nat} {r c i j v : Nat} (hi : i < r) (hv : v = t i j) : (mat r c (fillTo t i j)).set i ((rd_L1 (mat r c (fillTo t i j)) (i : Int)).set j ((v : Nat) : Int)) = mat r c (fillTo t i (j + 1)) := by
  rw [mat_put hi, hv]
  apply mat_congr
  intro a b _ _
  unfold fillTo
  by_cases e : a = i
  · subst e
    by_cases e2 : b = j
    · subst e2; simp
    · have : b < j + 1 ↔ b < j := by omega
      simp [e2, this]
  · simp [e]
theorem fillTo_row {t : Nat → Nat → Nat} (r c i : Nat) : mat r c (fillTo t i c) = mat r c (fillTo t (i + 1) 0) := by
  apply mat_congr
  intro a b _ hb
  unfold fillTo
  have : (a < i ∨ a = i ∧ b < c) ↔ (a < i + 1 ∨ a = i + 1 ∧ b < 0) := by omega
  simp only [this]
theorem fillTo_none {t : Nat → Nat → Nat} (r c : Nat) : mat r c (fillTo t 0 0) = mat r c (fun _ _ => 0) := mat_congr (fun a b _ _ => by unfold fillTo; rw [if_neg (by omega)])
theorem fillTo_all {t : Nat → Nat → Nat} (r c : Nat) : mat r c (fillTo t r 0) = mat r c t := mat_congr (fun a b ha _ => by unfold fillTo; rw [if_pos (.inl ha)])
theorem i8_zero : i8 0 = 0 := by
  show pmod (pp 0 254) 285 = 0
  rw [show (254 : Nat) = 253 + 1 from rfl, pp_succ, cl_zero, pmod_zero_left]
theorem TInv8_any {x : Nat} (hx : x < 256) : ∃ e : Int, gf8_Tables_Inv.f x = some (((i8 x : Nat) : Int), e) := by
  by_cases h : x = 0
  · exact ⟨20, by rw [h, i8_zero]; exact TInv8_zero⟩
  · exact ⟨0, TInv8 hx h⟩
/-- The element of Cauchy's matrix of c columns: row i, column j. -/
def cau (c i j : Nat) : Nat := i8 ((c + i) % 256 ^^^ j % 256)
theorem cau_lt (c i j : Nat) : cau c i j < 256 := i8_lt _
theorem cau_l1 {r c : Nat} (hr : r ≤ 256) (hc : c ≤ 256) {i : Nat} (hi : i < r)
    (next : Ev (fun k => matrix_Cauchy.l0 k (c : Int) (mat r c (fillTo (cau c) (i + 1) 0)) (r : Int) ((i + 1 : Nat) : Int)) (mat r c (cau c), (0 : Int))) :
    ∀ n j : Nat, c - j ≤ n → j ≤ c → Ev (fun k => matrix_Cauchy.l1 k (c : Int) (mat r c (fillTo (cau c) i j)) (i : Int) (r : Int) (i : Int) (c : Int) (j : Int)) (mat r c (cau c), (0 : Int)) := by
  have fin : ∀ j : Nat, ¬ j < c → j ≤ c → Ev (fun k => matrix_Cauchy.l1 k (c : Int) (mat r c (fillTo (cau c) i j)) (i : Int) (r : Int) (i : Int) (c : Int) (j : Int)) (mat r c (cau c), (0 : Int)) := by
    intro j hj hj2
    obtain rfl : j = c := by omega
    refine Ev.step (fun k => matrix_Cauchy.l1.eq_2 _ _ _ _ _ _ _ k) ?_
    simp only [if_neg (show ¬ ((j : Nat) : Int) < (j : Int) by omega), wr64 (n := i) (by omega), fillTo_row]
    exact next
  intro n
  induction n with
  | zero => intro j h hj; exact fin j (by omega) hj
  | succ n ih =>
    intro j h hj
    by_cases hlt : j < c
    · refine Ev.step (fun k => matrix_Cauchy.l1.eq_2 _ _ _ _ _ _ _ k) ?_
      have hw : (wrap64 ((c : Int) + (i : Int))) % 256 = (((c + i) % 256 : Nat) : Int) := by rw [wrap64_id (by omega) (by omega)]; omega
      have hj2 : (j : Int) % 256 = ((j % 256 : Nat) : Int) := by omega
      have hx : Go.bits .xor .u8 (((c + i) % 256 : Nat) : Int) ((j % 256 : Nat) : Int) = (((c + i) % 256 ^^^ j % 256 : Nat) : Int) := bits_xor8 (Nat.mod_lt _ (by decide)) (Nat.mod_lt _ (by decide))
      have hxl : (c + i) % 256 ^^^ j % 256 < 256 := Nat.xor_lt_two_pow (n := 8) (Nat.mod_lt _ (by decide)) (Nat.mod_lt _ (by decide))
      obtain ⟨e, he⟩ := TInv8_any hxl
      have hput := fillTo_put (t := cau c) (r := r) (c := c) (i := i) (j := j) (v := i8 ((c + i) % 256 ^^^ j % 256)) hi rfl
      have hrow : rd_L1 (mat r c (fillTo (cau c) i j)) (i : Int) = rowOf c (fillTo (cau c) i j i) := mat_row hi c _
      rw [hrow] at hput
      simp only [if_pos (show ((j : Nat) : Int) < (c : Int) by omega), if_pos (show (0 : Int) ≤ (i : Int) by omega), mat_len, if_pos (show ((i : Nat) : Int) < (r : Int) by omega), hw, hj2, hx, he, Option.bind_some, if_pos (show (0 : Int) ≤ (j : Int) by omega), hrow, rowOf_len, Int.toNat_natCast, hput, wr64 (n := j) (by omega)]
      exact ih (j + 1) (by omega) (by omega)
    · exact fin j hlt hj
theorem cau_l0 {r c : Nat} (hr : r ≤ 256) (hc : c ≤ 256) : ∀ n i : Nat, r - i ≤ n → i ≤ r → Ev (fun k => matrix_Cauchy.l0 k (c : Int) (mat r c (fillTo (cau c) i 0)) (r : Int) (i : Int)) (mat r c (cau c), (0 : Int)) := by
  have fin : ∀ i : Nat, ¬ i < r → i ≤ r → Ev (fun k => matrix_Cauchy.l0 k (c : Int) (mat r c (fillTo (cau c) i 0)) (r : Int) (i : Int)) (mat r c (cau c), (0 : Int)) := by
    intro i hi hi2
    obtain rfl : i = r := by omega
    refine Ev.step (fun k => matrix_Cauchy.l0.eq_2 _ _ _ _ k) ?_
    simp only [if_neg (show ¬ ((i : Nat) : Int) < (i : Int) by omega), fillTo_all]
    exact Ev.now _
  intro n
  induction n with
  | zero => intro i h hi; exact fin i (by omega) hi
  | succ n ih =>
    intro i h hi
    by_cases hlt : i < r
    · refine Ev.step (fun k => matrix_Cauchy.l0.eq_2 _ _ _ _ k) ?_
      have hrow : rd_L1 (mat r c (fillTo (cau c) i 0)) (i : Int) = rowOf c (fillTo (cau c) i 0 i) := mat_row hlt c _
      simp only [if_pos (show ((i : Nat) : Int) < (r : Int) by omega), if_pos (show (0 : Int) ≤ (i : Int) by omega), mat_len, hrow, rowOf_len]
      exact cau_l1 hr hc hlt (ih (i + 1) (by omega) (by omega)) c 0 (by omega) (by omega)
    · exact fin i hlt hi
theorem Cauchy_mat {r c : Nat} (hr1 : 1 ≤ r) (hc1 : 1 ≤ c) (h : r + c ≤ 256) : Ev (fun k => matrix_Cauchy.f k (r : Int) (c : Int)) (mat r c (cau c), (0 : Int)) := by
  unfold matrix_Cauchy.f
  simp only [if_neg (show ¬ (r : Int) < 1 by omega), if_neg (show ¬ (r : Int) > 256 by omega), if_neg (show ¬ (c : Int) < 1 by omega), if_neg (show ¬ (c : Int) > 256 by omega), wrap64_id (n := (r : Int) + (c : Int)) (by omega) (by omega), decide_eq_false (show ¬ (r : Int) + (c : Int) > 256 by omega)]
  refine Ev.step (fun k => matrix_Cauchy.j0.eq_2 _ _ _ k) ?_
  simp only [Bool.false_eq_true, if_false, gf8_New.f, Option.bind_some]
  refine Ev.bind (Blank (r := r) (c := c) (by omega) (by omega)) ?_
  simp only [mat_len]
  rw [← fillTo_none (t := cau c)]
  exact cau_l0 (by omega) (by omega) r 0 (by omega) (by omega)
theorem Cauchy_no {r c : Int} (h : r < 1 ∨ r > 256 ∨ c < 1 ∨ c > 256 ∨ r + c > 256) : Ev (fun k => matrix_Cauchy.f k r c) (([] : List (List Int)), (100 : Int)) := by
  have j : Ev (fun k => matrix_Cauchy.j0 k r c true) (([] : List (List Int)), (100 : Int)) := by
    refine Ev.step (fun k => matrix_Cauchy.j0.eq_2 _ _ _ k) ?_
    simp only [if_true]
    exact Ev.now _
  unfold matrix_Cauchy.f
  by_cases h1 : r < 1
  · simp only [if_pos h1]; exact j
  simp only [if_neg h1]
  by_cases h2 : r > 256
  · simp only [if_pos h2]; exact j
  simp only [if_neg h2]
  by_cases h3 : c < 1
  · simp only [if_pos h3]; exact j
  simp only [if_neg h3]
  by_cases h4 : c > 256
  · simp only [if_pos h4]; exact j
  simp only [if_neg h4, wrap64_id (n := r + c) (by omega) (by omega), decide_eq_true (show r + c > 256 by omega)]
  exact j
end Go.Proofs.Ytidogckochpbgaa.R

/- Between matrices told by their blocks (Grid, RdM) and by the print's words (Kd.S, Kd.C). -/
namespace Go.Proofs.Ytidogckochpbgaa.R
open Go.RowKit Go.Deep Go.Proofs.YtidogckochpbgaaW.PrintWords
set_option linter.unusedVariables false
theorem row_own {W : World} {b t n base : Nat} {f : Nat → Value} (h : W.rowIs b t n f) (hb : base ≤ b) (hn : n ≤ maxLen) : W.ownsRow base t 1 (.slice (some ⟨b, 0, none⟩) n n) n ((List.range n).map f) := by
  obtain ⟨c, h1, h2, h3⟩ := h
  refine ⟨by simp, .inr ⟨b, n, c, rfl, hb, h1, Nat.le_refl _, hn, by omega, ?_⟩⟩
  apply List.ext_getElem?
  intro i
  rw [Nat.mul_one, List.getElem?_take]
  by_cases hi : i < n
  · rw [if_pos hi, Array.getElem?_toList, h3 i hi, List.getElem?_map, List.getElem?_range hi]
    rfl
  · rw [if_neg hi, List.getElem?_eq_none (by simp; omega)]
theorem rw8_vals (c : Nat) (v : Nat → G8) : encs (Value.int .u8) (rw8 c v) = (List.range c).map fun j => Value.int .u8 ((v j).1 : Nat) := by
  unfold encs rw8 rowOf
  rw [List.map_map]
  rfl
/-- A row of the call's own, of bytes. -/
theorem row_R {W : World} {b E n base : Nat} {v : Nat → G8} {ok : Nat → Prop} (h : W.rowIs b E n (fun j => .int .u8 ((v j).1 : Nat))) (hb : base ≤ b) (hn : n ≤ maxLen) (hok : ok b) : Kd.R (Kd.int .u8) E W base ok (.slice (some ⟨b, 0, none⟩) n n) (rw8 n v) := by
  refine Kd.R_of_own ?_ (fun k hk => ?_)
  · rw [rw8_len, rw8_vals]; exact row_own h hb hn
  · have : b = k := by simpa [Value.ownBlock] using hk
    exact this ▸ hok
open Classical in
/-- Whose row a block is. -/
noncomputable def whose (m : Nat) (b : Nat → Nat) (k : Nat) : Nat := if h : ∃ i, i < m ∧ b i = k then Classical.choose h else m
theorem whose_is {m : Nat} {b : Nat → Nat} (inj : ∀ i j, i < m → j < m → b i = b j → i = j) {i : Nat} (hi : i < m) : whose m b (b i) = i := by
  unfold whose
  rw [dif_pos ⟨i, hi, rfl⟩]
  have := Classical.choose_spec (⟨i, hi, rfl⟩ : ∃ j, j < m ∧ b j = b i)
  exact inj _ _ this.1 hi this.2
/-- A matrix of the call's own, as the print tells it. -/
theorem Grid.toS {W : World} {T E base g m w : Nat} {b : Nat → Nat} {A : Nat → Nat → G8} (h : Grid W T E base g m w b A) (hm : m ≤ maxLen) (hw : w ≤ maxLen) {ok : Nat → Prop} (h1 : ok g) (h2 : ∀ i, i < m → ok (b i)) :
    Kd.S (Kd.slice E (Kd.int .u8)) T W base ok (.slice (some ⟨g, 0, none⟩) m m) (mt m w A) := by
  refine ⟨whose m b, fun k hk => ?_, (List.range m).map (fun i => .slice (some ⟨b i, 0, none⟩) w w), ?_, ?_, ?_⟩
  · have : g = k := by simpa [Value.ownBlock] using hk
    exact this ▸ h1
  · rw [List.length_zipIdx, mt_len]
    exact row_own h.hd h.ge hm
  · rw [List.length_zipIdx, mt_len]; simp [Kd.tag, Kd.slice]
  · intro j p hp
    have hj : j < m := by
      have := (List.getElem?_eq_some_iff.1 hp).1
      rw [List.length_zipIdx, mt_len] at this
      exact this
    have hp' : p = (rw8 w (A j), j) := by
      rw [List.getElem?_zipIdx] at hp
      have e : (mt m w A)[j]? = some (rw8 w (A j)) := by
        unfold mt mat
        rw [List.getElem?_map, List.getElem?_range hj]
        rfl
      rw [e] at hp
      have := Option.some.inj hp
      rw [← this, Nat.zero_add]
    subst hp'
    have hz : (Kd.tag (whose m b) (Kd.slice E (Kd.int .u8))).sz = 1 := rfl
    rw [hz, Nat.mul_one, List.drop_eq_getElem_cons (by simpa using hj)]
    simp only [List.getElem_map, List.getElem_range, List.take_succ_cons, List.take_zero]
    exact ⟨_, rfl, row_R (h.row j hj) (h.geb j hj) hw ⟨⟨h2 j hj, by simp [Value.ownBlock]; exact h.ne hj⟩, whose_is h.inj hj⟩⟩
theorem int_get {W : World} {A : Option Addr} {xs : List Int} {k : IntKind} (h : (Kd.int k).C W A xs.length xs) (hp : 0 < xs.length) : ∃ ad, A = some ad ∧ ∀ j, j < xs.length → W.cell? (ad.add j) = some (.int k (xs.getD j 0)) := by
  obtain ⟨_, _, h3⟩ := h
  obtain ⟨ad, e, hc⟩ := h3 hp
  refine ⟨ad, e, fun j hj => ?_⟩
  obtain ⟨c, hl, hK, hcell⟩ := hc j _ (List.getElem?_eq_getElem hj)
  have hK' : c = [.int k xs[j]] := hK
  subst hK'
  have := hcell 0 _ rfl
  rw [List.getD_eq_getElem?_getD, List.getElem?_eq_getElem hj]
  rw [show j * (Kd.int k).sz + 0 = j from by simp [Kd.int, Kd.scalar]] at this
  exact this
/-- A matrix that came in. -/
theorem rdm_of_C {W : World} {A : Option Addr} {E m c : Nat} {M : Nat → Nat → G8} (hm : 0 < m) (hc : 0 < c) (h : (Kd.slice E (Kd.int .u8)).C W A (mt m c M).length (mt m c M)) : ∃ ad, A = some ad ∧ RdM W ad m c M := by
  obtain ⟨_, _, h3⟩ := h
  obtain ⟨ad, e, hcell⟩ := h3 (by rw [mt_len]; exact hm)
  refine ⟨ad, e, ?_⟩
  have key : ∀ i, ∃ (f : Addr) (cp : Nat), i < m → W.cell? (ad.add i) = some (.slice (some f) c cp) ∧ c ≤ cp ∧ ∀ j, j < c → W.cell? (f.add j) = some (.int .u8 ((M i j).1 : Nat)) := by
    intro i
    by_cases hi : i < m
    · have e1 : (mt m c M)[i]? = some (rw8 c (M i)) := by
        unfold mt mat
        rw [List.getElem?_map, List.getElem?_range hi]
        rfl
      obtain ⟨cs, hl, ⟨A', cp, rfl, hle, hC⟩, hu⟩ := hcell i _ e1
      obtain ⟨f, rfl, hf⟩ := int_get hC (by rw [rw8_len]; exact hc)
      rw [rw8_len] at hle hf
      refine ⟨f, cp, fun _ => ⟨?_, hle, fun j hj => ?_⟩⟩
      · have := hu 0 _ rfl
        rw [rw8_len] at this
        rw [show i * (Kd.slice E (Kd.int .u8)).sz + 0 = i from by simp [Kd.slice]] at this
        exact this
      · rw [hf j hj]
        have := rw8_get hj (M i)
        unfold rd at this
        rw [Int.toNat_natCast] at this
        rw [this]
    · exact ⟨ad, 0, fun h => absurd h hi⟩
  exact ⟨fun i => Classical.choose (key i), fun i => Classical.choose (Classical.choose_spec (key i)), fun i hi => Classical.choose_spec (Classical.choose_spec (key i)) hi⟩
/-- A stretch of a row that came in. -/
theorem cut_mid {P : Program} (t e : TypeId) (kl kh : IntKind) {i : TypeInfo} (ht : P.underlying t = some (.slice e)) (hi : P.info? e = some i) (hsz : i.size = 1) (a : Addr) (n cap lo hi' : Nat) (h1 : lo ≤ hi') (h2 : hi' ≤ cap) (h3 : cap ≠ lo) (W : World) :
    (Instr.slice t (.slice (some a) n cap) (some (.int kl (lo : Int))) (some (.int kh (hi' : Int))) none).run P W = .ok (.slice (some (a.add lo)) (hi' - lo) (cap - lo)) W := by
  have hel : P.elem t = e := by simp [Program.elem, ht]
  have hu : P.underlying t = some (.slice (P.elem t)) := by rw [hel]; exact ht
  rw [run_slice_lh W t (some a) n cap hu kl kh (lo : Int) (hi' : Int) (by omega) (by omega) (by omega), hel]
  simp [sizeOf, typeInfo, hi, hsz, sliced, Result.andThen, h3]
/-- The first row's header. -/
theorem first_row {W : World} {A : Option Addr} {E : Nat} {l : List (List Int)} (hm : 1 ≤ l.length) (hw : 1 ≤ (l.getD 0 []).length) (h : (Kd.slice E (Kd.int .u8)).C W A l.length l) : ∃ ad, A = some ad ∧ ∃ (f : Addr) (cp : Nat), W.cell? ad = some (.slice (some f) (l.getD 0 []).length cp) := by
  obtain ⟨_, _, h3⟩ := h
  obtain ⟨ad, e, hcell⟩ := h3 hm
  have e1 : l[0]? = some (l.getD 0 []) := by rw [List.getD_eq_getElem?_getD, List.getElem?_eq_getElem hm]; rfl
  obtain ⟨cs, hl, ⟨A', cp, rfl, hle, hC⟩, hu⟩ := hcell 0 _ e1
  obtain ⟨f, rfl, hf⟩ := int_get hC hw
  refine ⟨ad, e, f, cp, ?_⟩
  have := hu 0 _ rfl
  rwa [Nat.zero_mul, Nat.zero_add, Addr.add_zero'] at this
end Go.Proofs.Ytidogckochpbgaa.R

/- Lists of rows of whatever lengths, of the call's own; reading such lists that came in. -/
namespace Go.Proofs.Ytidogckochpbgaa.R
open Go.RowKit Go.Deep Go.Proofs.YtidogckochpbgaaW.PrintWords
set_option linter.unusedVariables false
set_option linter.unusedSimpArgs false
/-- Block g holds the headers of m rows, made as far as k; block b i the wd i cells of row i. -/
structure Rag (W : World) (T E base g m k : Nat) (ik : IntKind) (wd b : Nat → Nat) (V : Nat → Nat → Int) : Prop where
  hd : W.rowIs g T m (fun i => if i < k then .slice (some ⟨b i, 0, none⟩) (wd i) (wd i) else .slice none 0 0)
  row : ∀ i, i < k → W.rowIs (b i) E (wd i) (fun j => .int ik (V i j))
  inj : ∀ i j, i < k → j < k → b i = b j → i = j
  ge : base ≤ g
  geb : ∀ i, i < k → base ≤ b i
  te : T ≠ E
namespace Rag
variable {W : World} {T E base g m k : Nat} {ik : IntKind} {wd b : Nat → Nat} {V : Nat → Nat → Int}
theorem ne (h : Rag W T E base g m k ik wd b V) {i : Nat} (hi : i < k) : b i ≠ g := by
  intro e
  obtain ⟨c, hb, _, _⟩ := h.row i hi
  obtain ⟨c', hb', _, _⟩ := h.hd
  rw [e, hb'] at hb
  injection hb with hb
  injection hb with h1 h2 h3
  exact h.te h2
theorem below {W' : World} (h : Rag W T E base g m k ik wd b V) (hb : Below W.heap.size W W') : Rag W' T E base g m k ik wd b V :=
  ⟨rowIs_below h.hd hb, fun i hi => rowIs_below (h.row i hi) hb, h.inj, h.ge, h.geb, h.te⟩
theorem lower {base' : Nat} (h : Rag W T E base g m k ik wd b V) (hb : base' ≤ base) : Rag W T E base' g m k ik wd b V := ⟨h.hd, h.row, h.inj, Nat.le_trans hb h.ge, fun i hi => Nat.le_trans hb (h.geb i hi), h.te⟩
/-- One row more is made, of n noughts. -/
theorem step (h : Rag W T E base g m k ik wd b V) (hk : k < m) (n : Nat) (z : Value) (hz : z = .int ik 0) :
    Rag ((W.setCell ⟨g, k, none⟩ (.slice (some ⟨W.heap.size, 0, none⟩) n n)).alloc (.cells (madeCells #[z] n) E)) T E base g m (k + 1) ik (fun i => if i = k then n else wd i) (fun i => if i = k then W.heap.size else b i) (fun i j => if i = k then 0 else V i j) := by
  subst hz
  have hg := h.hd.lt
  rw [← World.setCell_alloc_past _ _ _ _ hg]
  have hlt : ∀ i, i < k → b i < W.heap.size := fun i hi => (h.row i hi).lt
  refine ⟨((h.hd.alloc _).set k _).congr (fun i hi => ?_), fun i hi => ?_, fun i j hi hj e => ?_, h.ge, fun i hi => ?_, h.te⟩
  · by_cases e : i = k
    · subst e; simp
    · have : i < k + 1 ↔ i < k := by omega
      simp [e, this]
  · by_cases e : i = k
    · subst e
      simp only [if_true]
      exact (World.rowIs_made W (.int ik 0) n E).setOther (by simp; omega) _
    · simp only [if_neg e]
      exact ((h.row i (by omega)).alloc _).setOther (h.ne (by omega)) _
  · by_cases e1 : i = k
    · by_cases e2 : j = k
      · omega
      · have := hlt j (by omega); simp [e1, e2] at e; omega
    · by_cases e2 : j = k
      · have := hlt i (by omega); simp [e1, e2] at e; omega
      · simp [e1, e2] at e; exact h.inj i j (by omega) (by omega) e
  · by_cases e : i = k
    · simp [e]; exact Nat.le_trans h.ge (Nat.le_of_lt hg)
    · simp [e]; exact h.geb i (by omega)
/-- A row is written anew. -/
theorem putrow {W' : World} (h : Rag W T E base g m k ik wd b V) {i : Nat} (hi : i < k) {v : Nat → Int} (hr : W'.rowIs (b i) E (wd i) (fun j => .int ik (v j))) (hb : But (b i) W W') : Rag W' T E base g m k ik wd b (fun a j => if a = i then v j else V a j) := by
  refine ⟨h.hd.of_block (hb.block _ (Ne.symm (h.ne hi))), fun a ha => ?_, h.inj, h.ge, h.geb, h.te⟩
  by_cases e : a = i
  · subst e
    exact hr.congr (fun j _ => by rw [if_pos rfl])
  · refine ((h.row a ha).of_block (hb.block _ (fun e' => e (h.inj a i ha hi e')))).congr (fun j _ => ?_)
    rw [if_neg e]
theorem congr {wd' b' : Nat → Nat} {V' : Nat → Nat → Int} (h : Rag W T E base g m k ik wd b V) (e1 : ∀ i, i < k → wd i = wd' i) (e2 : ∀ i, i < k → b i = b' i) (e3 : ∀ i j, i < k → j < wd' i → V i j = V' i j) : Rag W T E base g m k ik wd' b' V' :=
  ⟨h.hd.congr (fun i _ => by by_cases hi : i < k; (· rw [if_pos hi, if_pos hi, e1 i hi, e2 i hi]); (· rw [if_neg hi, if_neg hi])), fun i hi => by rw [← e1 i hi, ← e2 i hi]; exact (h.row i hi).congr (fun j hj => by rw [e3 i j hi (by rw [← e1 i hi]; exact hj)]), fun i j hi hj e => h.inj i j hi hj (by rw [e2 i hi, e2 j hj]; exact e), h.ge, fun i hi => by rw [← e2 i hi]; exact h.geb i hi, h.te⟩
/-- As the print tells it. -/
theorem toS {l : List (List Int)} (h : Rag W T E base g l.length l.length ik (fun i => (l.getD i []).length) b (fun i j => (l.getD i []).getD j 0)) (hm : l.length ≤ maxLen) (hw : ∀ x, x ∈ l → x.length ≤ maxLen) {ok : Nat → Prop} (h1 : ok g) (h2 : ∀ i, i < l.length → ok (b i)) :
    Kd.S (Kd.slice E (Kd.int ik)) T W base ok (.slice (some ⟨g, 0, none⟩) l.length l.length) l := by
  refine ⟨whose l.length b, fun k hk => ?_, (List.range l.length).map (fun i => .slice (some ⟨b i, 0, none⟩) (l.getD i []).length (l.getD i []).length), ?_, ?_, ?_⟩
  · have : g = k := by simpa [Value.ownBlock] using hk
    exact this ▸ h1
  · rw [List.length_zipIdx]
    exact row_own (h.hd.congr (fun i hi => if_pos hi)) h.ge hm
  · rw [List.length_zipIdx]; simp [Kd.tag, Kd.slice]
  · intro j p hp
    have hj : j < l.length := by
      have := (List.getElem?_eq_some_iff.1 hp).1
      rwa [List.length_zipIdx] at this
    have hget : l.getD j [] = l[j] := by rw [List.getD_eq_getElem?_getD, List.getElem?_eq_getElem hj]; rfl
    have hp' : p = (l.getD j [], j) := by
      rw [List.getElem?_zipIdx, List.getElem?_eq_getElem hj] at hp
      have := Option.some.inj hp
      rw [← this, Nat.zero_add, hget]
    subst hp'
    have hz : (Kd.tag (whose l.length b) (Kd.slice E (Kd.int ik))).sz = 1 := rfl
    rw [hz, Nat.mul_one, List.drop_eq_getElem_cons (by simpa using hj)]
    simp only [List.getElem_map, List.getElem_range, List.take_succ_cons, List.take_zero]
    refine ⟨_, rfl, Kd.R_of_own ?_ (fun k hk => ?_)⟩
    · have hv : encs (Value.int ik) (l.getD j []) = (List.range (l.getD j []).length).map fun q => Value.int ik ((l.getD j []).getD q 0) := by
        unfold encs
        apply List.ext_getElem
        · simp
        · intro q h1 h2
          have hq : q < (l.getD j []).length := by simpa using h1
          simp only [List.getElem_map, List.getElem_range]
          rw [List.getD_eq_getElem?_getD (l := l.getD j []), List.getElem?_eq_getElem hq]
          rfl
      rw [hv]
      exact row_own (h.row j hj) (h.geb j hj) (by rw [hget]; exact hw _ (List.getElem_mem hj))
    · have : b j = k := by simpa [Value.ownBlock] using hk
      subst this
      exact ⟨⟨h2 j hj, by simp [Value.ownBlock]; exact h.ne hj⟩, whose_is h.inj hj⟩
end Rag
/-- A list of rows that can be read. -/
def RdR (W : World) (ad : Addr) (ik : IntKind) (l : List (List Int)) : Prop :=
  ∃ (f : Nat → Option Addr) (cp : Nat → Nat), ∀ i, i < l.length → W.cell? (ad.add i) = some (.slice (f i) (l.getD i []).length (cp i)) ∧ (l.getD i []).length ≤ cp i ∧
    (0 < (l.getD i []).length → ∃ a, f i = some a ∧ ∀ j, j < (l.getD i []).length → W.cell? (a.add j) = some (.int ik ((l.getD i []).getD j 0)))
theorem rdr_of_C {W : World} {A : Option Addr} {E : Nat} {ik : IntKind} {l : List (List Int)} (hm : 0 < l.length) (h : (Kd.slice E (Kd.int ik)).C W A l.length l) : ∃ ad, A = some ad ∧ RdR W ad ik l := by
  obtain ⟨_, _, h3⟩ := h
  obtain ⟨ad, e, hcell⟩ := h3 hm
  refine ⟨ad, e, ?_⟩
  have key : ∀ i, ∃ (f : Option Addr) (cp : Nat), i < l.length → W.cell? (ad.add i) = some (.slice f (l.getD i []).length cp) ∧ (l.getD i []).length ≤ cp ∧ (0 < (l.getD i []).length → ∃ a, f = some a ∧ ∀ j, j < (l.getD i []).length → W.cell? (a.add j) = some (.int ik ((l.getD i []).getD j 0))) := by
    intro i
    by_cases hi : i < l.length
    · have hget : l.getD i [] = l[i] := by rw [List.getD_eq_getElem?_getD, List.getElem?_eq_getElem hi]; rfl
      obtain ⟨cs, hl, ⟨A', cp, rfl, hle, hC⟩, hu⟩ := hcell i _ (List.getElem?_eq_getElem hi)
      refine ⟨A', cp, fun _ => ⟨?_, by rw [hget]; exact hle, fun hp => ?_⟩⟩
      · have := hu 0 _ rfl
        rw [show i * (Kd.slice E (Kd.int ik)).sz + 0 = i from by simp [Kd.slice]] at this
        rw [hget]; exact this
      · rw [hget] at hp ⊢
        exact int_get hC hp
    · exact ⟨none, 0, fun h => absurd h hi⟩
  exact ⟨fun i => Classical.choose (key i), fun i => Classical.choose (Classical.choose_spec (key i)), fun i hi => Classical.choose_spec (Classical.choose_spec (key i)) hi⟩
theorem RdR.below {W W' : World} {ad : Addr} {ik : IntKind} {l : List (List Int)} (h : RdR W ad ik l) (hb : Below W.heap.size W W') : RdR W' ad ik l := by
  obtain ⟨f, cp, h⟩ := h
  refine ⟨f, cp, fun i hi => ?_⟩
  obtain ⟨h1, h2, h3⟩ := h i hi
  refine ⟨pw_cell_below hb h1, h2, fun hp => ?_⟩
  obtain ⟨a, e, hc⟩ := h3 hp
  exact ⟨a, e, fun j hj => pw_cell_below hb (hc j hj)⟩
end Go.Proofs.Ytidogckochpbgaa.R

/- Is a list of lists a matrix: what Check answers, of layer 10 and of the document. -/
namespace Go.Proofs.Ytidogckochpbgaa.R
open Go.RowKit Go.Proofs.YtidogckochpbgaaW.PrintWords Go.Proofs.YtidogckochpbgaaW.PrintLast Go.Proofs.YtidogckochpbgaaW.PrintMore Go.Proofs.Ytidogckochpbgaa.A GP
set_option linter.unusedVariables false
set_option linter.unusedSimpArgs false
/-- 1 to 256 rows of one length from 1 to 512. -/
def chk (l : List (List Int)) : Bool := decide (1 ≤ l.length) && decide (l.length ≤ 256) && decide (1 ≤ (l.getD 0 []).length) && decide ((l.getD 0 []).length ≤ 512) && l.all fun x => decide (x.length = (l.getD 0 []).length)
/-- All elements are bytes. -/
def byt (l : List (List Int)) : Bool := l.all fun x => x.all fun y => decide (0 ≤ y) && decide (y ≤ 255)
/-- The matrix that a list of lists tells. -/
def toM (l : List (List Int)) : Nat → Nat → G8 := fun i j => t8 ((l.getD i []).getD j 0).toNat
/-- Its columns. -/
def wid (l : List (List Int)) : Nat := (l.getD 0 []).length
theorem chk_iff {l : List (List Int)} : chk l = true ↔ (1 ≤ l.length ∧ l.length ≤ 256 ∧ 1 ≤ wid l ∧ wid l ≤ 512 ∧ ∀ x, x ∈ l → x.length = wid l) := by
  unfold chk wid
  simp only [Bool.and_eq_true, decide_eq_true_eq, List.all_eq_true]
  constructor
  · rintro ⟨⟨⟨⟨a, b⟩, c⟩, d⟩, e⟩; exact ⟨a, b, c, d, e⟩
  · rintro ⟨a, b, c, d, e⟩; exact ⟨⟨⟨⟨a, b⟩, c⟩, d⟩, e⟩
theorem byt_iff {l : List (List Int)} : byt l = true ↔ ∀ x, x ∈ l → ∀ y, y ∈ x → 0 ≤ y ∧ y ≤ 255 := by
  unfold byt
  simp only [List.all_eq_true, Bool.and_eq_true, decide_eq_true_eq]
theorem byt_wf {l : List (List Int)} (h : ∀ x, x ∈ l → ∀ y, y ∈ x → (Lit.int .u8 y).wf = true) : byt l = true :=
  byt_iff.2 (fun x hx y hy => by obtain ⟨n, e, hn⟩ := of_u8 (h x hx y hy); omega)
theorem toM_eq {l : List (List Int)} (hc : chk l = true) (hb : byt l = true) : l = mt l.length (wid l) (toM l) := by
  obtain ⟨h1, h2, h3, h4, h5⟩ := chk_iff.1 hc
  have hb' := byt_iff.1 hb
  apply List.ext_getElem
  · rw [mt_len]
  · intro i g1 g2
    have hm := List.getElem_mem g1
    have e1 : l.getD i [] = l[i] := by rw [List.getD_eq_getElem?_getD, List.getElem?_eq_getElem g1]; rfl
    have e0 : (mt l.length (wid l) (toM l))[i] = rowOf (wid l) (fun j => (toM l i j).1) := by simp [mt, mat]
    rw [e0]
    apply List.ext_getElem
    · rw [rowOf_len, h5 _ hm]
    · intro j k1 k2
      have hj := List.getElem_mem k1
      have hy := hb' _ hm _ hj
      have e2 : (l.getD i []).getD j 0 = l[i][j] := by rw [e1, List.getD_eq_getElem?_getD, List.getElem?_eq_getElem k1]; rfl
      have e3 : (rowOf (wid l) (fun j => (toM l i j).1))[j] = (((toM l i j).1 : Nat) : Int) := by simp [rowOf]
      rw [e3]
      unfold toM
      rw [e2, t8_val (by omega)]
      omega
theorem toM_mt {m c : Nat} {A : Nat → Nat → G8} {i j : Nat} (hi : i < m) (hj : j < c) : toM (mt m c A) i j = A i j := by
  have e1 := mt_row hi c A
  have e2 := rw8_get hj (A i)
  unfold rd_L1 at e1
  unfold rd at e2
  rw [Int.toNat_natCast] at e1 e2
  unfold toM
  rw [e1, e2, Int.toNat_natCast, t8_of]
theorem wid_mt {m c : Nat} {A : Nat → Nat → G8} (hm : 1 ≤ m) : wid (mt m c A) = c := by
  have e1 := mt_row (i := 0) (show 0 < m by omega) c A
  unfold rd_L1 at e1
  rw [Int.toNat_natCast] at e1
  unfold wid
  rw [e1, rw8_len]
theorem chk_mt {m c : Nat} {A : Nat → Nat → G8} (h1 : 1 ≤ m) (h2 : m ≤ 256) (h3 : 1 ≤ c) (h4 : c ≤ 512) : chk (mt m c A) = true := by
  rw [chk_iff, mt_len, wid_mt h1]
  refine ⟨h1, h2, h3, h4, fun x hx => ?_⟩
  unfold mt mat at hx
  obtain ⟨i, _, rfl⟩ := List.mem_map.1 hx
  exact rowOf_len _ _
theorem byt_mt {m c : Nat} {A : Nat → Nat → G8} : byt (mt m c A) = true := by
  rw [byt_iff]
  intro x hx y hy
  unfold mt mat at hx
  obtain ⟨i, _, rfl⟩ := List.mem_map.1 hx
  unfold rowOf at hy
  obtain ⟨j, _, rfl⟩ := List.mem_map.1 hy
  have h := (A i j).lt
  show 0 ≤ (((A i j).v : Nat) : Int) ∧ (((A i j).v : Nat) : Int) ≤ 255
  omega
theorem rdl {l : List (List Int)} {i : Nat} : rd_L1 l (i : Int) = l.getD i [] := by unfold rd_L1; rw [Int.toNat_natCast]
theorem all_from {l : List (List Int)} {c : Nat} : (∀ x, x ∈ l → x.length = c) ↔ ∀ i, i < l.length → (l.getD i []).length = c := by
  constructor
  · intro h i hi
    rw [List.getD_eq_getElem?_getD, List.getElem?_eq_getElem hi]
    exact h _ (List.getElem_mem hi)
  · intro h x hx
    obtain ⟨i, hi, rfl⟩ := List.getElem_of_mem hx
    have := h i hi
    rwa [List.getD_eq_getElem?_getD, List.getElem?_eq_getElem hi] at this
theorem Check_any_l0 {l : List (List Int)} (h1 : 1 ≤ l.length) (h2 : l.length ≤ 256) : ∀ n i : Nat, l.length - i ≤ n → i ≤ l.length →
    Ev (fun k => matrix_Check.l0 k l l (l.length : Int) (i : Int)) (if ∀ j, j < l.length → i ≤ j → (l.getD j []).length = wid l then (0 : Int) else 100) := by
  intro n
  induction n with
  | zero =>
    intro i h hi
    refine Ev.step (fun k => matrix_Check.l0.eq_2 _ _ _ _ k) ?_
    simp only [if_neg (show ¬ ((i : Nat) : Int) < (l.length : Int) by omega)]
    rw [if_pos (fun j _ _ => by omega)]
    exact Ev.now _
  | succ n ih =>
    intro i h hi
    refine Ev.step (fun k => matrix_Check.l0.eq_2 _ _ _ _ k) ?_
    by_cases hlt : i < l.length
    · have r0 : rd_L1 l 0 = l.getD 0 [] := rdl (i := 0)
      simp only [if_pos (show ((i : Nat) : Int) < (l.length : Int) by omega), if_pos (show (0 : Int) ≤ (i : Int) by omega), if_pos (show (0 : Int) < (l.length : Int) by omega), rdl, r0]
      by_cases e : (l.getD i []).length = wid l
      · have e' : ((l.getD i []).length : Int) = ((l.getD 0 []).length : Int) := by unfold wid at e; omega
        simp only [if_pos e', wr64 (n := i) (by omega)]
        have := ih (i + 1) (by omega) (by omega)
        have iff : (∀ j, j < l.length → i + 1 ≤ j → (l.getD j []).length = wid l) ↔ (∀ j, j < l.length → i ≤ j → (l.getD j []).length = wid l) :=
          ⟨fun h j hjl hj => by by_cases e1 : j = i; (· rw [e1]; exact e); (· exact h j hjl (by omega)), fun h j hjl hj => h j hjl (by omega)⟩
        simp only [iff] at this
        exact this
      · have e' : ¬ ((l.getD i []).length : Int) = ((l.getD 0 []).length : Int) := by unfold wid at e; omega
        simp only [if_neg e']
        rw [if_neg (fun h => e (h i hlt (Nat.le_refl _)))]
        exact Ev.now _
    · simp only [if_neg (show ¬ ((i : Nat) : Int) < (l.length : Int) by omega)]
      rw [if_pos (fun j _ _ => by omega)]
      exact Ev.now _
theorem Check_any (l : List (List Int)) : Ev (fun k => matrix_Check.f k l) (if chk l = true then (0 : Int) else 100) := by
  have j : Ev (fun k => matrix_Check.j0 k l true) (100 : Int) := by
    refine Ev.step (fun k => matrix_Check.j0.eq_2 _ _ k) ?_
    simp only [if_true]
    exact Ev.now _
  have r0 : rd_L1 l 0 = l.getD 0 [] := rdl (i := 0)
  unfold matrix_Check.f
  by_cases h1 : (l.length : Int) < 1
  · rw [if_neg (fun h => by have := (chk_iff.1 h).1; omega)]
    simp only [if_pos h1]; exact j
  simp only [if_neg h1]
  by_cases h2 : (l.length : Int) > 256
  · rw [if_neg (fun h => by have := (chk_iff.1 h).2.1; omega)]
    simp only [if_pos h2]; exact j
  simp only [if_neg h2, if_pos (show (0 : Int) < (l.length : Int) by omega), r0]
  by_cases h3 : ((l.getD 0 []).length : Int) < 1
  · rw [if_neg (fun h => by have := (chk_iff.1 h).2.2.1; unfold wid at this; omega)]
    simp only [if_pos h3]; exact j
  simp only [if_neg h3]
  by_cases h4 : ((l.getD 0 []).length : Int) > 512
  · rw [if_neg (fun h => by have := (chk_iff.1 h).2.2.2.1; unfold wid at this; omega)]
    simp only [decide_eq_true h4]; exact j
  simp only [decide_eq_false h4]
  refine Ev.step (fun k => matrix_Check.j0.eq_2 _ _ k) ?_
  simp only [Bool.false_eq_true, if_false]
  have := Check_any_l0 (l := l) (by omega) (by omega) l.length 0 (by omega) (by omega)
  have iff : (∀ j, j < l.length → 0 ≤ j → (l.getD j []).length = wid l) ↔ chk l = true := by
    rw [chk_iff, all_from]
    unfold wid
    exact ⟨fun h => ⟨by omega, by omega, by omega, by omega, fun i hi => h i hi (Nat.zero_le _)⟩, fun h j hj _ => h.2.2.2.2 j hj⟩
  simp only [iff] at this
  exact this
theorem RCheck_any_l0 {l : List (List Int)} (h1 : 1 ≤ l.length) (h2 : l.length ≤ 256) : ∀ n i : Nat, l.length - i ≤ n → i ≤ l.length →
    Ev (fun k => culletref10_Check.l0 k l (i : Int)) (if ∀ j, j < l.length → i ≤ j → (l.getD j []).length = wid l then (0 : Int) else 100) := by
  intro n
  induction n with
  | zero =>
    intro i h hi
    refine Ev.step (fun k => culletref10_Check.l0.eq_2 _ _ k) ?_
    simp only [if_neg (show ¬ ((i : Nat) : Int) < (l.length : Int) by omega)]
    rw [if_pos (fun j _ _ => by omega)]
    exact Ev.now _
  | succ n ih =>
    intro i h hi
    refine Ev.step (fun k => culletref10_Check.l0.eq_2 _ _ k) ?_
    by_cases hlt : i < l.length
    · have r0 : rd_L1 l 0 = l.getD 0 [] := rdl (i := 0)
      simp only [if_pos (show ((i : Nat) : Int) < (l.length : Int) by omega), if_pos (show (0 : Int) ≤ (i : Int) by omega), if_pos (show (0 : Int) < (l.length : Int) by omega), rdl, r0]
      by_cases e : (l.getD i []).length = wid l
      · have e' : ((l.getD i []).length : Int) = ((l.getD 0 []).length : Int) := by unfold wid at e; omega
        simp only [if_pos e', wr64 (n := i) (by omega)]
        have := ih (i + 1) (by omega) (by omega)
        have iff : (∀ j, j < l.length → i + 1 ≤ j → (l.getD j []).length = wid l) ↔ (∀ j, j < l.length → i ≤ j → (l.getD j []).length = wid l) :=
          ⟨fun h j hjl hj => by by_cases e1 : j = i; (· rw [e1]; exact e); (· exact h j hjl (by omega)), fun h j hjl hj => h j hjl (by omega)⟩
        simp only [iff] at this
        exact this
      · have e' : ¬ ((l.getD i []).length : Int) = ((l.getD 0 []).length : Int) := by unfold wid at e; omega
        simp only [if_neg e']
        rw [if_neg (fun h => e (h i hlt (Nat.le_refl _)))]
        exact Ev.now _
    · simp only [if_neg (show ¬ ((i : Nat) : Int) < (l.length : Int) by omega)]
      rw [if_pos (fun j _ _ => by omega)]
      exact Ev.now _
theorem RCheck_any (l : List (List Int)) : Ev (fun k => culletref10_Check.f k l) (if chk l = true then (0 : Int) else 100) := by
  have j : Ev (fun k => culletref10_Check.j0 k l true) (100 : Int) := by
    refine Ev.step (fun k => culletref10_Check.j0.eq_2 _ _ k) ?_
    simp only [if_true]
    exact Ev.now _
  have r0 : rd_L1 l 0 = l.getD 0 [] := rdl (i := 0)
  unfold culletref10_Check.f
  by_cases h1 : (l.length : Int) < 1
  · rw [if_neg (fun h => by have := (chk_iff.1 h).1; omega)]
    simp only [if_pos h1]; exact j
  simp only [if_neg h1]
  by_cases h2 : (l.length : Int) > 256
  · rw [if_neg (fun h => by have := (chk_iff.1 h).2.1; omega)]
    simp only [if_pos h2]; exact j
  simp only [if_neg h2, if_pos (show (0 : Int) < (l.length : Int) by omega), r0]
  by_cases h3 : ((l.getD 0 []).length : Int) < 1
  · rw [if_neg (fun h => by have := (chk_iff.1 h).2.2.1; unfold wid at this; omega)]
    simp only [if_pos h3]; exact j
  simp only [if_neg h3]
  by_cases h4 : ((l.getD 0 []).length : Int) > 512
  · rw [if_neg (fun h => by have := (chk_iff.1 h).2.2.2.1; unfold wid at this; omega)]
    simp only [decide_eq_true h4]; exact j
  simp only [decide_eq_false h4]
  refine Ev.step (fun k => culletref10_Check.j0.eq_2 _ _ k) ?_
  simp only [Bool.false_eq_true, if_false]
  have := RCheck_any_l0 (l := l) (by omega) (by omega) l.length 0 (by omega) (by omega)
  have iff : (∀ j, j < l.length → 0 ≤ j → (l.getD j []).length = wid l) ↔ chk l = true := by
    rw [chk_iff, all_from]
    unfold wid
    exact ⟨fun h => ⟨by omega, by omega, by omega, by omega, fun i hi => h i hi (Nat.zero_le _)⟩, fun h j hj _ => h.2.2.2.2 j hj⟩
  simp only [iff] at this
  exact this
end Go.Proofs.Ytidogckochpbgaa.R
