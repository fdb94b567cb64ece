/- What a law's argument of any kind (whole numbers, bools, strings, slices, structs, one within another) reads as: out of the row's reading, with the sizes that its weights allow. -/
import Derived.Test.YthldahaimcdejaaDoorZ1
import Derived.SizedLaws
import Derived.ChangeSlices
import Derived.ChangeArms

namespace Go.Proofs.YthldahaimcdejaaDoor.Opn
open Go.ChangeShapes Go.WideShapes Go.RowKit Go.Proofs.YthldahaimcdejaaDoorW.PrintWords
set_option linter.unusedVariables false
set_option linter.unusedSectionVars false

/-- The data of type t, of any memory, are of kind d, and 'ok' holds of what they tell. -/
def Opn (P : Program) (t : TypeId) {α : Type} (d : Kd α) (ok : α → Prop) : Prop :=
  ∀ {H : Type} (enc : TypeId × Value → H) (w : World) (base : Nat) (spare : Nat → Bool) (held : Bool) (fuel : Nat) (cs : List Value) (dd : DataW H) (ps : List MemPlace),
    DataW.trod enc P w base spare held fuel t cs = some (dd, ps) → (∀ n ∈ dd.weights P t, n ≤ reachBytes) → ∃ x, d.K w x cs ∧ ok x
variable {P : Program} {t e : TypeId} {α β : Type} {d : Kd α} {ok : α → Prop}
theorem opn_int {k : IntKind} (hu : P.underlying t = some (.int k)) : Opn P t (Kd.int k) (fun x => (Lit.int k x).wf = true) := by
  intro H enc w base spare held fuel cs dd ps h _
  cases fuel with
  | zero => simp [DataW.trod] at h
  | succ n =>
    unfold DataW.trod at h
    rw [hu] at h
    split at h <;> simp_all
    obtain ⟨⟨hk, hwf⟩, _⟩ := h
    subst hk
    exact ⟨_, rfl, hwf⟩
theorem opn_str (hu : P.underlying t = some .string) : Opn P t Kd.string (fun s => s.size ≤ 140737488351232) := by
  intro H enc w base spare held fuel cs dd ps h hw
  cases fuel with
  | zero => simp [DataW.trod] at h
  | succ n =>
    unfold DataW.trod at h
    rw [hu] at h
    split at h <;> simp_all
    rename_i s
    refine ⟨s, rfl, ?_⟩
    have := hw s.data.toList.length (by rw [← h.2.1]; simp [DataW.weights])
    simpa [reachBytes] using this
theorem addr_add (a : Addr) (m n : Nat) : a.add (m + n) = (a.add m).add n := by
  unfold Addr.add
  by_cases hm : m = 0 <;> by_cases hn : n = 0 <;> simp [hm, hn, Nat.add_assoc]
theorem exists_list {Q : Nat → α → Prop} : ∀ n, (∀ i, i < n → ∃ x, Q i x) → ∃ l : List α, l.length = n ∧ ∀ i x, l[i]? = some x → Q i x := by
  intro n
  induction n with
  | zero => intro _; exact ⟨[], rfl, fun i x h => by simp at h⟩
  | succ n ih =>
    intro h
    obtain ⟨l, hl, hq⟩ := ih (fun i hi => h i (by omega))
    obtain ⟨x, hx⟩ := h n (by omega)
    refine ⟨l ++ [x], by simp [hl], ?_⟩
    intro i y hy
    by_cases hi : i < n
    · rw [List.getElem?_append_left (by omega)] at hy; exact hq i y hy
    · have hlt := (List.getElem?_eq_some_iff.1 hy).1
      rw [List.length_append, List.length_singleton] at hlt
      have : i = l.length := by omega
      subst this
      rw [List.getElem?_append_right (by omega)] at hy
      simp at hy
      subst hy
      rw [hl]; exact hx
theorem cells_get {w : World} {base : Nat} {a : Addr} {n : Nat} {c : List Value} (h : w.cells? base a n = some c) : c.length = n ∧ ∀ i u, c[i]? = some u → w.cell? (a.add i) = some u := by
  unfold World.cells? at h
  split at h
  · have hl := mapM_some_length h
    rw [List.length_range] at hl
    refine ⟨hl, ?_⟩
    intro i u hu
    have hi := (List.getElem?_eq_some_iff.1 hu).1
    have := mapM_some_get h i i (by rw [List.getElem?_range (by omega)])
    rw [this]; exact hu
  · cases h
theorem weights_all {H : Type} {ds : List (DataW H)} {x : DataW H} (h : x ∈ ds) : ∀ n ∈ x.weights P e, n ∈ DataW.weightsAll P e ds := by
  induction ds with
  | nil => cases h
  | cons y r ih =>
    intro n hn
    rw [DataW.weightsAll, List.mem_append]
    rcases List.mem_cons.1 h with rfl | h
    · exact .inl hn
    · exact .inr (ih h n hn)
theorem opn_slice {B : Nat} (hu : P.underlying t = some (.slice e)) (hd : Opn P e d ok) (hc : P.cellsOf e = d.sz) (hB : P.bytesOf e = B) :
    Opn P t (Kd.slice e d) (fun l => l.length * B ≤ 140737488351232 ∧ ∀ x ∈ l, ok x) := by
  intro H enc w base spare held fuel cs dd ps h hw
  rcases DataW.trod_slice hu h with ⟨rfl, _⟩ | ⟨a, len, cap, elems, rest, n, rfl, rfl, hx, hb, hl, hm, hlen, hel, _, _⟩
  · exact ⟨[], ⟨none, 0, rfl, Nat.le_refl _, Kd.C_nil d w⟩, by simp, fun x hx => by cases hx⟩
  · obtain ⟨rfl, _⟩ := Prod.mk.inj hx
    have each : ∀ i, i < len → ∃ x, (∃ c, w.cells? base (a.add (i * P.cellsOf e)) (P.cellsOf e) = some c ∧ d.K w x c) ∧ ok x := by
      intro i hi
      have h1 := hel i hi
      have hi2 : i < elems.length := by omega
      rw [List.getElem?_eq_getElem hi2] at h1
      obtain ⟨c, hc1, hc2⟩ := Option.bind_eq_some_iff.1 h1
      obtain ⟨x, hk, ho⟩ := hd enc w base spare held n c elems[i].1 elems[i].2 hc2 (by
        intro m hm2
        apply hw m
        simp only [DataW.weights, hu, List.mem_cons, List.mem_append]
        exact .inr (.inl (weights_all (List.mem_map.2 ⟨elems[i], List.getElem_mem hi2, rfl⟩) m hm2)))
      exact ⟨x, ⟨c, hc1, hk⟩, ho⟩
    obtain ⟨l, hll, hq⟩ := exists_list len each
    have hlb : l.length * B ≤ 140737488351232 := by
      have := hw ((elems.map (·.1)).length + (rest.map (·.1)).length |>.mul (P.bytesOf e)) (by simp [DataW.weights, hu])
      rw [List.length_map, List.length_map, hB, hlen] at this
      have h2 : l.length * B ≤ (len + rest.length) * B := Nat.mul_le_mul_right _ (by omega)
      have h3 : (len + rest.length).mul B = (len + rest.length) * B := rfl
      rw [h3] at this
      have h4 : reachBytes = 140737488351232 := by decide
      omega
    refine ⟨l, ⟨some a, cap, by rw [hll], by omega, ⟨rfl, by unfold maxLen at hm; omega, fun _ => ⟨a, rfl, ?_⟩⟩⟩, hlb, ?_⟩
    · intro j p hp
      obtain ⟨⟨c, hc1, hk⟩, _⟩ := hq j p hp
      obtain ⟨hcl, hcg⟩ := cells_get hc1
      refine ⟨c, by rw [hcl, hc], hk, ?_⟩
      intro i u hu2
      have := hcg i u hu2
      rw [hc] at this
      rw [← this]
      rw [addr_add]
    · intro x hx
      obtain ⟨i, hi, rfl⟩ := List.mem_iff_getElem.1 hx
      exact (hq i _ (List.getElem?_eq_getElem hi)).2
/-- The fields of a struct, from a place on. -/
def OpnF (P : Program) (fs : List Field) (off : Nat) {α : Type} (d : Kd α) (ok : α → Prop) : Prop :=
  ∀ {H : Type} (enc : TypeId × Value → H) (w : World) (base : Nat) (spare : Nat → Bool) (held : Bool) (fuel : Nat) (cs : List Value) (xs : List (DataW H × List MemPlace)),
    (fs.mapM fun f => DataW.trod enc P w base spare held fuel f.type ((cs.drop f.offset).take (P.cellsOf f.type))) = some xs → cs.length = off + d.sz →
    (∀ n ∈ DataW.weightsEach P (fs.map (·.type)) (xs.map (·.1)), n ≤ reachBytes) → ∃ x, d.K w x (cs.drop off) ∧ ok x
theorem opnF_last {f : Field} {off : Nat} (hf : f.offset = off) (hs : P.cellsOf f.type = d.sz) (h : Opn P f.type d ok) : OpnF P [f] off d ok := by
  intro H enc w base spare held fuel cs xs hm hl hw
  simp only [List.mapM_cons, List.mapM_nil, Option.pure_def, Option.bind_eq_bind, Option.bind_eq_some_iff] at hm
  obtain ⟨y, hy, z, hz, hyz⟩ := hm
  cases hz
  have := Option.some.inj hyz
  subst this
  rw [hf, hs, List.take_of_length_le (by rw [List.length_drop]; omega)] at hy
  exact h enc w base spare held fuel _ y.1 y.2 hy (fun n hn => hw n (by simp [DataW.weightsEach, hn]))
theorem opnF_cons {f : Field} {fs : List Field} {off : Nat} {db : Kd β} {okb : β → Prop} (hf : f.offset = off) (hs : P.cellsOf f.type = d.sz) (h : Opn P f.type d ok) (hr : OpnF P fs (off + d.sz) db okb) :
    OpnF P (f :: fs) off (Kd.pair d db) (fun x => ok x.1 ∧ okb x.2) := by
  intro H enc w base spare held fuel cs xs hm hl hw
  have hl : cs.length = off + (d.sz + db.sz) := hl
  simp only [List.mapM_cons, Option.pure_def, Option.bind_eq_bind, Option.bind_eq_some_iff] at hm
  obtain ⟨y, hy, z, hz, hyz⟩ := hm
  have := Option.some.inj hyz
  subst this
  rw [hf, hs] at hy
  have hw' : ∀ n ∈ DataW.weightsEach P (f.type :: fs.map (·.type)) (y.1 :: z.map (·.1)), n ≤ reachBytes := hw
  obtain ⟨x, hx, hox⟩ := h enc w base spare held fuel _ y.1 y.2 hy (fun n hn => hw' n (by rw [DataW.weightsEach, List.mem_append]; exact .inl hn))
  obtain ⟨x2, hx2, hox2⟩ := hr enc w base spare held fuel cs z hz (by omega) (fun n hn => hw' n (by rw [DataW.weightsEach, List.mem_append]; exact .inr hn))
  refine ⟨(x, x2), ⟨_, _, ?_, hx, hx2⟩, hox, hox2⟩
  rw [← List.drop_drop, List.take_append_drop]
theorem opn_struct {fs : Array Field} {f : β → α} {g : α → β} (hu : P.underlying t = some (.struct fs)) (hc : P.cellsOf t = d.sz) (h : OpnF P fs.toList 0 d ok) (hfg : ∀ x, f (g x) = x) :
    Opn P t (Kd.iso d f) (fun x => ok (f x)) := by
  intro H enc w base spare held fuel cs dd ps ht hw
  cases fuel with
  | zero => simp [DataW.trod] at ht
  | succ n =>
    unfold DataW.trod at ht
    rw [hu] at ht
    split at ht <;> simp_all
    obtain ⟨hl, a, hm, rfl, rfl⟩ := ht
    obtain ⟨x, hx, hox⟩ := h enc w base spare held n _ a hm (by omega) (fun n hn => hw n (by simp [DataW.weights, hu]; simpa using hn))
    refine ⟨g x, ?_, by rw [hfg]; exact hox⟩
    show d.K w (f (g x)) _
    rw [hfg]
    simpa using hx
/-- A parameter. -/
theorem param {H : Type} {enc : TypeId × Value → H} {W : World} {base : Nat} {spare : Nat → Bool} {held : Bool} {v : Value} {dd : DataW H} {ps : List MemPlace} {ts : List TypeId} {ds : List (DataW H)} {j : Nat}
    (ho : Opn P t d ok) (hsz : (DataW.weightsEach P ts ds).all (· ≤ reachBytes) = true) (ht : ts[j]? = some t) (hd : ds[j]? = some dd) (h : DataW.Trod enc P W base spare held t v dd ps) : ∃ x, d.K W x v.cells.toList ∧ ok x := by
  obtain ⟨fuel, hf⟩ := h
  exact ho enc W base spare held fuel _ dd ps hf (fun n hn => by
    have := List.all_eq_true.1 hsz n (DataW.weights_mem_each ht hd n hn)
    simpa using this)
/-- A parameter that is a slice: its address, its capacity, its list. -/
theorem param_slice {H : Type} {enc : TypeId × Value → H} {W : World} {base : Nat} {spare : Nat → Bool} {held : Bool} {a : Option Addr} {len cap : Nat} {dd : DataW H} {ps : List MemPlace} {ts : List TypeId} {ds : List (DataW H)} {j : Nat} {okl : List α → Prop}
    (ho : Opn P t (Kd.slice e d) okl) (hsz : (DataW.weightsEach P ts ds).all (· ≤ reachBytes) = true) (ht : ts[j]? = some t) (hd : ds[j]? = some dd) (h : DataW.Trod enc P W base spare held t (.slice a len cap) dd ps) :
    ∃ l, l.length = len ∧ l.length ≤ cap ∧ d.C W a l.length l ∧ okl l := by
  obtain ⟨l, ⟨A, c, hcs, hlc, hC⟩, hok⟩ := param ho hsz ht hd h
  have hcs' : [Value.slice a len cap] = [Value.slice A l.length c] := hcs
  simp only [List.cons.injEq, Value.slice.injEq, and_true] at hcs'
  obtain ⟨rfl, rfl, rfl⟩ := hcs'
  exact ⟨l, rfl, hlc, hC, hok⟩
end Go.Proofs.YthldahaimcdejaaDoor.Opn
