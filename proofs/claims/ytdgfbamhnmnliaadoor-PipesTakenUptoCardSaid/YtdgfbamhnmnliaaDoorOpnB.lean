/- What an argument reads as where its bulk is bounded: as Opn, with the bound on lengths that the bulk gives. -/
import Derived.Test.YtdgfbamhnmnliaaDoorRows
import Derived.Test.YtdgfbamhnmnliaaDoorOpn
namespace Go.Proofs.YtdgfbamhnmnliaaDoor.Opn
open Go.ChangeShapes Go.WideShapes Go.RowKit Go.Proofs.YtdgfbamhnmnliaaDoorW.PrintWords
set_option linter.unusedVariables false
set_option linter.unusedSectionVars false
theorem bulk_one {H : Type} (d : DataW H) : 1 ≤ Rows.uptoBulk d := by
  cases d with
  | lit l => cases l <;> simp [Rows.uptoBulk]
  | _ => simp [Rows.uptoBulk]
theorem bulk_part {H : Type} {d : DataW H} : ∀ {l : List (DataW H)}, d ∈ l → Rows.uptoBulk d ≤ Rows.uptoBulkAll l
  | x :: r, h => by
    simp only [Rows.uptoBulkAll]
    rcases List.mem_cons.1 h with rfl | e
    · omega
    · have := bulk_part e; omega
theorem bulk_length {H : Type} : ∀ l : List (DataW H), l.length ≤ Rows.uptoBulkAll l
  | [] => by simp [Rows.uptoBulkAll]
  | x :: r => by have := bulk_one x; have := bulk_length r; simp only [Rows.uptoBulkAll, List.length_cons]; omega
/-- As Opn, of data of a bulk of at most B. -/
def OpnB (P : Program) (B : Nat) (t : TypeId) {α : Type} (d : Kd α) (ok : α → Prop) : Prop :=
  ∀ {H : Type} (enc : TypeId × Value → H) (w : World) (base : Nat) (spare : Nat → Bool) (held : Bool) (fuel : Nat) (cs : List Value) (dd : DataW H) (ps : List MemPlace),
    DataW.trod enc P w base spare held fuel t cs = some (dd, ps) → (∀ n ∈ dd.weights P t, n ≤ reachBytes) → Rows.uptoBulk dd ≤ B → ∃ x, d.K w x cs ∧ ok x
variable {P : Program} {t e : TypeId} {α β : Type} {d : Kd α} {ok : α → Prop} {B : Nat}
theorem Opn.toB (h : Opn P t d ok) : OpnB P B t d ok := fun enc w base spare held fuel cs dd ps h1 h2 _ => h enc w base spare held fuel cs dd ps h1 h2
theorem opnB_slice (hu : P.underlying t = some (.slice e)) (hd : OpnB P B e d ok) (hc : P.cellsOf e = d.sz) :
    OpnB P B t (Kd.slice e d) (fun l => l.length ≤ B ∧ ∀ x ∈ l, ok x) := by
  intro H enc w base spare held fuel cs dd ps h hw hB
  rcases DataW.trod_slice hu h with ⟨rfl, _⟩ | ⟨a, len, cap, elems, rest, n, rfl, rfl, hx, hb, hl, hm, hlen, hel, _, _⟩
  · exact ⟨[], ⟨none, 0, rfl, Nat.le_refl _, Kd.C_nil d w⟩, by simp, fun x hx => by cases hx⟩
  · obtain ⟨rfl, _⟩ := Prod.mk.inj hx
    simp only [Rows.uptoBulk] at hB
    have hlb := bulk_length (elems.map (·.1))
    rw [List.length_map] at hlb
    have each : ∀ i, i < len → ∃ x, (∃ c, w.cells? base (a.add (i * P.cellsOf e)) (P.cellsOf e) = some c ∧ d.K w x c) ∧ ok x := by
      intro i hi
      have h1 := hel i hi
      have hi2 : i < elems.length := by omega
      rw [List.getElem?_eq_getElem hi2] at h1
      obtain ⟨c, hc1, hc2⟩ := Option.bind_eq_some_iff.1 h1
      have hmem : elems[i].1 ∈ elems.map (·.1) := List.mem_map.2 ⟨elems[i], List.getElem_mem hi2, rfl⟩
      obtain ⟨x, hk, ho⟩ := hd enc w base spare held n c elems[i].1 elems[i].2 hc2 (by
        intro m hm2
        apply hw m
        simp only [DataW.weights, hu, List.mem_cons, List.mem_append]
        exact .inr (.inl (weights_all hmem m hm2))) (by have := bulk_part hmem; omega)
      exact ⟨x, ⟨c, hc1, hk⟩, ho⟩
    obtain ⟨l, hll, hq⟩ := exists_list len each
    refine ⟨l, ⟨some a, cap, by rw [hll], by omega, ⟨rfl, by unfold maxLen at hm; omega, fun _ => ⟨a, rfl, ?_⟩⟩⟩, by omega, ?_⟩
    · intro j p hp
      obtain ⟨⟨c, hc1, hk⟩, _⟩ := hq j p hp
      obtain ⟨hcl, hcg⟩ := cells_get hc1
      refine ⟨c, by rw [hcl, hc], hk, ?_⟩
      intro i u hu2
      have := hcg i u hu2
      rw [hc] at this
      rw [← this]
      rw [addr_add]
    · intro x hx
      obtain ⟨i, hi, rfl⟩ := List.mem_iff_getElem.1 hx
      exact (hq i _ (List.getElem?_eq_getElem hi)).2
/-- A parameter that is a slice: its address, its capacity, its list. -/
theorem param_sliceB {H : Type} {enc : TypeId × Value → H} {W : World} {base : Nat} {spare : Nat → Bool} {held : Bool} {a : Option Addr} {len cap : Nat} {dd : DataW H} {ps : List MemPlace} {ts : List TypeId} {ds : List (DataW H)} {j : Nat} {okl : List α → Prop}
    (ho : OpnB P B t (Kd.slice e d) okl) (hsz : (DataW.weightsEach P ts ds).all (· ≤ reachBytes) = true) (hB : Rows.uptoBulk dd ≤ B) (ht : ts[j]? = some t) (hd : ds[j]? = some dd) (h : DataW.Trod enc P W base spare held t (.slice a len cap) dd ps) :
    ∃ l, l.length = len ∧ l.length ≤ cap ∧ d.C W a l.length l ∧ okl l := by
  obtain ⟨fuel, hf⟩ := h
  obtain ⟨l, ⟨A, c, hcs, hlc, hC⟩, hok⟩ := ho enc W base spare held fuel _ dd ps hf (fun n hn => by
    have := List.all_eq_true.1 hsz n (DataW.weights_mem_each ht hd n hn)
    simpa using this) hB
  have hcs' : [Value.slice a len cap] = [Value.slice A l.length c] := hcs
  simp only [List.cons.injEq, Value.slice.injEq, and_true] at hcs'
  obtain ⟨rfl, rfl, rfl⟩ := hcs'
  exact ⟨l, rfl, hlc, hC, hok⟩
end Go.Proofs.YtdgfbamhnmnliaaDoor.Opn
