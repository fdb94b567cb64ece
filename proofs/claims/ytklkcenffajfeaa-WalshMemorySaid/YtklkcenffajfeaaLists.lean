/- Lists of own rows: headers, rows written in place, rows grown one by one; none of the rows shares memory with another. -/
import Derived.Test.YtklkcenffajfeaaWLast
import Derived.Test.YtklkcenffajfeaaWMore
import Derived.ArgAppend
import Derived.Maps.AppendAt
namespace Go.Proofs.Ytklkcenffajfeaa.R
open Go Go.RowKit Go.Deep Go.Proofs.YtklkcenffajfeaaW.PrintWords Go.Proofs.YtklkcenffajfeaaW.PrintLast Go.Proofs.YtklkcenffajfeaaW.PrintMore
set_option linter.unusedVariables false
/-- A slice's header. -/
abbrev Hd := Option Addr × Nat × Nat
def encH (h : Hd) : Value := .slice h.1 h.2.1 h.2.2
def hown (h : Hd) : Option Nat := h.1.map (·.block)
theorem own_encH (h : Hd) : (encH h).ownBlock = hown h := by obtain ⟨A, n, c⟩ := h; cases A <;> rfl
theorem encH_inj {h : Hd} {A : Option Addr} {n c : Nat} (e : encH h = .slice A n c) : h = (A, n, c) := by obtain ⟨A', n', c'⟩ := h; simpa [encH] using e
/-- A row of one's own under a header. -/
def Row (W : World) (k : IntKind) (e base : Nat) (h : Hd) (xs : List Int) : Prop := Kd.R (Kd.int k) e W base (fun _ => True) (encH h) xs
variable {W W' W1 : World} {k : IntKind} {e base : Nat}
theorem Row.keep {h : Hd} {xs : List Int} (r : Row W k e base h xs) (hk : ∀ b, hown h = some b → W'.heap[b]? = W.heap[b]?) : Row W' k e base h xs :=
  Kd.R_mono (Kd.R_step (Kd.R_of_own (enc := Value.int k) (h1 := fun _ => rfl) (ok := fun b => hown h = some b) (Kd.own_of_R (enc := Value.int k) (h1 := fun _ => rfl) r) (fun b hb => by rw [own_encH] at hb; exact hb)) (fun b hb _ => hk b hb)) (fun _ _ => trivial)
theorem Row.lt {h : Hd} {xs : List Int} (r : Row W k e base h xs) (b : Nat) (hb : hown h = some b) : b < W.heap.size := Kd.R_lt r b (by rw [own_encH]; exact hb)
theorem Row.ge {h : Hd} {xs : List Int} (r : Row W k e base h xs) (b : Nat) (hb : hown h = some b) : base ≤ b := own_base (Kd.own_of_R (enc := Value.int k) (h1 := fun _ => rfl) r) b (by rw [own_encH]; exact hb)
theorem Row.typed {h : Hd} {xs : List Int} (r : Row W k e base h xs) (b : Nat) (hb : hown h = some b) : ∃ cells, W.heap[b]? = some (.cells cells e (0, 0)) := own_typed (Kd.own_of_R (enc := Value.int k) (h1 := fun _ => rfl) r) b (by rw [own_encH]; exact hb)
theorem Row.other {h : Hd} {xs : List Int} (r : Row W k e base h xs) {b t : Nat} {cs : Array Value} (hb : W.heap[b]? = some (.cells cs t (0, 0))) (hne : e ≠ t) : hown h ≠ some b := fun he => by
  obtain ⟨cells, hc⟩ := r.typed b he
  rw [hb] at hc
  injection hc with hc
  injection hc with _ hc
  exact hne hc.symm
theorem Row.len {h : Hd} {xs : List Int} (r : Row W k e base h xs) : h.2.1 = xs.length ∧ h.2.1 ≤ h.2.2 := by
  obtain ⟨A, n, c⟩ := h
  obtain ⟨h1, h2, _⟩ := Kd.R_reads' r
  exact ⟨h1, h2⟩
theorem Row.form {h : Hd} {xs : List Int} (r : Row W k e base h xs) (hp : 0 < xs.length) : ∃ g c, h = (some ⟨g, 0, none⟩, xs.length, c) := by
  obtain ⟨g, c, he, _⟩ := Kd.R_form r hp
  exact ⟨g, c, encH_inj he⟩
theorem Row.take {A : Option Addr} {n c m : Nat} {xs : List Int} (r : Row W k e base (A, n, c) xs) (hm : m ≤ xs.length) : Row W k e base (A, m, c) (xs.take m) := Kd.R_take r hm
theorem Row.of {A : Option Addr} {n c : Nat} {ok : Nat → Prop} {xs : List Int} (r : Kd.R (Kd.int k) e W base ok (.slice A n c) xs) : Row W k e base (A, n, c) xs := Kd.R_mono r (fun _ _ => trivial)
theorem Row.cell {h : Hd} {xs : List Int} (r : Row W k e base h xs) {g c n : Nat} (hh : h = (some ⟨g, 0, none⟩, n, c)) (i : Nat) (hi : i < xs.length) : W.cell? ⟨g, i, none⟩ = some (.int k (xs.getD i 0)) ∧ W.frozen? ⟨g, i, none⟩ = false := by
  subst hh
  have hn : n = xs.length := r.len.1
  have := Kd.R_celln (enc := Value.int k) (h1 := fun _ => rfl) (0 : Int) (show (Kd.scalar (Value.int k) (fun _ => rfl)).R e W base (fun _ => True) (.slice (some ⟨g, 0, none⟩) n c) xs from r) (i : Int) (by omega) (by omega)
  rw [Int.toNat_natCast, show rdOf (0 : Int) xs (i : Int) = xs.getD i 0 by unfold rdOf; rw [Int.toNat_natCast]] at this
  exact this
theorem Row.put {h : Hd} {xs : List Int} (r : Row W k e base h xs) {g c n : Nat} (hh : h = (some ⟨g, 0, none⟩, n, c)) (i : Nat) (x : Int) : Row (W.setCell ⟨g, i, none⟩ (.int k x)) k e base h (xs.set i x) := by
  subst hh
  have := Kd.R_putn (enc := Value.int k) (h1 := fun _ => rfl) (show (Kd.scalar (Value.int k) (fun _ => rfl)).R e W base (fun _ => True) (.slice (some ⟨g, 0, none⟩) n c) xs from r) (i : Int) x
  rw [Int.toNat_natCast] at this
  exact this
/-- append of one number: where there is room, in place; else a new block, and nothing else is touched. -/
theorem app_run {P : Program} {t ty bytes : Nat} {z : Value} (ht : P.underlying t = some (.slice e)) (hinfo : (P.info? e).map (fun i => (i.zero, i.size, i.bytes)) = some (some z, 1, bytes)) (hz : z.cells.size = 1)
    (g : Hd) (ys : List Int) (y : Int) (ad : Addr) (c : Nat) (r : Row W k e base g ys) (hc : W.cell? ad = some (.int k y)) (hbase : base ≤ W.heap.size) (hl : (ys.length + 1) * bytes ≤ 140737488355328) (hb0 : 0 < bytes) :
    ∃ g' W', (Builtin.append_ #[t, t] ty #[encH g, .slice (some ad) 1 c]).run P W = .ok (encH g') W' ∧ Row W' k e base g' (ys ++ [y]) ∧ ((g'.1 = g.1 ∧ g'.2.2 = g.2.2 ∧ W.grownBy W' (hown g)) ∨ (hown g' = some W.heap.size ∧ W.grownBy W' none)) := by
  obtain ⟨i0, hi, hzz⟩ := Option.map_eq_some_iff.1 hinfo
  simp only [Prod.mk.injEq] at hzz
  obtain ⟨hz0, hz1, hz2⟩ := hzz
  have hown0 := Kd.own_of_R (enc := Value.int k) (h1 := fun _ => rfl) r
  have hlen : ys.length + 1 ≤ 140737488355328 := Nat.le_trans (Nat.le_mul_of_pos_right _ hb0) hl
  have hnews : ∀ j u, [Value.int k y][j]? = some u → W.cell? (ad.add j) = some u := by
    intro j u hu
    obtain rfl : j = 0 := by
      rcases j with _ | j
      · rfl
      · simp at hu
    obtain rfl : Value.int k y = u := by simpa using hu
    simpa [Addr.add] using hc
  have hone : ∀ u ∈ [Value.int k y], u.oneCell' = true := by intro u hu; rw [List.mem_singleton.1 hu]; rfl
  obtain ⟨v', w', hrun, ho, hg, _, hat⟩ := run_append_own_at (P := P) W base t ty e i0 z 1 bytes ht hi hz0 hz1 hz2 hz (by decide) (encH g) ys.length _ hown0 ad 1 c [.int k y] rfl hnews hone (by simp only [maxLen]; omega) hl hbase
  have hnew : ∃ g', v' = encH g' ∧ Row w' k e base g' (ys ++ [y]) := by
    obtain ⟨gb, cap, rfl, _⟩ := ho.form (by omega)
    refine ⟨(some ⟨gb, 0, none⟩, ys.length + 1, cap), rfl, Kd.R_of_own (enc := Value.int k) (h1 := fun _ => rfl) ?_ (fun _ _ => trivial)⟩
    rw [List.length_append, show encs (Value.int k) (ys ++ [y]) = encs (Value.int k) ys ++ [.int k y] by simp [encs]]
    exact ho
  obtain ⟨g', rfl, hR'⟩ := hnew
  refine ⟨g', w', hrun, hR', ?_⟩
  rw [own_encH, own_encH] at hat
  rw [own_encH] at hg
  rcases hown0.2 with ⟨hv, hn⟩ | ⟨b, cap, cur, hv, hb, hh, hnc, hcm, hcs, htk⟩
  · have hgn := encH_inj hv
    subst hgn
    rcases hat with hat | hat
    · obtain ⟨g2, c2, h2⟩ := hR'.form (by simp)
      rw [h2] at hat
      cases hat
    · exact .inr ⟨hat, hg⟩
  · have hgn := encH_inj hv
    subst hgn
    by_cases hroom : ys.length + 1 ≤ cap
    · have hcur : cur.size = cap := by rw [hcs, Nat.mul_one]
      have hlt : ys.length < cur.size := by omega
      have hr := run_append_room_cells (P := P) W t ty e i0 ht hi b 0 ys.length cap ad 1 c [.int k y] (by rw [hz1]; rfl) hnews hone hroom
        (fun j hj => by
          have hj0 : j = 0 := by simpa using hj
          subst hj0
          rw [hz1, blk_cell hh]
          simp only [Nat.zero_add, Nat.mul_one, Nat.add_zero]
          rw [Array.getElem?_eq_getElem hlt]
          rfl)
        (fun j hj => blk_frozen hh _)
      have : (Result.ok (encH g') w' : Result Value) = .ok (.slice (some ⟨b, 0, none⟩) (ys.length + 1) cap) (W.setCells b (0 + ys.length * i0.size) [.int k y]) := hrun.symm.trans hr
      injection this with h1 h2
      have := encH_inj h1
      subst this
      exact .inl ⟨rfl, rfl, hg⟩
    · have hcells : ∀ j u, (encs (Value.int k) ys)[j]? = some u → W.cell? ((⟨b, 0, none⟩ : Addr).add j) = some u := hown0.cells (g := b) rfl
      obtain ⟨v2, w2, hr2, ho2, hg2⟩ := run_append_arg_grows (P := P) W t ty e i0 z 1 bytes ht hi hz0 hz1 hz2 hz (by decide) ⟨b, 0, none⟩ ys.length cap (encs (Value.int k) ys) hown0.1 hcells ad 1 c [.int k y] rfl hnews (by omega) (by simp only [maxLen]; omega) hl
      have : (Result.ok (encH g') w' : Result Value) = .ok v2 w2 := hrun.symm.trans hr2
      injection this with h1 h2
      subst h1 h2
      rcases hat with hat | hat
      · exfalso
        have h3 := own_base ho2 b (by rw [own_encH, hat]; rfl)
        have := blk_lt hh
        omega
      · exact .inr ⟨hat, hg2⟩
section
variable {P : Program} {ops : Array Oper} {rest : List Oper} {o : Oper} {a : Act} {Q : Exit → Act → World → Prop}
theorem wp_app {t bytes : Nat} {z : Value} (hgd : o.guard = none) (s x : Operand) (ho : o.op = .call { callee := .builtin .append, args := #[s, x], argTypes := #[t, t] })
    (ht : P.underlying t = some (.slice e)) (hinfo : (P.info? e).map (fun i => (i.zero, i.size, i.bytes)) = some (some z, 1, bytes)) (hz : z.cells.size = 1)
    (g : Hd) (ys : List Int) (y : Int) (ad : Addr) (c : Nat) (hs : a.eval s = encH g) (hx : a.eval x = .slice (some ad) 1 c) (r : Row W k e base g ys) (hc : W.cell? ad = some (.int k y)) (hbase : base ≤ W.heap.size) (hl : (ys.length + 1) * bytes ≤ 140737488355328) (hb0 : 0 < bytes)
    (h : ∀ g' w1, Row w1 k e base g' (ys ++ [y]) → ((g'.1 = g.1 ∧ g'.2.2 = g.2.2 ∧ W.grownBy w1 (hown g)) ∨ (hown g' = some W.heap.size ∧ W.grownBy w1 none)) → wpList P ops Q rest (a.put o.dst (encH g')) w1) : wpList P ops Q (o :: rest) a W := by
  obtain ⟨g', w1, hr1, h1, h2⟩ := app_run (P := P) (t := t) (ty := o.type) ht hinfo hz g ys y ad c r hc hbase hl hb0
  refine wpList_plain hgd fun K hK => ?_
  unfold Oper.wp execOp
  simp only [ho, resolve, invoke, builtin, Sem.run_bind, Sem.run_pure, Result.andThen_ok, List.map_toArray, List.map_cons, List.map_nil, hs, hx, hr1]
  exact hK _ _ (h g' w1 h1 h2)
end
/-- n rows, each as it was handed in (h, x) and as it has grown (g, y): no two rows share a block. -/
structure Lg (W : World) (k : IntKind) (e base n : Nat) (hs gs : Nat → Hd) (xs ys : Nat → List Int) : Prop where
  old : ∀ i, i < n → Row W k e base (hs i) (xs i)
  new : ∀ i, i < n → Row W k e base (gs i) (ys i)
  tie : ∀ i b, i < n → hown (hs i) = some b → hown (gs i) = some b → (hs i).1 = (gs i).1 ∧ (hs i).2.2 = (gs i).2.2 ∧ (xs i).length ≤ (ys i).length ∧ xs i = (ys i).take (xs i).length
  apart : ∀ i j b, i < n → j < n → (hown (hs i) = some b ∨ hown (gs i) = some b) → (hown (hs j) = some b ∨ hown (gs j) = some b) → i = j
variable {n : Nat} {hs gs : Nat → Hd} {xs ys : Nat → List Int}
theorem Lg.keep (L : Lg W k e base n hs gs xs ys) (hk : ∀ i b, i < n → (hown (hs i) = some b ∨ hown (gs i) = some b) → W'.heap[b]? = W.heap[b]?) : Lg W' k e base n hs gs xs ys :=
  ⟨fun i hi => (L.old i hi).keep (fun b hb => hk i b hi (.inl hb)), fun i hi => (L.new i hi).keep (fun b hb => hk i b hi (.inr hb)), L.tie, L.apart⟩
theorem Lg.below (L : Lg W k e base n hs gs xs ys) (hB : Below W.heap.size W W') : Lg W' k e base n hs gs xs ys :=
  L.keep (fun i b hi h => hB.block b (by rcases h with h | h; exact (L.old i hi).lt b h; exact (L.new i hi).lt b h))
/-- One number more behind row i. -/
theorem Lg.grow (L : Lg W k e base n hs gs xs ys) {i : Nat} (hi : i < n) {g' : Hd} {y : Int} (r : Row W' k e base g' (ys i ++ [y])) (h : (g'.1 = (gs i).1 ∧ g'.2.2 = (gs i).2.2 ∧ W.grownBy W' (hown (gs i))) ∨ (hown g' = some W.heap.size ∧ W.grownBy W' none)) :
    Lg W' k e base n hs (fun j => if j = i then g' else gs j) xs (fun j => if j = i then ys i ++ [y] else ys j) := by
  have hlt : ∀ j b, j < n → (hown (hs j) = some b ∨ hown (gs j) = some b) → b < W.heap.size := fun j b hj h => by
    rcases h with h | h
    · exact (L.old j hj).lt b h
    · exact (L.new j hj).lt b h
  have hblk : ∀ j b, j < n → (hown (hs j) = some b ∨ hown (gs j) = some b) → (j ≠ i ∨ hown (gs i) ≠ some b) → W'.heap[b]? = W.heap[b]? := fun j b hj h1 h2 => by
    rcases h with ⟨_, _, hg⟩ | ⟨_, hg⟩
    · refine hg.block b (hlt j b hj h1) (fun he => ?_)
      rcases h2 with h2 | h2
      · exact h2 (L.apart j i b hj hi h1 (.inr he.symm))
      · exact h2 he.symm
    · exact hg.block b (hlt j b hj h1) (by simp)
  refine ⟨fun j hj => ?_, fun j hj => ?_, fun j b hj h1 h2 => ?_, fun j l b hj hl h1 h2 => ?_⟩
  · by_cases hji : j = i
    · subst hji
      by_cases hsame : ∃ b, hown (hs j) = some b ∧ hown (gs j) = some b
      · obtain ⟨b, hb1, hb2⟩ := hsame
        rcases h with ⟨ha, hc, hg⟩ | ⟨ha, hg⟩
        · obtain ⟨t1, t2, t3, t4⟩ := L.tie j b hj hb1 hb2
          have hlen := (L.old j hj).len.1
          have h0 : hs j = (g'.1, (xs j).length, g'.2.2) := by
            rw [ha, hc, ← t1, ← t2, ← hlen]
          rw [h0, t4, List.length_take]
          obtain ⟨A, m, c⟩ := g'
          have := Row.take r (m := (xs j).length) (by rw [List.length_append]; omega)
          rw [List.take_append_of_le_length t3] at this
          rw [Nat.min_eq_left t3]
          exact this
        · exact (L.old j hj).keep (fun b' hb' => hg.block b' (hlt j b' hj (.inl hb')) (by simp))
      · refine (L.old j hj).keep (fun b hb => hblk j b hj (.inl hb) (.inr fun he => hsame ⟨b, hb, he⟩))
    · exact (L.old j hj).keep (fun b hb => hblk j b hj (.inl hb) (.inl hji))
  · by_cases hji : j = i
    · subst hji; simp only [if_pos]; exact r
    · simp only [if_neg hji]
      exact (L.new j hj).keep (fun b hb => hblk j b hj (.inr hb) (.inl hji))
  · by_cases hji : j = i
    · subst hji
      simp only [if_pos] at h2 ⊢
      rcases h with ⟨ha, hc, hg⟩ | ⟨ha, hg⟩
      · have h2' : hown (gs j) = some b := by unfold hown at h2 ⊢; rw [← ha]; exact h2
        obtain ⟨t1, t2, t3, t4⟩ := L.tie j b hj h1 h2'
        refine ⟨t1.trans ha.symm, t2.trans hc.symm, by rw [List.length_append]; omega, ?_⟩
        rw [List.take_append_of_le_length t3]
        exact t4
      · exfalso
        have := (L.old j hj).lt b h1
        rw [ha] at h2
        obtain rfl := Option.some.inj h2
        omega
    · simp only [if_neg hji] at h2 ⊢
      exact L.tie j b hj h1 h2
  · have key : ∀ j, j < n → (hown (hs j) = some b ∨ hown (if j = i then g' else gs j) = some b) → (hown (hs j) = some b ∨ hown (gs j) = some b) ∨ (j = i ∧ b = W.heap.size) := by
      intro j hj q1
      rcases q1 with q1 | q1
      · exact .inl (.inl q1)
      · by_cases hji : j = i
        · rw [if_pos hji] at q1
          rcases h with ⟨ha, hc, hg⟩ | ⟨ha, hg⟩
          · refine .inl (.inr ?_)
            subst hji
            unfold hown at q1 ⊢; rw [← ha]; exact q1
          · rw [ha] at q1
            exact .inr ⟨hji, (Option.some.inj q1).symm⟩
        · rw [if_neg hji] at q1
          exact .inl (.inr q1)
    rcases key j hj h1 with h1 | ⟨h1, h1b⟩ <;> rcases key l hl h2 with h2 | ⟨h2, h2b⟩
    · exact L.apart j l b hj hl h1 h2
    · have := hlt j b hj h1; omega
    · have := hlt l b hl h2; omega
    · omega
/-- A number written into row i, where the rows are as they were handed in. -/
theorem Lg.put (L : Lg W k e base n hs hs xs xs) {i : Nat} (hi : i < n) {g c m p : Nat} (hh : hs i = (some ⟨g, 0, none⟩, m, c)) (x : Int) :
    Lg (W.setCell ⟨g, p, none⟩ (.int k x)) k e base n hs hs (fun j => if j = i then (xs i).set p x else xs j) (fun j => if j = i then (xs i).set p x else xs j) := by
  have hrow : ∀ j, j < n → Row (W.setCell ⟨g, p, none⟩ (.int k x)) k e base (hs j) (if j = i then (xs i).set p x else xs j) := by
    intro j hj
    by_cases hji : j = i
    · subst hji; rw [if_pos rfl]; exact (L.old j hj).put hh p x
    · rw [if_neg hji]
      refine (L.old j hj).keep (fun b hb => Below.heap_setCell _ _ _ b (fun he => ?_))
      subst he
      exact hji (L.apart j i _ hj hi (.inl hb) (.inl (by rw [hh]; rfl)))
  refine ⟨hrow, hrow, fun j b hj h1 h2 => ⟨rfl, rfl, Nat.le_refl _, by rw [List.take_length]⟩, L.apart⟩
theorem Row.up {h : Hd} {xs : List Int} {b' : Nat} (r : Row W k e base h xs) (hb : b' ≤ base) : Row W k e b' h xs := by
  have h0 := Kd.own_of_R (enc := Value.int k) (h1 := fun _ => rfl) r
  refine Kd.R_of_own (enc := Value.int k) (h1 := fun _ => rfl) ⟨h0.1, ?_⟩ (fun _ _ => trivial)
  rcases h0.2 with h | ⟨g, cap, cur, h1, h2, h3⟩
  · exact .inl h
  · exact .inr ⟨g, cap, cur, h1, Nat.le_trans hb h2, h3⟩
theorem Row.C {A : Option Addr} {n c : Nat} {xs : List Int} (r : Row W k e base (A, n, c) xs) : n = xs.length ∧ xs.length ≤ c ∧ Kd.C (Kd.int k) W A xs.length xs := by
  obtain ⟨h1, h2, h3⟩ := Kd.R_reads' r
  have e1 : n = xs.length := h1
  have e2 : n ≤ c := h2
  exact ⟨e1, by omega, h3⟩
theorem hdr_cell {W : World} {hb t : Nat} {H : List Value} (h : W.heap[hb]? = some (.cells H.toArray t (0, 0))) (i : Nat) {v : Value} (hv : H[i]? = some v) : W.cell? ⟨hb, i, none⟩ = some v := by
  rw [blk_cell h i, List.getElem?_toArray, hv]
theorem blk_CH {W : World} {b : Nat} {t : TypeId} {hs : List Hd} (h : W.heap[b]? = some (.cells (hs.map encH).toArray t (0, 0))) (hl : hs.length ≤ 9223372036854775807) : (Kd.scalar encH (fun _ => rfl)).C W (some ⟨b, 0, none⟩) hs.length hs := by
  refine ⟨rfl, hl, fun _ => ⟨_, rfl, fun j p hj => ⟨[encH p], rfl, rfl, fun i u hi => ?_⟩⟩⟩
  have hi0 : i = 0 := by
    rcases i with _ | i
    · rfl
    · simp at hi
  subst hi0
  have hu : u = encH p := by simpa using hi.symm
  subst hu
  have : ((⟨b, 0, none⟩ : Addr).add (j * (Kd.scalar encH (fun _ => rfl)).sz + 0)) = ⟨b, j, none⟩ := by
    show (⟨b, 0, none⟩ : Addr).add (j * 1 + 0) = _
    unfold Addr.add; split <;> simp_all
  rw [this, blk_cell h j, List.getElem?_toArray, List.getElem?_map, hj]; rfl
/-- A literal of headers, as a row of one's own. -/
theorem hdr_made {W : World} {t base : Nat} (hs : List Hd) (hb : base ≤ W.heap.size) (hl : hs.length ≤ 9223372036854775807) : (Kd.scalar encH (fun _ => rfl)).R t (W.alloc (.cells (hs.map encH).toArray t)) base (fun _ => True) (.slice (some ⟨W.heap.size, 0, none⟩) hs.length hs.length) hs := by
  refine Kd.R_of_own ?_ (fun _ _ => trivial)
  refine ⟨by simp [encs], .inr ⟨W.heap.size, hs.length, (hs.map encH).toArray, rfl, hb, blk_new W _, Nat.le_refl _, hl, by simp, ?_⟩⟩
  simp [encs]
  rw [List.take_of_length_le (by simp)]
theorem blk_Ci {W : World} {b : Nat} {t : TypeId} {k : IntKind} {D : List Int} (h : W.heap[b]? = some (.cells (D.map (Value.int k)).toArray t (0, 0))) (hl : D.length ≤ 9223372036854775807) : Kd.C (Kd.int k) W (some ⟨b, 0, none⟩) D.length D := by
  refine ⟨rfl, hl, fun _ => ⟨_, rfl, fun j p hj => ⟨[.int k p], rfl, rfl, fun i u hi => ?_⟩⟩⟩
  have hi0 : i = 0 := by
    rcases i with _ | i
    · rfl
    · simp at hi
  subst hi0
  have hu : u = .int k p := by simpa using hi.symm
  subst hu
  have : ((⟨b, 0, none⟩ : Addr).add (j * (Kd.int k).sz + 0)) = ⟨b, j, none⟩ := by
    show (⟨b, 0, none⟩ : Addr).add (j * 1 + 0) = _
    unfold Addr.add; split <;> simp_all
  rw [this, blk_cell h j, List.getElem?_toArray, List.getElem?_map, hj]; rfl
/-- Rows live on where a list of headers (or another row of another type) has grown. -/
theorem Lg.other {α : Type} {enc : α → Value} {h1 : ∀ x, (enc x).oneCell' = true} (L : Lg W k e base n hs gs xs ys) {t base' : Nat} {ok : Nat → Prop} {v : Value} {zs : List α} (hM : (Kd.scalar enc h1).R t W base' ok v zs) (hne : e ≠ t) (hg : W.grownBy W' v.ownBlock) : Lg W' k e base n hs gs xs ys :=
  L.keep (fun i b hi h => by
    have hr : ∃ cells, W.heap[b]? = some (.cells cells e (0, 0)) ∧ b < W.heap.size := by
      rcases h with h | h
      · obtain ⟨c, hc⟩ := (L.old i hi).typed b h; exact ⟨c, hc, (L.old i hi).lt b h⟩
      · obtain ⟨c, hc⟩ := (L.new i hi).typed b h; exact ⟨c, hc, (L.new i hi).lt b h⟩
    obtain ⟨cells, hc, hlt⟩ := hr
    refine hg.block b hlt (fun he => ?_)
    obtain ⟨cells2, hc2⟩ := own_typed (Kd.own_of_R hM) b he.symm
    rw [hc] at hc2
    injection hc2 with hc2
    injection hc2 with _ hc2
    exact hne hc2)
/-- A row (a list of headers, say) lives on where the blocks of its type do. -/
theorem scal_keep {α : Type} {enc : α → Value} {h1 : ∀ x, (enc x).oneCell' = true} {t base' : Nat} {v : Value} {zs : List α} (hM : (Kd.scalar enc h1).R t W base' (fun _ => True) v zs) (hk : ∀ b cells, v.ownBlock = some b → b < W.heap.size → W.heap[b]? = some (.cells cells t (0, 0)) → W'.heap[b]? = W.heap[b]?) : (Kd.scalar enc h1).R t W' base' (fun _ => True) v zs := by
  refine Kd.R_mono (ok := fun b => v.ownBlock = some b) (Kd.R_step (Kd.R_of_own (ok := fun b => v.ownBlock = some b) (Kd.own_of_R hM) (fun b hb => hb)) (fun b hb hlt => ?_)) (fun _ _ => trivial)
  obtain ⟨cells, hc⟩ := own_typed (Kd.own_of_R hM) b hb
  exact hk b cells hb hlt hc
/-- Rows that share no memory, by a list of headers and contents. -/
def rAt (L : List (Hd × List Int)) (j : Nat) : Hd × List Int := L.getD j ((none, 0, 0), [])
theorem rAt_of {L : List (Hd × List Int)} {j : Nat} {x : Hd × List Int} (h : L[j]? = some x) : rAt L j = x := by unfold rAt; rw [List.getD_eq_getElem?_getD, h]; rfl
def RowSet (W : World) (k : IntKind) (e base : Nat) (L : List (Hd × List Int)) : Prop := Lg W k e base L.length (fun j => (rAt L j).1) (fun j => (rAt L j).1) (fun j => (rAt L j).2) (fun j => (rAt L j).2)
theorem RowSet.nil : RowSet W k e base [] := ⟨fun i h => absurd h (Nat.not_lt_zero _), fun i h => absurd h (Nat.not_lt_zero _), fun i b h => absurd h (Nat.not_lt_zero _), fun i j b h => absurd h (Nat.not_lt_zero _)⟩
theorem RowSet.at {L : List (Hd × List Int)} (R : RowSet W k e base L) {i : Nat} {h : Hd} {x : List Int} (hi : L[i]? = some (h, x)) : Row W k e base h x := by
  have := R.old i (List.getElem?_eq_some_iff.1 hi).1
  rw [rAt_of hi] at this
  exact this
theorem RowSet.below {L : List (Hd × List Int)} (R : RowSet W k e base L) (hB : Below W.heap.size W W') : RowSet W' k e base L := Lg.below R hB
theorem RowSet.keep {L : List (Hd × List Int)} (R : RowSet W k e base L) (hk : ∀ i b, i < L.length → hown (rAt L i).1 = some b → W'.heap[b]? = W.heap[b]?) : RowSet W' k e base L := Lg.keep R (fun i b hi h => hk i b hi (h.elim id id))
theorem RowSet.snoc {L : List (Hd × List Int)} (R : RowSet W k e base L) {h : Hd} {x : List Int} (hB : Below W.heap.size W W') (hb : base ≤ W.heap.size) (r : Row W' k e W.heap.size h x) : RowSet W' k e base (L ++ [(h, x)]) := by
  have hlt : ∀ j, j < L.length → rAt (L ++ [(h, x)]) j = rAt L j := fun j hj => by unfold rAt; rw [List.getD_eq_getElem?_getD, List.getElem?_append_left hj, List.getD_eq_getElem?_getD]
  have heq : rAt (L ++ [(h, x)]) L.length = (h, x) := rAt_of (by simp)
  have R2 := R.below hB
  have hrow : ∀ j, j < (L ++ [(h, x)]).length → Row W' k e base (rAt (L ++ [(h, x)]) j).1 (rAt (L ++ [(h, x)]) j).2 := by
    intro j hj
    rw [List.length_append, List.length_singleton] at hj
    by_cases hjl : j < L.length
    · rw [hlt j hjl]; exact R2.old j hjl
    · obtain rfl : j = L.length := by omega
      rw [heq]; exact r.up hb
  refine ⟨hrow, hrow, fun i b hi h1 h2 => ⟨rfl, rfl, Nat.le_refl _, by rw [List.take_length]⟩, fun i j b hi hj h1 h2 => ?_⟩
  rw [List.length_append, List.length_singleton] at hi hj
  have h1' := h1.elim id id
  have h2' := h2.elim id id
  by_cases hil : i < L.length <;> by_cases hjl : j < L.length
  · rw [hlt i hil] at h1'; rw [hlt j hjl] at h2'; exact R.apart i j b hil hjl (.inl h1') (.inl h2')
  · obtain rfl : j = L.length := by omega
    rw [heq] at h2'; rw [hlt i hil] at h1'
    have := r.ge b h2'; have := (R.old i hil).lt b h1'; omega
  · obtain rfl : i = L.length := by omega
    rw [heq] at h1'; rw [hlt j hjl] at h2'
    have := r.ge b h1'; have := (R.old j hjl).lt b h2'; omega
  · omega
theorem RowSet.put {L : List (Hd × List Int)} (R : RowSet W k e base L) {i g m c p : Nat} {xs : List Int} (hi : L[i]? = some ((some ⟨g, 0, none⟩, m, c), xs)) (z : Int) : RowSet (W.setCell ⟨g, p, none⟩ (.int k z)) k e base (L.set i ((some ⟨g, 0, none⟩, m, c), xs.set p z)) := by
  have hil := (List.getElem?_eq_some_iff.1 hi).1
  have hx := rAt_of hi
  have := Lg.put (p := p) R hil (by rw [hx]) z
  have hset : ∀ j, rAt (L.set i ((some ⟨g, 0, none⟩, m, c), xs.set p z)) j = ((rAt L j).1, if j = i then (rAt L i).2.set p z else (rAt L j).2) := by
    intro j
    by_cases hji : j = i
    · subst hji
      rw [rAt_of (x := ((some ⟨g, 0, none⟩, m, c), xs.set p z)) (by rw [List.getElem?_set_self hil]), if_pos rfl, hx]
    · rw [if_neg hji]
      unfold rAt
      rw [List.getD_eq_getElem?_getD, List.getElem?_set_ne (fun e => hji e.symm), List.getD_eq_getElem?_getD]
  unfold RowSet
  rw [List.length_set]
  simp only [hset]
  exact this
theorem RowSet.pair {h0 h1 : Hd} {x0 x1 : List Int} (r0 : Row W k e base h0 x0) (r1 : Row W k e base h1 x1) (hne : ∀ b, hown h0 = some b → hown h1 = some b → False) : RowSet W k e base [(h0, x0), (h1, x1)] := by
  have hrow : ∀ j, j < [(h0, x0), (h1, x1)].length → Row W k e base (rAt [(h0, x0), (h1, x1)] j).1 (rAt [(h0, x0), (h1, x1)] j).2 := by
    intro j hj
    rcases (show j = 0 ∨ j = 1 by simp at hj; omega) with rfl | rfl
    · exact r0
    · exact r1
  refine ⟨hrow, hrow, fun i b hi h1 h2 => ⟨rfl, rfl, Nat.le_refl _, by rw [List.take_length]⟩, fun i j b hi hj h1 h2 => ?_⟩
  rcases (show i = 0 ∨ i = 1 by simp at hi; omega) with rfl | rfl <;> rcases (show j = 0 ∨ j = 1 by simp at hj; omega) with rfl | rfl
  · rfl
  · exact (hne b (h1.elim id id) (h2.elim id id)).elim
  · exact (hne b (h2.elim id id) (h1.elim id id)).elim
  · rfl
end Go.Proofs.Ytklkcenffajfeaa.R
