/- Sums and determinants over a field in which a + a = 0. -/


namespace LA
class Fld (F : Type) extends Add F, Mul F, Zero F, One F where
  iv : F → F
  add_comm : ∀ a b : F, a + b = b + a
  add_assoc : ∀ a b c : F, a + b + c = a + (b + c)
  add_zero : ∀ a : F, a + 0 = a
  add_self : ∀ a : F, a + a = 0
  mul_comm : ∀ a b : F, a * b = b * a
  mul_assoc : ∀ a b c : F, a * b * c = a * (b * c)
  mul_one : ∀ a : F, a * 1 = a
  mul_add : ∀ a b c : F, a * (b + c) = a * b + a * c
  one_ne : (1 : F) ≠ 0
  mul_iv : ∀ a : F, a ≠ 0 → a * iv a = 1
  dec : ∀ a b : F, Decidable (a = b)
open Fld
variable {F : Type} [Fld F]
instance : DecidableEq F := fun a b => Fld.dec a b
instance : Std.Associative (α := F) (· + ·) := ⟨Fld.add_assoc⟩
instance : Std.Commutative (α := F) (· + ·) := ⟨Fld.add_comm⟩
instance : Std.Associative (α := F) (· * ·) := ⟨Fld.mul_assoc⟩
instance : Std.Commutative (α := F) (· * ·) := ⟨Fld.mul_comm⟩
theorem zero_add (a : F) : 0 + a = a := by rw [Fld.add_comm, Fld.add_zero]
theorem one_mul (a : F) : 1 * a = a := by rw [Fld.mul_comm, Fld.mul_one]
theorem add_mul (a b c : F) : (a + b) * c = a * c + b * c := by rw [Fld.mul_comm, Fld.mul_add, Fld.mul_comm c a, Fld.mul_comm c b]
theorem add_cancel {a b c : F} (h : a + b = a + c) : b = c := by
  have e : a + (a + b) = a + (a + c) := by rw [h]
  rwa [← Fld.add_assoc, ← Fld.add_assoc, Fld.add_self, zero_add, zero_add] at e
theorem mul_zero (a : F) : a * 0 = 0 := by
  have h : a * 0 + a * 0 = a * 0 + 0 := by rw [← Fld.mul_add, Fld.add_zero, Fld.add_zero]
  exact add_cancel h
theorem zero_mul (a : F) : 0 * a = 0 := by rw [Fld.mul_comm, mul_zero]
theorem add_left_comm (a b c : F) : a + (b + c) = b + (a + c) := by rw [← Fld.add_assoc, Fld.add_comm a b, Fld.add_assoc]
theorem mul_left_comm (a b c : F) : a * (b * c) = b * (a * c) := by rw [← Fld.mul_assoc, Fld.mul_comm a b, Fld.mul_assoc]
theorem add_add (a b c d : F) : a + b + (c + d) = a + c + (b + d) := by ac_rfl
theorem eq_of_add {a b : F} (h : a + b = 0) : a = b := by
  have : a + b = b + b := by rw [h, Fld.add_self]
  rw [Fld.add_comm, Fld.add_comm b b] at this
  exact add_cancel (a := b) (by rw [this])
theorem iv_mul {a : F} (h : a ≠ 0) : iv a * a = 1 := by rw [Fld.mul_comm, Fld.mul_iv a h]
theorem iv_mul_cancel {a : F} (h : a ≠ 0) (b : F) : iv a * (a * b) = b := by rw [← Fld.mul_assoc, iv_mul h, one_mul]
theorem mul_iv_cancel {a : F} (h : a ≠ 0) (b : F) : a * (iv a * b) = b := by rw [← Fld.mul_assoc, Fld.mul_iv a h, one_mul]
theorem mul_eq_zero {a b : F} : a * b = 0 ↔ a = 0 ∨ b = 0 := by
  constructor
  · intro h
    by_cases ha : a = 0
    · exact .inl ha
    · right
      have := iv_mul_cancel ha b
      rw [h, mul_zero] at this
      exact this.symm
  · rintro (rfl | rfl)
    · exact zero_mul _
    · exact mul_zero _
theorem mul_ne {a b : F} (ha : a ≠ 0) (hb : b ≠ 0) : a * b ≠ 0 := fun h => (mul_eq_zero.1 h).elim ha hb
/-! ### sums -/
/-- f 0 + .. + f (n - 1). -/
def sm : Nat → (Nat → F) → F
  | 0, _ => 0
  | n + 1, f => sm n f + f n
theorem sm_congr {n : Nat} {f g : Nat → F} (h : ∀ i, i < n → f i = g i) : sm n f = sm n g := by
  induction n with
  | zero => rfl
  | succ n ih => rw [sm, sm, ih (fun i hi => h i (by omega)), h n (by omega)]
theorem sm_zero (n : Nat) : sm n (fun _ => (0 : F)) = 0 := by
  induction n with
  | zero => rfl
  | succ n ih => rw [sm, ih, Fld.add_zero]
theorem sm_none {n : Nat} {f : Nat → F} (h : ∀ i, i < n → f i = 0) : sm n f = 0 := by rw [sm_congr h, sm_zero]
theorem sm_add (n : Nat) (f g : Nat → F) : sm n (fun i => f i + g i) = sm n f + sm n g := by
  induction n with
  | zero => rw [sm, sm, sm, Fld.add_zero]
  | succ n ih => rw [sm, sm, sm, ih, add_add]
theorem sm_mul (n : Nat) (a : F) (f : Nat → F) : sm n (fun i => a * f i) = a * sm n f := by
  induction n with
  | zero => rw [sm, sm, mul_zero]
  | succ n ih => rw [sm, sm, ih, Fld.mul_add]
theorem sm_mul_right (n : Nat) (a : F) (f : Nat → F) : sm n (fun i => f i * a) = sm n f * a := by
  rw [Fld.mul_comm, ← sm_mul]
  exact sm_congr (fun i _ => Fld.mul_comm _ _)
theorem sm_comm (n m : Nat) (f : Nat → Nat → F) : sm n (fun i => sm m (f i)) = sm m (fun j => sm n (fun i => f i j)) := by
  induction n with
  | zero => rw [sm]; exact (sm_none (fun _ _ => rfl)).symm
  | succ n ih => rw [sm, ih, ← sm_add]; rfl
theorem sm_one {n i : Nat} (hi : i < n) {f : Nat → F} (h : ∀ j, j < n → j ≠ i → f j = 0) : sm n f = f i := by
  induction n with
  | zero => omega
  | succ n ih =>
    rw [sm]
    by_cases e : i = n
    · subst e
      rw [sm_none (fun j hj => h j (by omega) (by omega)), zero_add]
    · rw [ih (by omega) (fun j hj hji => h j (by omega) hji), h n (by omega) (fun e' => e e'.symm), Fld.add_zero]
theorem sm_append (n m : Nat) (f : Nat → F) : sm (n + m) f = sm n f + sm m (fun i => f (n + i)) := by
  induction m with
  | zero => rw [Nat.add_zero, sm, Fld.add_zero]
  | succ m ih => rw [← Nat.add_assoc, sm, sm, ih, Fld.add_assoc]
theorem sm_first (n : Nat) (f : Nat → F) : sm (n + 1) f = f 0 + sm n (fun i => f (i + 1)) := by
  rw [Nat.add_comm n 1, sm_append, show sm 1 f = f 0 by rw [sm, sm, zero_add]]
  congr 1
  exact sm_congr (fun i _ => by rw [Nat.add_comm])
/-! ### sums over the ways to pick one out of a list -/
section
variable {α : Type}
/-- The sum of f y (the others) over all y of the list. -/
def pk : (α → List α → F) → List α → F
  | _, [] => 0
  | f, x :: xs => f x xs + pk (fun y ys => f y (x :: ys)) xs
theorem pk_congr {f g : α → List α → F} : ∀ {l : List α}, (∀ y ys, (y :: ys).Perm l → f y ys = g y ys) → pk f l = pk g l := by
  intro l
  induction l generalizing f g with
  | nil => intro _; rfl
  | cons x xs ih =>
    intro h
    rw [pk, pk, h x xs (List.Perm.refl _), ih (fun y ys hp => h y (x :: ys) ((List.Perm.swap x y ys).trans (hp.cons x)))]
theorem pk_add (f g : α → List α → F) (l : List α) : pk (fun y ys => f y ys + g y ys) l = pk f l + pk g l := by
  induction l generalizing f g with
  | nil => rw [pk, pk, pk, Fld.add_zero]
  | cons x xs ih => rw [pk, pk, pk, ih, add_add]
theorem pk_mul (a : F) (f : α → List α → F) (l : List α) : pk (fun y ys => a * f y ys) l = a * pk f l := by
  induction l generalizing f with
  | nil => rw [pk, pk, mul_zero]
  | cons x xs ih => rw [pk, pk, ih, Fld.mul_add]
theorem pk_zero (l : List α) : pk (fun _ _ => (0 : F)) l = 0 := by
  induction l with
  | nil => rfl
  | cons x xs ih => rw [pk, ih, Fld.add_zero]
theorem pk_none {f : α → List α → F} {l : List α} (h : ∀ y ys, (y :: ys).Perm l → f y ys = 0) : pk f l = 0 := by rw [pk_congr h, pk_zero]
theorem pk_map {β : Type} (g : β → α) (f : α → List α → F) (l : List β) : pk f (l.map g) = pk (fun y ys => f (g y) (ys.map g)) l := by
  induction l generalizing f with
  | nil => rfl
  | cons x xs ih => rw [List.map_cons, pk, pk, ih]; rfl
/-- Two sums change places. -/
theorem pk_comm {β : Type} (f : α → List α → β → List β → F) (l : List α) (m : List β) : pk (fun x xs => pk (f x xs) m) l = pk (fun y ys => pk (fun x xs => f x xs y ys) l) m := by
  induction l generalizing f with
  | nil => simp only [pk]; exact (pk_zero m).symm
  | cons x xs ih => simp only [pk]; rw [ih, ← pk_add]
/-- The sum over the ways to pick two, one after the other. -/
def pk2 (f : α → α → List α → F) (l : List α) : F := pk (fun x xs => pk (fun y ys => f x y ys) xs) l
theorem pk2_cons (f : α → α → List α → F) (x : α) (xs : List α) : pk2 f (x :: xs) = pk (fun y ys => f x y ys) xs + (pk (fun y ys => f y x ys) xs + pk2 (fun a b c => f a b (x :: c)) xs) := by
  unfold pk2
  rw [pk]
  congr 1
  rw [← pk_add]
  rfl
theorem pk2_swap (f : α → α → List α → F) (l : List α) : pk2 f l = pk2 (fun x y r => f y x r) l := by
  induction l generalizing f with
  | nil => rfl
  | cons x xs ih => rw [pk2_cons, pk2_cons, ih, add_left_comm]
theorem pk2_sym {f : α → α → List α → F} (h : ∀ x y r, f x y r = f y x r) (l : List α) : pk2 f l = 0 := by
  induction l generalizing f with
  | nil => rfl
  | cons x xs ih =>
    rw [pk2_cons, ih (f := fun a b c => f a b (x :: c)) (fun a b c => h a b _), Fld.add_zero]
    rw [pk_congr (g := fun y ys => f x y ys) (f := fun y ys => f y x ys) (fun y ys _ => h y x ys), Fld.add_self]
end
/-! ### determinants: of a list of rows, at a list of columns -/
/-- The sum over all ways to choose a column for each row, none twice, of the products. -/
def D : List (Nat → F) → List Nat → F
  | [], _ => 1
  | r :: rs, cs => pk (fun c rest => r c * D rs rest) cs
theorem D_swap (r s : Nat → F) (rs : List (Nat → F)) (cs : List Nat) : D (r :: s :: rs) cs = D (s :: r :: rs) cs := by
  have key : ∀ a b : Nat → F, D (a :: b :: rs) cs = pk2 (fun c d rest => a c * (b d * D rs rest)) cs := by
    intro a b
    show pk (fun c rest => a c * pk (fun d rest' => b d * D rs rest') rest) cs = _
    unfold pk2
    exact pk_congr (fun y ys _ => (pk_mul _ _ _).symm)
  rw [key, key, pk2_swap]
  congr 1
  funext c d rest
  exact mul_left_comm _ _ _
theorem D_rows {rs rs' : List (Nat → F)} (h : rs.Perm rs') : ∀ cs : List Nat, D rs cs = D rs' cs := by
  induction h with
  | nil => intro cs; rfl
  | cons x p ih => intro cs; simp only [D, ih]
  | swap x y l => intro cs; exact D_swap _ _ _ _
  | trans _ _ ih1 ih2 => intro cs; rw [ih1, ih2]
theorem D_twice (r : Nat → F) (rs : List (Nat → F)) (cs : List Nat) : D (r :: r :: rs) cs = 0 := by
  have key : D (r :: r :: rs) cs = pk2 (fun c d rest => r c * (r d * D rs rest)) cs := by
    show pk (fun c rest => r c * pk (fun d rest' => r d * D rs rest') rest) cs = _
    unfold pk2
    exact pk_congr (fun y ys _ => (pk_mul _ _ _).symm)
  rw [key]
  exact pk2_sym (f := fun c d rest => r c * (r d * D rs rest)) (fun x y q => mul_left_comm (r x) (r y) (D rs q)) cs
theorem D_add (r s : Nat → F) (rs : List (Nat → F)) (cs : List Nat) : D ((fun c => r c + s c) :: rs) cs = D (r :: rs) cs + D (s :: rs) cs := by
  simp only [D]
  rw [← pk_add]
  exact pk_congr (fun y ys _ => add_mul _ _ _)
theorem D_mul (a : F) (r : Nat → F) (rs : List (Nat → F)) (cs : List Nat) : D ((fun c => a * r c) :: rs) cs = a * D (r :: rs) cs := by
  simp only [D]
  rw [← pk_mul]
  exact pk_congr (fun y ys _ => Fld.mul_assoc _ _ _)
theorem D_add_row (a : F) (r s : Nat → F) (rs : List (Nat → F)) (cs : List Nat) : D ((fun c => r c + a * s c) :: s :: rs) cs = D (r :: s :: rs) cs := by
  rw [D_add r (fun c => a * s c), D_mul, D_twice, mul_zero, Fld.add_zero]
theorem D_zero {r : Nat → F} {rs : List (Nat → F)} {cs : List Nat} (h : ∀ c, c ∈ cs → r c = 0) : D (r :: rs) cs = 0 := by
  show pk (fun c rest => r c * D rs rest) cs = 0
  exact pk_none (fun y ys hp => by rw [h y (hp.mem_iff.1 (List.mem_cons_self ..)), zero_mul])
/-- The rows count only at the columns. -/
theorem D_congr : ∀ {rs rs' : List (Nat → F)} {cs : List Nat}, rs.length = rs'.length → (∀ i (h : i < rs.length) (h' : i < rs'.length) c, c ∈ cs → rs[i] c = rs'[i] c) → D rs cs = D rs' cs := by
  intro rs
  induction rs with
  | nil => intro rs' cs hl _; cases rs' with | nil => rfl | cons => simp at hl
  | cons r rs ih =>
    intro rs' cs hl h
    cases rs' with
    | nil => simp at hl
    | cons r' rs' =>
      refine pk_congr (fun y ys hp => ?_)
      have h0 := h 0 (by simp) (by simp) y (hp.mem_iff.1 (List.mem_cons_self ..))
      have h1 := ih (rs' := rs') (cs := ys) (by simpa using hl) (fun i hi hi' c hc => h (i + 1) (by simpa using hi) (by simpa using hi') c (hp.mem_iff.1 (List.mem_cons_of_mem _ hc)))
      rw [h1]
      exact congrArg (· * D rs' ys) h0
/-- Along the first column. -/
theorem D_col : ∀ (rs : List (Nat → F)) (c : Nat) (cs : List Nat), rs.length = cs.length + 1 → D rs (c :: cs) = pk (fun r rest => r c * D rest cs) rs := by
  intro rs
  induction rs with
  | nil => intro c cs h; simp at h
  | cons r rs ih =>
    intro c cs h
    simp only [D, pk]
    congr 1
    by_cases hn : cs = []
    · subst hn
      have : rs = [] := by simpa using h
      subst this
      rfl
    · have e1 : pk (fun y ys => r y * D rs (c :: ys)) cs = pk (fun y ys => pk (fun s rest => r y * (s c * D rest ys)) rs) cs := by
        refine pk_congr (fun y ys hp => ?_)
        have hl : cs.length = ys.length + 1 := by rw [← hp.length_eq]; rfl
        rw [ih c ys (by simp at h; omega), ← pk_mul]
      rw [e1, pk_comm]
      refine pk_congr (fun s rest hp => ?_)
      rw [← pk_mul]
      exact pk_congr (fun y ys _ => mul_left_comm _ _ _)
/-- Rows and columns change places. -/
theorem D_transpose (A : Nat → Nat → F) : ∀ (is cs : List Nat), is.length = cs.length → D (is.map A) cs = D (cs.map fun c i => A i c) is := by
  intro is
  induction is with
  | nil => intro cs h; cases cs with | nil => rfl | cons => simp at h
  | cons i is ih =>
    intro cs h
    rw [D_col (cs.map fun c i => A i c) i is (by rw [List.length_map]; simpa using h.symm), pk_map]
    simp only [List.map_cons, D]
    refine pk_congr (fun y ys hp => ?_)
    have hl : cs.length = ys.length + 1 := by rw [← hp.length_eq]; rfl
    rw [ih ys (by simp at h; omega)]
/-- The determinant of the first n rows and columns. -/
def det (n : Nat) (A : Nat → Nat → F) : F := D ((List.range n).map A) (List.range n)
theorem det_congr {n : Nat} {A B : Nat → Nat → F} (h : ∀ i j, i < n → j < n → A i j = B i j) : det n A = det n B := by
  refine D_congr (by simp) (fun i hi hi' c hc => ?_)
  simp only [List.length_map, List.length_range] at hi hi'
  simp only [List.getElem_map, List.getElem_range]
  exact h i c hi (List.mem_range.1 hc)
theorem det_transpose (n : Nat) (A : Nat → Nat → F) : det n (fun i j => A j i) = det n A := by
  unfold det
  rw [D_transpose A _ _ rfl]
theorem range_erase {n i : Nat} (h : i < n) : (List.range n).Perm (i :: (List.range n).erase i) := List.perm_cons_erase (List.mem_range.2 h)
theorem mem_range_erase {n i j : Nat} : j ∈ (List.range n).erase i ↔ j ≠ i ∧ j < n := by
  rw [List.Nodup.mem_erase_iff List.nodup_range, List.mem_range]
theorem det_front {n i : Nat} (h : i < n) (A : Nat → Nat → F) : det n A = D (A i :: ((List.range n).erase i).map A) (List.range n) :=
  D_rows (by simpa using (range_erase h).map A) _
theorem det_front2 {n i j : Nat} (hi : i < n) (hj : j < n) (hij : i ≠ j) (A : Nat → Nat → F) : det n A = D (A i :: A j :: (((List.range n).erase i).erase j).map A) (List.range n) := by
  rw [det_front hi]
  refine D_rows (List.Perm.cons _ ?_) _
  have := List.perm_cons_erase (mem_range_erase.2 ⟨Ne.symm hij, hj⟩)
  simpa using this.map A
theorem mem_erase2 {n i j k : Nat} (h : k ∈ ((List.range n).erase i).erase j) : k ≠ i ∧ k ≠ j ∧ k < n := by
  rw [List.Nodup.mem_erase_iff (List.Nodup.erase _ List.nodup_range), mem_range_erase] at h
  exact ⟨h.2.1, h.1, h.2.2⟩
/-- Rows that change places. -/
theorem det_swap {n i j : Nat} (hi : i < n) (hj : j < n) (A : Nat → Nat → F) : det n (fun a => if a = i then A j else if a = j then A i else A a) = det n A := by
  by_cases hij : i = j
  · subst hij
    apply det_congr; intro a b _ _
    by_cases e : a = i
    · subst e; simp only [if_pos]
    · simp only [if_neg e]
  · rw [det_front2 hi hj hij, det_front2 hi hj hij, D_swap]
    simp only [if_pos, if_neg (Ne.symm hij)]
    have : (((List.range n).erase i).erase j).map (fun a => if a = i then A j else if a = j then A i else A a) = (((List.range n).erase i).erase j).map A := by
      apply List.map_congr_left
      intro k hk
      obtain ⟨h1, h2, _⟩ := mem_erase2 hk
      rw [if_neg h1, if_neg h2]
    rw [this]
/-- A row times a number. -/
theorem det_scale {n i : Nat} (hi : i < n) (a : F) (A : Nat → Nat → F) : det n (fun k => if k = i then fun c => a * A i c else A k) = a * det n A := by
  rw [det_front hi, det_front hi A]
  simp only [if_pos]
  rw [D_mul]
  congr 2
  have : ((List.range n).erase i).map (fun k => if k = i then fun c => a * A i c else A k) = ((List.range n).erase i).map A := by
    apply List.map_congr_left
    intro k hk
    rw [if_neg (mem_range_erase.1 hk).1]
  rw [this]
/-- A multiple of another row is added. -/
theorem det_add_row {n i j : Nat} (hi : i < n) (hj : j < n) (hij : i ≠ j) (a : F) (A : Nat → Nat → F) : det n (fun k => if k = i then fun c => A i c + a * A j c else A k) = det n A := by
  rw [det_front2 hi hj hij, det_front2 hi hj hij A]
  simp only [if_pos, if_neg (Ne.symm hij)]
  have : (((List.range n).erase i).erase j).map (fun k => if k = i then fun c => A i c + a * A j c else A k) = (((List.range n).erase i).erase j).map A := by
    apply List.map_congr_left
    intro k hk
    rw [if_neg (mem_erase2 hk).1]
  rw [this, D_add_row]
theorem det_zero_row {n i : Nat} (hi : i < n) {A : Nat → Nat → F} (h : ∀ j, j < n → A i j = 0) : det n A = 0 := by
  rw [det_front hi]
  exact D_zero (fun c hc => h c (List.mem_range.1 hc))
/-- A row times a matrix, m cells long. -/
def vm (m : Nat) (v : Nat → F) (B : Nat → Nat → F) : Nat → F := fun c => sm m (fun k => v k * B k c)
/-- The product of matrices; m: how many columns the first has. -/
def mm (m : Nat) (A B : Nat → Nat → F) : Nat → Nat → F := fun i => vm m (A i) B
def one : Nat → Nat → F := fun i j => if i = j then 1 else 0
theorem mm_assoc (m k : Nat) (A B C : Nat → Nat → F) : mm k (mm m A B) C = mm m A (mm k B C) := by
  funext i c
  show sm k (fun l => sm m (fun j => A i j * B j l) * C l c) = sm m (fun j => A i j * sm k (fun l => B j l * C l c))
  simp only [← sm_mul, ← sm_mul_right, Fld.mul_assoc]
  exact sm_comm _ _ _
theorem mm_one {m : Nat} (A : Nat → Nat → F) (i : Nat) {c : Nat} (hc : c < m) : mm m A one i c = A i c := by
  show sm m (fun k => A i k * one k c) = _
  rw [sm_one hc (fun j _ hj => by unfold one; rw [if_neg hj, mul_zero])]
  unfold one; rw [if_pos rfl, Fld.mul_one]
theorem one_mm {m : Nat} (A : Nat → Nat → F) {i : Nat} (hi : i < m) (c : Nat) : mm m one A i c = A i c := by
  show sm m (fun k => one i k * A k c) = _
  rw [sm_one hi (fun j _ hj => by unfold one; rw [if_neg (Ne.symm hj), zero_mul])]
  unfold one; rw [if_pos rfl, one_mul]
theorem vm_add (m : Nat) (v w : Nat → F) (B : Nat → Nat → F) (c : Nat) : vm m (fun k => v k + w k) B c = vm m v B c + vm m w B c := by
  unfold vm; rw [← sm_add]; exact sm_congr (fun k _ => add_mul _ _ _)
theorem vm_mul (m : Nat) (a : F) (v : Nat → F) (B : Nat → Nat → F) (c : Nat) : vm m (fun k => a * v k) B c = a * vm m v B c := by
  unfold vm; rw [← sm_mul]; exact sm_congr (fun k _ => Fld.mul_assoc _ _ _)
theorem vm_congr {m : Nat} {v w : Nat → F} (h : ∀ k, k < m → v k = w k) (B : Nat → Nat → F) (c : Nat) : vm m v B c = vm m w B c :=
  sm_congr (fun k hk => by rw [h k hk])
/-- The unit matrix's determinant. -/
theorem D_unit : ∀ (is : List Nat), is.Nodup → D (is.map (one (F := F))) is = 1 := by
  intro is
  induction is with
  | nil => intro _; rfl
  | cons i is ih =>
    intro h
    obtain ⟨h1, h2⟩ := List.nodup_cons.1 h
    rw [List.map_cons, D, pk]
    rw [pk_none (fun y ys hp => by
      have : y ≠ i := fun e => h1 (e ▸ hp.mem_iff.1 (List.mem_cons_self ..))
      unfold one; rw [if_neg (Ne.symm this), zero_mul])]
    rw [ih h2]
    unfold one; rw [if_pos rfl, Fld.mul_one, Fld.add_zero]
theorem det_one (n : Nat) : det n (one (F := F)) = 1 := D_unit _ List.nodup_range
end LA
