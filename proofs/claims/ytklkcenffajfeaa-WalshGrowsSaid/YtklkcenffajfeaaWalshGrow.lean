/- The locator when the list grows by one, and of all indices together. -/
import Derived.Test.YtklkcenffajfeaaWalshLoc
namespace Go.Proofs.Ytklkcenffajfeaa.R
open Go.RowKit Go.Proofs.YtklkcenffajfeaaW.PrintWords Go.Proofs.YtklkcenffajfeaaW.PrintLast Go.Proofs.YtklkcenffajfeaaW.PrintMore Go.Proofs.Ytklkcenffajfeaa.A
set_option linter.unusedVariables false
set_option linter.unusedSimpArgs false
set_option linter.unusedSectionVars false
/-- The factor of one lost index. -/
def fac (i : Nat) (x : Int) : Nat := if x.toNat = i then 1 else GP.wel (i ^^^ x.toNat)
theorem fac_lt (i : Nat) (x : Int) : fac i x < 65536 := by unfold fac; split; (· omega); (· exact GP.wel_lt _)
/-- The product of the factors of a list. -/
def pL (i : Nat) (l : List Int) : Nat := l.foldl (fun a x => m16 a (fac i x)) 1
theorem pL_snoc (i : Nat) (l : List Int) (x : Int) : pL i (l ++ [x]) = m16 (pL i l) (fac i x) := by unfold pL; rw [List.foldl_append]; rfl
theorem pL_lt (i : Nat) (l : List Int) : pL i l < 65536 := by
  have : ∀ (l : List Int) (a : Nat), a < 65536 → l.foldl (fun a x => m16 a (fac i x)) a < 65536 := by
    intro l
    induction l with
    | nil => intro a h; exact h
    | cons x l ih => intro a h; exact ih _ (m16_lt _ _)
  exact this l 1 (by omega)
theorem prodW_take (l : List Int) (i : Nat) : ∀ k, k ≤ l.length → prodW l i k = pL i (l.take k) := by
  intro k
  induction k with
  | zero => intro _; rfl
  | succ k ih =>
    intro hk
    have e : l[k] = l.getD k 0 := by rw [List.getD_eq_getElem?_getD, List.getElem?_eq_getElem (by omega)]; rfl
    rw [List.take_succ_eq_append_getElem (by omega), pL_snoc, e, ← ih (by omega)]
    show (if (l.getD k 0).toNat = i then prodW l i k else m16 (prodW l i k) (GP.wel (i ^^^ (l.getD k 0).toNat))) = _
    unfold fac
    split
    · rw [m16_one (prodW_lt _ _ _)]
    · rfl
theorem prodW_all (l : List Int) (i : Nat) : prodW l i l.length = pL i l := by
  rw [prodW_take l i _ (Nat.le_refl _), List.take_of_length_le (Nat.le_refl _)]
/-- The first k lost ones, and the new one at its place. -/
def wide (l : List Int) (m : Int) : Nat → List Int
  | 0 => []
  | k + 1 => (if l.getD k 0 > m ∧ (k = 0 ∨ l.getD (k - 1) 0 < m) then wide l m k ++ [m] else wide l m k) ++ [l.getD k 0]
def widest (l : List Int) (m : Int) : List Int := if l.length = 0 ∨ l.getD (l.length - 1) 0 < m then wide l m l.length ++ [m] else wide l m l.length
theorem losB_snoc {n : Nat} {l : List Int} {x : Int} (h : losB n l = true) (h0 : 0 ≤ x) (h1 : x < (n : Int)) (h2 : l.length = 0 ∨ l.getD (l.length - 1) 0 < x) : losB n (l ++ [x]) = true := by
  have hl := losB_iff.1 h
  have g1 : ∀ i, i < l.length → (l ++ [x]).getD i 0 = l.getD i 0 := fun i hi => by
    rw [List.getD_eq_getElem?_getD, List.getD_eq_getElem?_getD, List.getElem?_append_left hi]
  have g2 : (l ++ [x]).getD l.length 0 = x := by
    rw [List.getD_eq_getElem?_getD, List.getElem?_append_right (Nat.le_refl _)]; simp
  refine losB_iff.2 (fun i hi => ?_)
  rw [List.length_append] at hi
  have hi' : i < l.length + 1 := hi
  by_cases hlt : i < l.length
  · rw [g1 i hlt]
    obtain ⟨a, b, c⟩ := hl i hlt
    refine ⟨a, b, ?_⟩
    rcases c with c | c
    · exact .inl c
    · by_cases e : i = 0
      · exact .inl e
      · rw [g1 (i - 1) (by omega)]; exact .inr c
  · have : i = l.length := by omega
    subst this
    rw [g2]
    refine ⟨h0, h1, ?_⟩
    by_cases e : l.length = 0
    · exact .inl e
    · rw [g1 (l.length - 1) (by omega)]
      rcases h2 with h2 | h2
      · exact absurd h2 e
      · exact .inr h2
theorem last_snoc (l : List Int) (x : Int) : (l ++ [x]).getD ((l ++ [x]).length - 1) 0 = x := by
  rw [List.length_append, show l.length + [x].length - 1 = l.length by simp, List.getD_eq_getElem?_getD, List.getElem?_append_right (Nat.le_refl _)]; simp
section
variable {n : Nat} {l : List Int} {m : Int} (h : losB n l = true) (h0 : 0 ≤ m) (h1 : m < (n : Int)) (hm : ∀ i, i < l.length → l.getD i 0 ≠ m)
include h h0 h1 hm
theorem wide_los : ∀ k, k ≤ l.length → losB n (wide l m k) = true ∧ (k = 0 → wide l m k = []) ∧ (0 < k → (wide l m k).getD ((wide l m k).length - 1) 0 = l.getD (k - 1) 0) := by
  have hl := losB_iff.1 h
  intro k
  induction k with
  | zero => intro _; exact ⟨rfl, fun _ => rfl, fun h => absurd h (by omega)⟩
  | succ k ih =>
    intro hk
    obtain ⟨a, b, c⟩ := ih (by omega)
    obtain ⟨p, q, r⟩ := hl k (by omega)
    refine ⟨?_, fun h => absurd h (by omega), fun _ => ?_⟩
    · show losB n ((if _ then _ else _) ++ _) = true
      by_cases hc : l.getD k 0 > m ∧ (k = 0 ∨ l.getD (k - 1) 0 < m)
      · rw [if_pos hc]
        refine losB_snoc (losB_snoc a h0 h1 ?_) p q (.inr ?_)
        · rcases hc.2 with e | e
          · left; rw [b e]; rfl
          · by_cases e0 : k = 0
            · left; rw [b e0]; rfl
            · right; rw [c (by omega)]; exact e
        · rw [last_snoc]; exact hc.1
      · rw [if_neg hc]
        refine losB_snoc a p q ?_
        by_cases e0 : k = 0
        · left; rw [b e0]; rfl
        · right; rw [c (by omega)]
          rcases r with r | r
          · exact absurd r e0
          · exact r
    · exact last_snoc _ _
theorem widest_los : losB n (widest l m) = true := by
  obtain ⟨a, b, c⟩ := wide_los h h0 h1 hm l.length (Nat.le_refl _)
  unfold widest
  by_cases hc : l.length = 0 ∨ l.getD (l.length - 1) 0 < m
  · rw [if_pos hc]
    refine losB_snoc a h0 h1 ?_
    by_cases e0 : l.length = 0
    · left; rw [b e0]; rfl
    · right; rw [c (by omega)]
      rcases hc with e | e
      · exact absurd e e0
      · exact e
  · rw [if_neg hc]; exact a
theorem wide_prod (i : Nat) : ∀ k, k ≤ l.length → pL i (wide l m k) = m16 (pL i (l.take k)) (if 0 < k ∧ m < l.getD (k - 1) 0 then fac i m else 1) := by
  have hl := losB_iff.1 h
  intro k
  induction k with
  | zero => intro _; rw [if_neg (by omega), m16_one (pL_lt _ _)]; rfl
  | succ k ih =>
    intro hk
    have hi := ih (by omega)
    obtain ⟨p, q, r⟩ := hl k (by omega)
    have hne := hm k (by omega)
    have e : l[k] = l.getD k 0 := by rw [List.getD_eq_getElem?_getD, List.getElem?_eq_getElem (by omega)]; rfl
    rw [List.take_succ_eq_append_getElem (by omega), pL_snoc, e]
    show pL i ((if _ then _ else _) ++ _) = _
    rw [show k + 1 - 1 = k from rfl]
    by_cases hc : l.getD k 0 > m ∧ (k = 0 ∨ l.getD (k - 1) 0 < m)
    · rw [if_pos hc, pL_snoc, pL_snoc, hi, if_neg (show ¬ (0 < k ∧ m < l.getD (k - 1) 0) from fun z => by rcases hc.2 with w | w <;> omega), if_pos (show 0 < k + 1 ∧ m < l.getD k 0 from ⟨by omega, hc.1⟩), m16_one (pL_lt _ _), m16_assoc, m16_assoc, m16_comm (fac i m)]
    · rw [if_neg hc, pL_snoc, hi]
      by_cases hg : m < l.getD k 0
      · have k0 : 0 < k := by
          rcases Nat.eq_zero_or_pos k with z | z
          · exact absurd ⟨hg, .inl z⟩ hc
          · exact z
        have hne2 := hm (k - 1) (by omega)
        have hg2 : m < l.getD (k - 1) 0 := by
          have : ¬ l.getD (k - 1) 0 < m := fun z => hc ⟨hg, .inr z⟩
          omega
        rw [if_pos ⟨k0, hg2⟩, if_pos (show 0 < k + 1 ∧ m < l.getD k 0 from ⟨by omega, hg⟩), m16_assoc, m16_assoc, m16_comm (fac i m)]
      · rw [if_neg (show ¬ (0 < k ∧ m < l.getD (k - 1) 0) from fun z => by rcases r with w | w <;> omega), if_neg (show ¬ (0 < k + 1 ∧ m < l.getD k 0) from fun z => hg z.2), m16_one (pL_lt _ _), m16_one (m16_lt _ _)]
theorem widest_prod (i : Nat) : pL i (widest l m) = m16 (pL i l) (fac i m) := by
  have hp := wide_prod h h0 h1 hm i l.length (Nat.le_refl _)
  rw [List.take_of_length_le (Nat.le_refl _)] at hp
  unfold widest
  by_cases hc : l.length = 0 ∨ l.getD (l.length - 1) 0 < m
  · rw [if_pos hc, pL_snoc, hp, if_neg (by omega), m16_one (pL_lt _ _)]
  · have hne := hm (l.length - 1) (by omega)
    rw [if_neg hc, hp, if_pos (by omega)]
end
/-! all indices -/
def pf (f : Nat → Nat) : Nat → Nat
  | 0 => 1
  | n + 1 => m16 (pf f n) (f n)
theorem pf_lt (f : Nat → Nat) : ∀ n, pf f n < 65536
  | 0 => by show 1 < _; omega
  | n + 1 => m16_lt _ _
theorem pf_congr {f g : Nat → Nat} : ∀ {n}, (∀ i, i < n → f i = g i) → pf f n = pf g n := by
  intro n
  induction n with
  | zero => intro _; rfl
  | succ n ih => intro h; show m16 _ _ = m16 _ _; rw [ih (fun i hi => h i (by omega)), h n (by omega)]
theorem pf_append (f : Nat → Nat) (n : Nat) : ∀ m, pf f (n + m) = m16 (pf f n) (pf (fun d => f (n + d)) m) := by
  intro m
  induction m with
  | zero => rw [Nat.add_zero]; exact (m16_one (pf_lt _ _)).symm
  | succ m ih =>
    show m16 (pf f (n + m)) (f (n + m)) = m16 _ (m16 _ _)
    rw [ih, m16_assoc]
theorem wel_one : GP.wel 1 = 1 := by decide +kernel
theorem pow_add_xor {r d : Nat} (hd : d < 2 ^ r) : 2 ^ r + d = 2 ^ r ^^^ d := by
  apply Nat.eq_of_testBit_eq
  intro b
  rw [Nat.testBit_xor]
  rcases Nat.lt_trichotomy b r with h | h | h
  · rw [Nat.testBit_two_pow_add_gt h, Nat.testBit_two_pow]
    simp [show ¬ r = b by omega]
  · subst h
    rw [Nat.testBit_two_pow_add_eq, Nat.testBit_two_pow, Nat.testBit_lt_two_pow hd]; simp
  · rw [Nat.testBit_lt_two_pow (x := 2 ^ r + d) (by
      have : 2 ^ (r + 1) ≤ 2 ^ b := Nat.pow_le_pow_right (by decide) (by omega)
      rw [Nat.pow_succ] at this; omega), Nat.testBit_two_pow, Nat.testBit_lt_two_pow (x := d) (Nat.lt_of_lt_of_le hd (Nat.pow_le_pow_right (by decide) (by omega)))]
    simp [show ¬ r = b by omega]
theorem xor_pow_div (x r : Nat) : (x ^^^ 2 ^ r) / 2 ^ r = (x / 2 ^ r) ^^^ 1 := by
  rw [← Nat.shiftRight_eq_div_pow, Nat.shiftRight_xor_distrib, Nat.shiftRight_eq_div_pow, Nat.shiftRight_eq_div_pow, Nat.div_self (Nat.two_pow_pos r)]
theorem pf_wel : ∀ (r : Nat), r ≤ 16 → ∀ x, x < 65536 → pf (fun d => GP.wel (x ^^^ d)) (2 ^ r) = GP.wel (x / 2 ^ r) := by
  intro r
  induction r with
  | zero =>
    intro _ x hx
    show m16 1 (GP.wel (x ^^^ 0)) = _
    rw [Nat.xor_zero, one_m16 (GP.wel_lt _)]
    simp
  | succ r ih =>
    intro hr x hx
    have hp : 2 ^ r < 65536 := Nat.lt_of_lt_of_le (Nat.pow_lt_pow_right (by decide) (by omega : r < 16)) (by decide)
    have hx2 : x ^^^ 2 ^ r < 65536 := xor16 hx hp
    rw [Nat.pow_succ, Nat.mul_two, pf_append, ih (by omega) x hx, pf_congr (g := fun d => GP.wel ((x ^^^ 2 ^ r) ^^^ d)) (fun d hd => by rw [pow_add_xor hd, Nat.xor_assoc]), ih (by omega) _ hx2, xor_pow_div, GP.wel_xor, wel_one]
    have hy : x / 2 ^ r < 65536 := Nat.lt_of_le_of_lt (Nat.div_le_self _ _) hx
    have := GP.sy_wel (x / 2 ^ r) hy
    rw [m16_xor, m16_one (GP.wel_lt _)]
    rw [show m16 (GP.wel (x / 2 ^ r)) (GP.wel (x / 2 ^ r)) ^^^ GP.wel (x / 2 ^ r) = GP.sy (GP.wel (x / 2 ^ r)) from rfl, this, Nat.div_div_eq_div_mul]
    congr 2
    omega
theorem pf_units : ∀ (r : Nat), r ≤ 16 → pf (fun d => if d = 0 then 1 else GP.wel d) (2 ^ r) = 1 := by
  intro r
  induction r with
  | zero => intro _; decide +kernel
  | succ r ih =>
    intro hr
    have hp : 2 ^ r < 65536 := Nat.lt_of_lt_of_le (Nat.pow_lt_pow_right (by decide) (by omega : r < 16)) (by decide)
    have h0 : 0 < 2 ^ r := Nat.two_pow_pos r
    rw [Nat.pow_succ, Nat.mul_two, pf_append, ih (by omega), pf_congr (g := fun d => GP.wel (2 ^ r ^^^ d)) (fun d hd => by rw [if_neg (by omega), pow_add_xor hd]), pf_wel r (by omega) _ hp, Nat.div_self h0, wel_one]
    decide +kernel
/-- All indices below n. -/
def upto (n : Nat) : List Int := lst n (fun i => (i : Int))
theorem upto_los (n : Nat) : losB n (upto n) = true := losB_iff.2 (fun i hi => by
  unfold upto at hi ⊢
  rw [lst_len] at hi
  rw [lst_getD hi]
  refine ⟨by omega, by omega, ?_⟩
  by_cases e : i = 0
  · exact .inl e
  · right; rw [lst_getD (by omega)]; omega)
theorem slg_upto {n : Nat} (i : Nat) : ∀ k, k ≤ n → ((slg (upto n) i k : Nat) : Int) = WH.si k (fun j => lgE (i ^^^ j)) := by
  intro k
  induction k with
  | zero => intro _; rfl
  | succ k ih =>
    intro hk
    have e : (upto n).getD k 0 = (k : Int) := by unfold upto; rw [lst_getD (by omega)]
    show ((slg (upto n) i k + (lgE (i ^^^ ((upto n).getD k 0).toNat)).toNat : Nat) : Int) = _
    rw [WH.si, ← ih (by omega), e, Int.toNat_natCast]
    have := lgE_nn (i ^^^ k)
    omega
theorem prodW_upto {n : Nat} : ∀ k, k ≤ n → prodW (upto n) 0 k = pf (fun d => if d = 0 then 1 else GP.wel d) k := by
  intro k
  induction k with
  | zero => intro _; rfl
  | succ k ih =>
    intro hk
    have e : (upto n).getD k 0 = (k : Int) := by unfold upto; rw [lst_getD (by omega)]
    show (if ((upto n).getD k 0).toNat = 0 then prodW (upto n) 0 k else m16 (prodW (upto n) 0 k) (GP.wel (0 ^^^ ((upto n).getD k 0).toNat))) = m16 (pf (fun d => if d = 0 then 1 else GP.wel d) k) (if k = 0 then 1 else GP.wel k)
    rw [e, Int.toNat_natCast, ih (by omega), Nat.zero_xor]
    split
    · rw [m16_one (pf_lt _ _)]
    · rfl
theorem prodW_every {r i : Nat} (hr : r ≤ 16) (hi : i < 2 ^ r) : prodW (upto (2 ^ r)) i (2 ^ r) = 1 := by
  have hl := upto_los (2 ^ r)
  have hlen : (upto (2 ^ r)).length = 2 ^ r := lst_len _ _
  have h1 := pw_slg hr hl hi (2 ^ r) (by omega)
  have h2 := pw_slg hr hl (Nat.two_pow_pos r) (2 ^ r) (by omega)
  have e1 := slg_upto (n := 2 ^ r) i (2 ^ r) (Nat.le_refl _)
  have e2 := slg_upto (n := 2 ^ r) 0 (2 ^ r) (Nat.le_refl _)
  have e3 : WH.si (2 ^ r) (fun j => lgE (i ^^^ j)) = WH.si (2 ^ r) (fun j => lgE (0 ^^^ j)) := by
    rw [WH.si_congr (g := fun j => lgE (j ^^^ i)) (fun j _ => by rw [Nat.xor_comm]), WH.si_xor hi lgE]
    exact WH.si_congr (fun j _ => by rw [Nat.zero_xor])
  have e4 : slg (upto (2 ^ r)) i (2 ^ r) = slg (upto (2 ^ r)) 0 (2 ^ r) := by omega
  rw [← h1, e4, h2, prodW_upto _ (Nat.le_refl _), pf_units r hr]
end Go.Proofs.Ytklkcenffajfeaa.R
