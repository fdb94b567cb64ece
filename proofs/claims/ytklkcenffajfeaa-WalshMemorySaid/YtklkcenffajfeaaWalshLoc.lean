/- The locator: its logarithms' powers are the products of the differences. -/
import Derived.Test.YtklkcenffajfeaaH7
namespace Go.Proofs.Ytklkcenffajfeaa.R
open Go.RowKit Go.Proofs.YtklkcenffajfeaaW.PrintWords Go.Proofs.YtklkcenffajfeaaW.PrintLast Go.Proofs.YtklkcenffajfeaaW.PrintMore Go.Proofs.Ytklkcenffajfeaa.A
set_option linter.unusedVariables false
set_option linter.unusedSimpArgs false
theorem pw_lgN {a : Nat} (ha : a < 65536) (h0 : a ≠ 0) : tab16.pw (lgN a) = a := by
  obtain ⟨i, hi, hp, hl⟩ := log16 ha h0
  unfold lgN
  rw [if_neg h0, hl]
  exact hp
theorem wel_ne {i : Nat} (hi : i < 65536) (h0 : i ≠ 0) : GP.wel i ≠ 0 := by
  intro e
  have := GP.wix_wel i hi
  rw [e] at this
  have h2 : GP.wix 0 = 0 := by decide +kernel
  omega
theorem pw_lgE {i : Nat} (hi : i < 65536) : tab16.pw (lgE i).toNat = if i = 0 then 1 else GP.wel i := by
  unfold lgE
  by_cases h : i = 0
  · rw [if_pos h, if_pos h]; rfl
  · rw [if_neg h, if_neg h, Int.toNat_natCast]
    exact pw_lgN (GP.wel_lt i) (wel_ne hi h)
/-- The sum of the logarithms of the differences to the first k lost ones. -/
def slg (l : List Int) (i : Nat) : Nat → Nat
  | 0 => 0
  | k + 1 => slg l i k + (lgE (i ^^^ (l.getD k 0).toNat)).toNat
/-- The product of the differences to the first k lost ones, but to itself. -/
def prodW (l : List Int) (i : Nat) : Nat → Nat
  | 0 => 1
  | k + 1 => if (l.getD k 0).toNat = i then prodW l i k else m16 (prodW l i k) (GP.wel (i ^^^ (l.getD k 0).toNat))
theorem lgE_nn (i : Nat) : 0 ≤ lgE i := by unfold lgE; split <;> omega
theorem prodW_lt (l : List Int) (i : Nat) : ∀ k, prodW l i k < 65536
  | 0 => by show 1 < _; omega
  | k + 1 => by
    show (if _ then _ else _) < _
    split
    · exact prodW_lt l i k
    · exact m16_lt _ _
theorem rising {n : Nat} {l : List Int} (h : losB n l = true) : ∀ d i, i + d + 1 < l.length + 0 + 1 - 0 → i + d + 1 ≤ l.length - 1 + 0 + 0 → l.getD i 0 < l.getD (i + d + 1) 0 := by
  have hl := losB_iff.1 h
  intro d
  induction d with
  | zero =>
    intro i h1 h2
    have := (hl (i + 0 + 1) (by omega)).2.2
    rcases this with e | e
    · omega
    · rwa [show i + 0 + 1 - 1 = i by omega] at e
  | succ d ih =>
    intro i h1 h2
    have h3 := ih i (by omega) (by omega)
    have := (hl (i + (d + 1) + 1) (by omega)).2.2
    rcases this with e | e
    · omega
    · rw [show i + (d + 1) + 1 - 1 = i + d + 1 by omega] at e; omega
theorem mk_new {n : Nat} {l : List Int} (h : losB n l = true) {k : Nat} (hk : k < l.length) : mk l k (l.getD k 0).toNat = 0 := by
  have hl := losB_iff.1 h
  unfold mk
  rw [if_neg]
  intro hany
  obtain ⟨x, hx, he⟩ := List.any_eq_true.1 hany
  rw [beq_iff_eq] at he
  obtain ⟨i, hi, rfl⟩ := List.getElem_of_mem hx
  have hi2 : i < k := by rw [List.length_take] at hi; omega
  rw [List.getElem_take] at he
  have h2 : l.getD i 0 = l[i] := by rw [List.getD_eq_getElem?_getD, List.getElem?_eq_getElem (by omega)]; rfl
  have h3 := rising h (k - i - 1) i (by omega) (by omega)
  rw [show i + (k - i - 1) + 1 = k by omega, h2, he] at h3
  have := (hl k hk).1
  omega
theorem cv_mk {r : Nat} {l : List Int} (h : losB (2 ^ r) l = true) (i : Nat) : ∀ k, k ≤ l.length → WH.cv r (mk l k) lgE i = ((slg l i k : Nat) : Int) := by
  have hl := losB_iff.1 h
  intro k
  induction k with
  | zero =>
    intro _
    show WH.si (2 ^ r) (fun j => mk l 0 j * lgE (i ^^^ j)) = 0
    rw [WH.si_congr (g := fun _ => 0) (fun j _ => by rw [mk_zero, Int.zero_mul]), WH.si_zero]
  | succ k ih =>
    intro hk
    obtain ⟨g1, g2, -⟩ := hl k (by omega)
    obtain ⟨a, ha⟩ := Int.eq_ofNat_of_zero_le g1
    have hai : a < 2 ^ r := by omega
    have hnew := mk_new h (k := k) (by omega)
    rw [ha, Int.toNat_natCast] at hnew
    have e : ∀ j, j < 2 ^ r → mk l (k + 1) j * lgE (i ^^^ j) = mk l k j * lgE (i ^^^ j) + (if j = a then lgE (i ^^^ a) else 0) := fun j hj => by
      rw [mk_succ (by omega) ha]
      by_cases ej : j = a
      · subst ej; rw [if_pos rfl, if_pos rfl, hnew]; omega
      · rw [if_neg ej, if_neg ej]; omega
    show WH.si (2 ^ r) (fun j => mk l (k + 1) j * lgE (i ^^^ j)) = _
    rw [WH.si_congr e, WH.si_add]
    have h1 := ih (by omega)
    unfold WH.cv at h1
    rw [h1, WH.si_one hai (fun j hj hja => if_neg hja), if_pos rfl]
    show _ = ((slg l i k + (lgE (i ^^^ (l.getD k 0).toNat)).toNat : Nat) : Int)
    rw [ha, Int.toNat_natCast]
    have := lgE_nn (i ^^^ a)
    omega
theorem pw_slg {r : Nat} (hr : r ≤ 16) {l : List Int} (h : losB (2 ^ r) l = true) {i : Nat} (hi : i < 2 ^ r) : ∀ k, k ≤ l.length → tab16.pw (slg l i k) = prodW l i k := by
  have hl := losB_iff.1 h
  have h16 : 2 ^ r ≤ 65536 := Nat.pow_le_pow_right (by decide) hr
  intro k
  induction k with
  | zero => intro _; rfl
  | succ k ih =>
    intro hk
    obtain ⟨g1, g2, -⟩ := hl k (by omega)
    obtain ⟨a, ha⟩ := Int.eq_ofNat_of_zero_le g1
    have hai : a < 2 ^ r := by omega
    have hx : i ^^^ a < 65536 := Nat.lt_of_lt_of_le (Nat.xor_lt_two_pow hi hai) h16
    show tab16.pw (slg l i k + (lgE (i ^^^ (l.getD k 0).toNat)).toNat) = (if (l.getD k 0).toNat = i then prodW l i k else m16 (prodW l i k) (GP.wel (i ^^^ (l.getD k 0).toNat)))
    rw [pw16_add, ih (by omega), ha, Int.toNat_natCast, pw_lgE hx]
    by_cases e : a = i
    · subst e
      rw [if_pos (Nat.xor_self a), if_pos rfl, m16_one (prodW_lt _ _ _)]
    · rw [if_neg e, if_neg]
      intro h0
      apply e
      have : i ^^^ a ^^^ a = 0 ^^^ a := by rw [h0]
      rw [Nat.xor_assoc, Nat.xor_self, Nat.xor_zero, Nat.zero_xor] at this
      exact this.symm
/-- The locator. -/
theorem loc_prod {r : Nat} (hr : r ≤ 16) {l : List Int} (h : losB (2 ^ r) l = true) {i : Nat} (hi : i < 2 ^ r) : tab16.pw (res (locL l r i)) = prodW l i l.length := by
  have e : locL l r i = WH.md ((slg l i l.length : Nat) : Int) := by unfold locL; rw [cv_mk h i _ (Nat.le_refl _)]
  have e2 : res (locL l r i) = slg l i l.length % 65535 := by
    rw [e]
    unfold res WH.md
    have h0 : (0 : Int) ≤ ((slg l i l.length : Nat) : Int) % 65535 := by omega
    rw [Int.tmod_eq_emod_of_nonneg h0]
    rw [if_neg (by omega)]
    omega
  rw [e2, pw16_mod]
  exact pw_slg hr h hi _ (Nat.le_refl _)
theorem locator_yes {r : Nat} (hr : r ≤ 16) {l : List Int} (h : losB (2 ^ r) l = true) (hl : l.length ≤ 65536) : walsh_locator.f l (r : Int) = some (lst (2 ^ r) (locL l r), 0) := by
  unfold walsh_locator.f
  rw [if_pos ⟨by omega, by omega⟩, Int.toNat_natCast, if_pos h, if_pos hl]
theorem losB_len {n : Nat} {l : List Int} (h : losB n l = true) : l.length ≤ n := by
  have hl := losB_iff.1 h
  have : ∀ i, i < l.length → (i : Int) ≤ l.getD i 0 := by
    intro i
    induction i with
    | zero => intro hi; exact (hl 0 hi).1
    | succ i ih =>
      intro hi
      have h1 := ih (by omega)
      rcases (hl (i + 1) hi).2.2 with e | e
      · omega
      · rw [show i + 1 - 1 = i by omega] at e; omega
  rcases Nat.eq_zero_or_pos l.length with h0 | h0
  · omega
  · have h1 := this (l.length - 1) (by omega)
    have h2 := (hl (l.length - 1) (by omega)).2.1
    omega
theorem Products_yes {r : Nat} (hr : r ≤ 16) {l : List Int} (h : losB (2 ^ r) l = true) : walsh_Products.f l (r : Int) = some (lst (2 ^ r) (fun i => ((prodW l i l.length : Nat) : Int)), 0) := by
  have hl : l.length ≤ 65536 := Nat.le_trans (losB_len h) (Nat.pow_le_pow_right (by decide) hr)
  unfold walsh_Products.f
  rw [locator_yes hr h hl, Option.bind_some, if_pos rfl, lst_len]
  refine congrArg some (congrArg (·, (0 : Int)) (lst_congr (fun j hj => ?_)))
  rw [lst_getD hj, loc_prod hr h hj]
end Go.Proofs.Ytklkcenffajfeaa.R
