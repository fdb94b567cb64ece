/- What the document's functions of the ring compute, third part: combine, InvMod, Irreducible, Order, Primitive. -/
import Derived.Test.YthldahaimcdejaaDoorRefRing2
import Derived.Test.YthldahaimcdejaaDoorRingRab
import Derived.Test.YthldahaimcdejaaDoorZ3

namespace Go.Proofs.YthldahaimcdejaaDoor.R
open Go.RowKit Go.Proofs.YthldahaimcdejaaDoorW.PrintWords Go.Proofs.YthldahaimcdejaaDoorW.PrintLast Go.Proofs.YthldahaimcdejaaDoorW.PrintMore Go.Proofs.YthldahaimcdejaaDoor.A GP
set_option linter.unusedVariables false
set_option linter.unusedSimpArgs false
def fs (l : List (Nat × Nat)) : List Int := l.map fun e => ((e.1 : Nat) : Int)
def sn (l : List (Nat × Nat)) : List Int := l.map fun e => ((e.2 : Nat) : Int)
theorem fs_len (l : List (Nat × Nat)) : (fs l).length = l.length := by simp [fs]
theorem sn_len (l : List (Nat × Nat)) : (sn l).length = l.length := by simp [sn]
theorem fs_rd {l : List (Nat × Nat)} {j : Nat} (h : j < l.length) : rd (fs l) (j : Nat) = ((l[j].1 : Nat) : Int) := by
  unfold rd fs; rw [Int.toNat_natCast, List.getD_eq_getElem?_getD, List.getElem?_map, List.getElem?_eq_getElem h]; rfl
theorem sn_rd {l : List (Nat × Nat)} {j : Nat} (h : j < l.length) : rd (sn l) (j : Nat) = ((l[j].2 : Nat) : Int) := by
  unfold rd sn; rw [Int.toNat_natCast, List.getD_eq_getElem?_getD, List.getElem?_map, List.getElem?_eq_getElem h]; rfl
/-- Pairs of numbers that fit. -/
def Fit (l : List (Nat × Nat)) : Prop := ∀ e ∈ l, e.1 ≠ 0 ∧ e.1 < 2 ^ 40 ∧ e.2 < 2 ^ 40
theorem Fit.at_ {l : List (Nat × Nat)} (h : Fit l) {j : Nat} (hj : j < l.length) : l[j].1 ≠ 0 ∧ l[j].1 < 2 ^ 40 ∧ l[j].2 < 2 ^ 40 := h _ (List.getElem_mem hj)
theorem crd_drop {l : List (Nat × Nat)} {j : Nat} (hj : j < l.length) (x : Nat × Nat) : crd (l.drop j) x = crd (l.drop (j + 1)) (cst l[j] x) := by
  rw [List.drop_eq_getElem_cons hj]; rfl
theorem cst_fit {e x : Nat × Nat} (h1 : e.1 < 2 ^ 40) (h2 : e.2 < 2 ^ 40) (h3 : x.1 < 2 ^ 40) (h4 : x.2 < 2 ^ 40) : (cst e x).1 < 2 ^ 40 ∧ (cst e x).2 < 2 ^ 40 := by
  unfold cst; split
  · exact ⟨Nat.xor_lt_two_pow h3 h1, Nat.xor_lt_two_pow h4 h2⟩
  · exact ⟨h3, h4⟩
theorem crd_fit : ∀ (l : List (Nat × Nat)), Fit l → ∀ x : Nat × Nat, x.1 < 2 ^ 40 → x.2 < 2 ^ 40 → (crd l x).1 < 2 ^ 40 ∧ (crd l x).2 < 2 ^ 40 := by
  intro l
  induction l with
  | nil => intro _ x h1 h2; exact ⟨h1, h2⟩
  | cons e l ih =>
    intro h x h1 h2
    obtain ⟨a1, a2, a3⟩ := h e List.mem_cons_self
    obtain ⟨b1, b2⟩ := cst_fit (e := e) (x := x) a2 a3 h1 h2
    exact ih (fun z hz => h z (List.mem_cons_of_mem _ hz)) _ b1 b2
section
variable {l : List (Nat × Nat)} (hl : Fit l) (hlen : l.length ≤ 64)
include hl hlen
theorem rcomb_l1 {want p n x i : Nat} {R : Int × Bool} : ∀ m j v u : Nat, l.length - j = m → j ≤ l.length → v < 2 ^ 40 → u < 2 ^ 40 →
    Ev (fun k => culletref01_combine.l1 k want p n (fs l) (sn l) x i ((crd (l.drop j) (v, u)).1 : Nat) ((crd (l.drop j) (v, u)).2 : Nat) (l.length : Nat)) R →
    Ev (fun k => culletref01_combine.l1 k want p n (fs l) (sn l) x i v u j) R := by
  intro m
  induction m with
  | zero =>
    intro j v u h hj _ _ hR
    have : j = l.length := by omega
    subst this
    rw [List.drop_of_length_le (Nat.le_refl _)] at hR
    exact hR
  | succ m ih =>
    intro j v u h hj hv hu hR
    have hjl : j < l.length := by omega
    obtain ⟨e0, e1, e2⟩ := hl.at_ hjl
    rw [crd_drop hjl] at hR
    refine Ev.step (fun k => culletref01_combine.l1.eq_2 _ _ _ _ _ _ _ _ _ _ k) ?_
    simp only [fs_len, sn_len, if_pos (show ((j : Nat) : Int) < (l.length : Nat) by omega), fs_rd hjl, sn_rd hjl]
    refine Ev.bind (rdeg (by omega)) ?_
    rw [wrap64_id (by omega) (by omega), show (j : Int) + 1 = ((j + 1 : Nat) : Int) by omega]
    have hcv : cst l[j] (v, u) = if v.testBit (bl l[j].1 - 1) then (v ^^^ l[j].1, u ^^^ l[j].2) else (v, u) := rfl
    have hne := bl_pos.2 e0
    have hb40 := bl_le.2 e1
    by_cases hv0 : v = 0
    · subst hv0
      rw [bl_zero]
      simp only [if_neg (show ¬ ((0 : Nat) : Int) - 1 ≥ 0 by omega)]
      rw [hcv, if_neg (by simp)] at hR
      exact ih (j + 1) 0 u (by omega) (by omega) hv hu hR
    · have := bl_pos.2 hv0
      simp only [if_pos (show (bl v : Int) - 1 ≥ 0 by omega), if_pos (show (0 : Int) ≤ ((j : Nat) : Int) by omega)]
      refine Ev.bind (rdeg (by omega)) ?_
      rw [show (bl l[j].1 : Int) - 1 = ((bl l[j].1 - 1 : Nat) : Int) by omega, u64_wrap_nat (by omega), bit64 (by omega) (by omega)]
      simp only [if_pos (show (0 : Int) ≤ ((bl l[j].1 - 1 : Nat) : Int) by omega)]
      by_cases hbit : v.testBit (bl l[j].1 - 1) = true
      · rw [hcv, if_pos hbit] at hR
        simp only [hbit, if_true]
        rw [bits_xor64 (by omega) (by omega), bits_xor64 (by omega) (by omega)]
        exact ih (j + 1) _ _ (by omega) (by omega) (Nat.xor_lt_two_pow hv e1) (Nat.xor_lt_two_pow hu e2) hR
      · rw [hcv, if_neg hbit] at hR
        simp only [hbit, Bool.false_eq_true, if_false, if_neg (show ¬ ((0 : Int) = 1) by omega)]
        exact ih (j + 1) _ _ (by omega) (by omega) hv hu hR
theorem rcomb_l2 : ∀ m j v u : Nat, l.length - j = m → j ≤ l.length → v < 2 ^ 40 → u < 2 ^ 40 →
    Ev (fun k => culletref01_combine.l2 k (fs l) (sn l) v u j) (((crd (l.drop j) (v, u)).2 : Nat), decide ((crd (l.drop j) (v, u)).1 = 0)) := by
  intro m
  induction m with
  | zero =>
    intro j v u h hj _ _
    have : j = l.length := by omega
    subst this
    rw [List.drop_of_length_le (Nat.le_refl _)]
    refine Ev.step (fun k => culletref01_combine.l2.eq_2 _ _ _ _ _ k) ?_
    simp only [fs_len, if_neg (show ¬ ((l.length : Nat) : Int) < (l.length : Nat) by omega)]
    have e : (((v : Nat) : Int) == 0) = decide (v = 0) := by rw [Bool.eq_iff_iff]; simp
    rw [e]
    exact Ev.now _
  | succ m ih =>
    intro j v u h hj hv hu
    have hjl : j < l.length := by omega
    obtain ⟨e0, e1, e2⟩ := hl.at_ hjl
    rw [crd_drop hjl]
    refine Ev.step (fun k => culletref01_combine.l2.eq_2 _ _ _ _ _ k) ?_
    simp only [fs_len, sn_len, if_pos (show ((j : Nat) : Int) < (l.length : Nat) by omega), fs_rd hjl, sn_rd hjl, if_pos (show (0 : Int) ≤ ((j : Nat) : Int) by omega)]
    refine Ev.bind (rdeg (by omega)) ?_
    rw [wrap64_id (by omega) (by omega), show (j : Int) + 1 = ((j + 1 : Nat) : Int) by omega]
    have hcv : cst l[j] (v, u) = if v.testBit (bl l[j].1 - 1) then (v ^^^ l[j].1, u ^^^ l[j].2) else (v, u) := rfl
    have hne := bl_pos.2 e0
    have hb40 := bl_le.2 e1
    rw [show (bl l[j].1 : Int) - 1 = ((bl l[j].1 - 1 : Nat) : Int) by omega, u64_wrap_nat (by omega), bit64 (by omega) (by omega)]
    simp only [if_pos (show (0 : Int) ≤ ((bl l[j].1 - 1 : Nat) : Int) by omega)]
    by_cases hbit : v.testBit (bl l[j].1 - 1) = true
    · rw [hcv, if_pos hbit]
      simp only [hbit, if_true]
      rw [bits_xor64 (by omega) (by omega), bits_xor64 (by omega) (by omega)]
      exact ih (j + 1) _ _ (by omega) (by omega) (Nat.xor_lt_two_pow hv e1) (Nat.xor_lt_two_pow hu e2)
    · rw [hcv, if_neg hbit]
      simp only [hbit, Bool.false_eq_true, if_false, if_neg (show ¬ ((0 : Int) = 1) by omega)]
      exact ih (j + 1) _ _ (by omega) (by omega) hv hu
end
theorem cmb_fit {a p n : Nat} {l : List (Nat × Nat)} (h : Cmb a p n l) (hp0 : p ≠ 0) (hp : bl p ≤ 33) (hn : n ≤ 32) : Fit l := fun e he => by
  obtain ⟨h1, h2, h3⟩ := h.all e he
  refine ⟨h3, ?_, Nat.lt_of_lt_of_le h2 (Nat.pow_le_pow_right (by decide) (by omega))⟩
  rw [h1]
  exact bl_le.1 (by have := pmod_lt hp0 (cl e.2 a); omega)
theorem rcomb_l0 {a want p n : Nat} (hw : want < 2 ^ 64) (hp0 : p ≠ 0) (hp : bl p ≤ 33) (hn : n ≤ 32) : ∀ m i (l : List (Nat × Nat)), n - i = m → i ≤ n → Cmb a p i l → l.length ≤ i →
    ∃ v u : Nat, (u < 2 ^ n ∧ (v = 0 → pmod (cl u a) p = pmod want p) ∧ (v ≠ 0 → ∀ w, w < 2 ^ n → pmod (cl w a) p ≠ pmod want p)) ∧
      Ev (fun k => culletref01_combine.l0 k want p n (fs l) (sn l) (pmod (cl (2 ^ i) a) p : Nat) i) ((u : Nat), decide (v = 0)) := by
  have hp64 : p < 2 ^ 64 := bl_le.1 (by omega)
  intro m
  induction m with
  | zero =>
    intro i l h hi hC hlen
    have : i = n := by omega
    subst this
    have hF := cmb_fit hC hp0 hp (by omega)
    refine ⟨(crd l (pmod want p, 0)).1, (crd l (pmod want p, 0)).2, hC.sound hp0 rfl, ?_⟩
    refine Ev.step (fun k => culletref01_combine.l0.eq_2 _ _ _ _ _ _ _ k) ?_
    simp only [if_neg (show ¬ ((i : Nat) : Int) < (i : Nat) by omega)]
    refine Ev.bind (rrest hp0 hw hp64) ?_
    have := rcomb_l2 hF (by omega) _ 0 (pmod want p) 0 rfl (Nat.zero_le _) (bl_le.1 (by have := pmod_lt hp0 want; omega)) (by decide)
    exact this
  | succ m ih =>
    intro i l h hi hC hlen
    have hin : i < n := by omega
    have hF := cmb_fit hC hp0 hp (by omega)
    obtain ⟨v, u, hvu⟩ : ∃ v u, crd l (pmod (cl (2 ^ i) a) p, 2 ^ i) = (v, u) := ⟨_, _, rfl⟩
    have hN := hC.next hp0 hvu
    have hx := pmod_lt hp0 (cl (2 ^ i) a)
    have hx40 : pmod (cl (2 ^ i) a) p < 2 ^ 40 := bl_le.1 (by omega)
    have hi40 : 2 ^ i < 2 ^ 40 := Nat.pow_lt_pow_right (by decide) (by omega)
    obtain ⟨hv40, hu40⟩ := crd_fit l hF (pmod (cl (2 ^ i) a) p, 2 ^ i) hx40 hi40
    rw [hvu] at hv40 hu40
    dsimp only at hv40 hu40
    obtain ⟨v', u', h1, h2⟩ := ih (i + 1) (if v = 0 then l else l ++ [(v, u)]) (by omega) (by omega) hN (by
      by_cases h0 : v = 0
      · rw [if_pos h0]; omega
      · rw [if_neg h0, List.length_append, List.length_singleton]; omega)
    refine ⟨v', u', h1, ?_⟩
    refine Ev.step (fun k => culletref01_combine.l0.eq_2 _ _ _ _ _ _ _ k) ?_
    simp only [if_pos (show ((i : Nat) : Int) < (n : Nat) by omega)]
    rw [u64_wrap_nat (show i < 2 ^ 64 by omega)]
    simp only [if_pos (show (0 : Int) ≤ ((i : Nat) : Int) by omega)]
    have hsh := shl64 (a := 1) (s := i) (by omega) (by omega)
    rw [show ((1 : Nat) : Int) = 1 from rfl, Nat.one_mul] at hsh
    rw [hsh]
    have hl64 : l.length ≤ 64 := by omega
    refine rcomb_l1 hF hl64 _ 0 _ _ rfl (Nat.zero_le _) hx40 hi40 ?_
    rw [List.drop_zero, hvu]
    refine Ev.step (fun k => culletref01_combine.l1.eq_2 _ _ _ _ _ _ _ _ _ _ k) ?_
    simp only [fs_len, sn_len, if_neg (show ¬ ((l.length : Nat) : Int) < (l.length : Nat) by omega)]
    have hnext : ∀ {F : Nat → Int → Option (Int × Bool)} {r : Int × Bool}, Ev (fun k => F k (pmod (cl (2 ^ (i + 1)) a) p : Nat)) r → Ev (fun k => (culletref01_rest.f k (IntKind.u64.wrap (2 * ((pmod (cl (2 ^ i) a) p : Nat) : Int))) p).bind (F k)) r := by
      intro F r hr
      refine Ev.bind ?_ hr
      generalize hy : pmod (cl (2 ^ i) a) p = y at hx40
      rw [show (2 : Int) * (y : Nat) = ((2 * y : Nat) : Int) by omega, u64_wrap_nat (by omega)]
      have := rrest (a := 2 * y) hp0 (by omega) hp64
      have e : pmod (2 * y) p = pmod (cl (2 ^ (i + 1)) a) p := by
        rw [← hy, ← pmod_double hp0, ← two_is (cl (2 ^ i) a), ← cl_assoc, two_is, show 2 * 2 ^ i = 2 ^ (i + 1) by rw [Nat.pow_succ]; omega]
      rw [← e]
      exact this
    rw [wrap64_id (by omega) (by omega), show (i : Int) + 1 = ((i + 1 : Nat) : Int) by omega]
    by_cases h0 : v = 0
    · simp only [if_pos (show ((v : Nat) : Int) = 0 by omega)]
      rw [if_pos h0] at h2
      exact hnext (F := fun k t => culletref01_combine.l0 k want p n (fs l) (sn l) t ((i + 1 : Nat) : Int)) h2
    · simp only [if_neg (show ¬ ((v : Nat) : Int) = 0 by omega), if_pos (show l.length < 17592186044416 by omega)]
      rw [if_neg h0] at h2
      have e1 : fs l ++ [((v : Nat) : Int)] = fs (l ++ [(v, u)]) := by simp [fs]
      have e2 : sn l ++ [((u : Nat) : Int)] = sn (l ++ [(v, u)]) := by simp [sn]
      rw [e1, e2]
      exact hnext (F := fun k t => culletref01_combine.l0 k want p n (fs (l ++ [(v, u)])) (sn (l ++ [(v, u)])) t ((i + 1 : Nat) : Int)) h2
theorem rcombine {a want p n : Nat} (ha : a < 2 ^ 64) (hw : want < 2 ^ 64) (hp0 : p ≠ 0) (hp : bl p ≤ 33) (hn : n ≤ 32) :
    ∃ v u : Nat, (u < 2 ^ n ∧ (v = 0 → pmod (cl u a) p = pmod want p) ∧ (v ≠ 0 → ∀ w, w < 2 ^ n → pmod (cl w a) p ≠ pmod want p)) ∧
      Ev (fun k => culletref01_combine.f k a want p n) ((u : Nat), decide (v = 0)) := by
  obtain ⟨v, u, h1, h2⟩ := rcomb_l0 (a := a) (n := n) hw hp0 hp hn _ 0 [] rfl (Nat.zero_le _) (Cmb.start a p) (Nat.zero_le _)
  refine ⟨v, u, h1, ?_⟩
  unfold culletref01_combine.f
  refine Ev.bind (rrest hp0 ha (bl_le.1 (by omega))) ?_
  rw [Nat.pow_zero, one_cl] at h2
  exact h2
/-- InvMod: the document's answer is the inverse, or there is none. -/
theorem rInvMod {a p : Nat} (ha : a < 2 ^ 64) (hp : 2 ≤ bl p) (hp2 : bl p ≤ 33) :
    (∃ u : Nat, bl u < bl p ∧ pmod (cl u a) p = 1 ∧ Ev (fun k => culletref01_InvMod.f k a p) ((u : Int), (0 : Int))) ∨ ((∀ w, bl w < bl p → pmod (cl w a) p ≠ 1) ∧ Ev (fun k => culletref01_InvMod.f k a p) ((0 : Int), (12 : Int))) := by
  have hp0 : p ≠ 0 := bl_pos.1 (by omega)
  have hp64 : p < 2 ^ 64 := bl_le.1 (by omega)
  obtain ⟨v, u, ⟨h1, h2, h3⟩, h4⟩ := rcombine (a := a) (want := 1) (p := p) (n := bl p - 1) ha (by decide) hp0 hp2 (by omega)
  have e1 : pmod 1 p = 1 := pmod_small (by rw [bl_one]; omega)
  rw [e1] at h2 h3
  have hc := rmod_yes (m := 32) hp64 ⟨hp, by omega⟩
  have stp : ∀ r, Ev (fun k => (culletref01_combine.f k a 1 p ((bl p - 1 : Nat) : Int)).bind fun bt199 => (if bt199.2 = true then (some (bt199.1, (0 : Int))) else (some (0, 12)))) r → Ev (fun k => culletref01_InvMod.f k a p) r := by
    intro r hr
    unfold culletref01_InvMod.f
    refine Ev.bind hc ?_
    simp only [if_true]
    refine Ev.bind (rdeg hp64) ?_
    rw [show (bl p : Int) - 1 = ((bl p - 1 : Nat) : Int) by omega]
    exact hr
  by_cases hv : v = 0
  · refine .inl ⟨u, by have := bl_le.2 h1; omega, h2 hv, stp _ (Ev.bind h4 ?_)⟩
    simp only [decide_eq_true hv, if_true]
    exact Ev.now _
  · refine .inr ⟨fun w hw => h3 hv w (bl_le.1 (by omega)), stp _ (Ev.bind h4 ?_)⟩
    simp only [decide_eq_false hv, Bool.false_eq_true, if_false]
    exact Ev.now _
theorem rInvMod_no {p : Nat} (a : Int) (hp : p < 2 ^ 64) (h : ¬ (2 ≤ bl p ∧ bl p ≤ 33)) : Ev (fun k => culletref01_InvMod.f k a p) ((0 : Int), (11 : Int)) := by
  unfold culletref01_InvMod.f
  exact Ev.bind (rmod_no (m := 32) hp h) (Ev.now _)
/-! ### irreducible polynomials -/
theorem rirr_l0 {p h : Nat} (hp : p < 2 ^ 64) (hh : h ≤ 32) : ∀ m c : Nat, 2 ^ (h + 1) - c = m → 2 ≤ c → c ≤ 2 ^ (h + 1) →
    ((∃ e, c ≤ e ∧ e < 2 ^ (h + 1) ∧ Dv e p) → Ev (fun k => culletref01_irreducible.l0 k p h c) false) ∧ ((∀ e, c ≤ e → e < 2 ^ (h + 1) → ¬ Dv e p) → Ev (fun k => culletref01_irreducible.l0 k p h c) true) := by
  have hpw : 2 ^ (h + 1) ≤ 2 ^ 33 := Nat.pow_le_pow_right (by decide) (by omega)
  intro m
  induction m with
  | zero =>
    intro c hm h2 hc
    have : c = 2 ^ (h + 1) := by omega
    refine ⟨fun ⟨e, h1, h2, _⟩ => by omega, fun _ => ?_⟩
    refine Ev.step (fun k => culletref01_irreducible.l0.eq_2 _ _ _ k) ?_
    refine Ev.bind (rdeg (by omega)) ?_
    have hb : bl c = h + 2 := by rw [this]; exact bl_eq (Nat.le_refl _) (Nat.pow_lt_pow_right (by decide) (by omega))
    simp only [if_neg (show ¬ (bl c : Int) - 1 ≤ (h : Nat) by omega)]
    exact Ev.now _
  | succ m ih =>
    intro c hm h2 hc
    have hlt : c < 2 ^ (h + 1) := by omega
    have hb := bl_le.2 hlt
    obtain ⟨i1, i2⟩ := ih (c + 1) (by omega) (by omega) (by omega)
    have hc0 : c ≠ 0 := by omega
    have hz : pmod p c = 0 ↔ Dv c p := pmod_eq_zero hc0
    have stp : ∀ r, Ev (fun k => if ((pmod p c : Nat) : Int) = 0 then some false else culletref01_irreducible.l0 k p h ((c + 1 : Nat) : Int)) r → Ev (fun k => culletref01_irreducible.l0 k p h c) r := by
      intro r hr
      refine Ev.step (fun k => culletref01_irreducible.l0.eq_2 _ _ _ k) ?_
      refine Ev.bind (rdeg (by omega)) ?_
      simp only [if_pos (show (bl c : Int) - 1 ≤ (h : Nat) by omega)]
      refine Ev.bind (rrest hc0 hp (by omega)) ?_
      rw [show (c : Int) + 1 = ((c + 1 : Nat) : Int) by omega, u64_wrap_nat (by omega)]
      exact hr
    refine ⟨fun ⟨e, e1, e2, e3⟩ => stp _ ?_, fun hall => stp _ ?_⟩
    · by_cases hd : Dv c p
      · simp only [hz.2 hd, if_pos (show ((0 : Nat) : Int) = 0 from rfl)]
        exact Ev.now _
      · simp only [if_neg (show ¬ ((pmod p c : Nat) : Int) = 0 by have := mt hz.1 hd; omega)]
        refine i1 ⟨e, ?_, e2, e3⟩
        rcases Nat.lt_or_ge c e with h | h
        · omega
        · have : e = c := by omega
          rw [this] at e3; exact absurd e3 hd
    · have hd := hall c (Nat.le_refl _) hlt
      simp only [if_neg (show ¬ ((pmod p c : Nat) : Int) = 0 by have := mt hz.1 hd; omega)]
      exact i2 (fun e e1 e2 => hall e (by omega) e2)
theorem irr_iff {p : Nat} (hp : 2 ≤ bl p) : Irr p ↔ ∀ e, 2 ≤ e → e < 2 ^ ((bl p - 1) / 2 + 1) → ¬ Dv e p := by
  have hp0 : p ≠ 0 := bl_pos.1 (by omega)
  constructor
  · intro h e h2 he ⟨q, hq⟩
    rcases h.2 q e hq with e1 | e1
    · rw [e1, one_cl] at hq
      have := bl_le.2 he
      rw [← hq] at this
      omega
    · omega
  · intro h
    refine ⟨(lt_bl (n := 1)).1 (by omega), fun d e hde => ?_⟩
    have hd0 : d ≠ 0 := by intro z; rw [z, zero_cl] at hde; exact hp0 hde
    have he0 : e ≠ 0 := by intro z; rw [z, cl_zero] at hde; exact hp0 hde
    have hb := bl_cl hd0 he0
    rw [← hde] at hb
    by_cases hd1 : d = 1
    · exact .inl hd1
    · by_cases he1 : e = 1
      · exact .inr he1
      · exfalso
        rcases Nat.le_total (bl d) (bl e) with hle | hle
        · exact h d (by omega) (bl_le.1 (by omega)) ⟨e, by rw [hde, cl_comm]⟩
        · exact h e (by omega) (bl_le.1 (by omega)) ⟨d, hde⟩
theorem rirreducible {p : Nat} (hp : 2 ≤ bl p) (hp2 : bl p ≤ 33) : (Irr p → Ev (fun k => culletref01_irreducible.f k p) true) ∧ (¬ Irr p → Ev (fun k => culletref01_irreducible.f k p) false) := by
  have hp64 : p < 2 ^ 64 := bl_le.1 (by omega)
  obtain ⟨i1, i2⟩ := rirr_l0 (p := p) (h := (bl p - 1) / 2) hp64 (by omega) _ 2 rfl (Nat.le_refl _) (by
    have := Nat.pow_le_pow_right (n := 2) (by decide) (show 1 ≤ (bl p - 1) / 2 + 1 by omega)
    omega)
  have stp : ∀ r, Ev (fun k => culletref01_irreducible.l0 k p (((bl p - 1) / 2 : Nat) : Int) ((2 : Nat) : Int)) r → Ev (fun k => culletref01_irreducible.f k p) r := by
    intro r hr
    unfold culletref01_irreducible.f
    refine Ev.bind (rdeg hp64) ?_
    rw [show (bl p : Int) - 1 = ((bl p - 1 : Nat) : Int) by omega, td2, wrap64_id (by omega) (by omega)]
    exact hr
  refine ⟨fun h => stp _ (i2 ((irr_iff hp).1 h)), fun h => stp _ (i1 ?_)⟩
  apply Classical.byContradiction
  intro hc
  exact h ((irr_iff hp).2 (fun e e1 e2 e3 => hc ⟨e, e1, e2, e3⟩))
theorem rabin_iff {p : Nat} (hp : 2 ≤ bl p) : Rabin p ↔ Irr p := ⟨rabin_irr hp, fun h j h1 hj => irr_free hp h h1 hj⟩
/-! ### orders -/
theorem rorder_l0 {a p : Nat} (ha : a < 2 ^ 64) (hp : 2 ≤ bl p) (hp2 : bl p ≤ 33) : ∀ m n : Nat, 65536 - n = m → 1 ≤ n → n ≤ 65536 →
    (∀ N, n ≤ N → N < 65536 → pmod (pp a N) p = 1 → (∀ j, n ≤ j → j < N → pmod (pp a j) p ≠ 1) → Ev (fun k => culletref01_order.l0 k (pmod a p : Nat) p (pmod (pp a n) p : Nat) n) (N : Nat)) ∧
      ((∀ j, n ≤ j → j < 65536 → pmod (pp a j) p ≠ 1) → Ev (fun k => culletref01_order.l0 k (pmod a p : Nat) p (pmod (pp a n) p : Nat) n) (0 : Int)) := by
  have hp0 : p ≠ 0 := bl_pos.1 (by omega)
  have hp64 : p < 2 ^ 64 := bl_le.1 (by omega)
  intro m
  induction m with
  | zero =>
    intro n hm h1 hn
    refine ⟨fun N a1 a2 => by omega, fun _ => ?_⟩
    refine Ev.step (fun k => culletref01_order.l0.eq_2 _ _ _ _ k) ?_
    simp only [if_neg (show ¬ ((n : Nat) : Int) < 65536 by omega)]
    exact Ev.now _
  | succ m ih =>
    intro n hm h1 hn
    obtain ⟨i1, i2⟩ := ih (n + 1) (by omega) (by omega) (by omega)
    have stp : ∀ r, pmod (pp a n) p ≠ 1 → Ev (fun k => culletref01_order.l0 k (pmod a p : Nat) p (pmod (pp a (n + 1)) p : Nat) ((n + 1 : Nat) : Int)) r → Ev (fun k => culletref01_order.l0 k (pmod a p : Nat) p (pmod (pp a n) p : Nat) n) r := by
      intro r hne hr
      refine Ev.step (fun k => culletref01_order.l0.eq_2 _ _ _ _ k) ?_
      simp only [if_pos (show ((n : Nat) : Int) < 65536 by omega), if_neg (show ¬ ((pmod (pp a n) p : Nat) : Int) = 1 by omega)]
      refine Ev.bind (rtimes (pmod_lt64 hp0 hp64) (pmod_lt64 hp0 hp64) hp hp2) ?_
      rw [pmod_cl_left hp0, pmod_cl_right hp0, wrap64_id (by omega) (by omega), show (n : Int) + 1 = ((n + 1 : Nat) : Int) by omega, cl_comm a]
      exact hr
    refine ⟨fun N a1 a2 a3 a4 => ?_, fun hall => stp _ (hall n (Nat.le_refl _) (by omega)) (i2 (fun j j1 j2 => hall j (by omega) j2))⟩
    by_cases e : n = N
    · subst e
      refine Ev.step (fun k => culletref01_order.l0.eq_2 _ _ _ _ k) ?_
      simp only [if_pos (show ((n : Nat) : Int) < 65536 by omega), if_pos (show ((pmod (pp a n) p : Nat) : Int) = 1 by omega)]
      exact Ev.now _
    · exact stp _ (a4 n (Nat.le_refl _) (by omega)) (i1 N (by omega) a2 a3 (fun j j1 j2 => a4 j (by omega) j2))
theorem rorder {a p N : Nat} (ha : a < 2 ^ 64) (hp : 2 ≤ bl p) (hp2 : bl p ≤ 33) (hN : IsOrd a p N) (hlt : N < 65536) : Ev (fun k => culletref01_order.f k a p) (N : Nat) := by
  have hp0 : p ≠ 0 := bl_pos.1 (by omega)
  have hp64 : p < 2 ^ 64 := bl_le.1 (by omega)
  obtain ⟨h1, h2, h3⟩ := hN
  unfold culletref01_order.f
  refine Ev.bind (rrest hp0 ha hp64) ?_
  have := (rorder_l0 ha hp hp2 _ 1 rfl (Nat.le_refl _) (by omega)).1 N h1 hlt h2 h3
  rw [pp_one] at this
  exact this
theorem rorder_zero {a p : Nat} (ha : a < 2 ^ 64) (hp : 2 ≤ bl p) (hp2 : bl p ≤ 33) (h : ∀ j, 1 ≤ j → j < 65536 → pmod (pp a j) p ≠ 1) : Ev (fun k => culletref01_order.f k a p) (0 : Int) := by
  have hp0 : p ≠ 0 := bl_pos.1 (by omega)
  have hp64 : p < 2 ^ 64 := bl_le.1 (by omega)
  unfold culletref01_order.f
  refine Ev.bind (rrest hp0 ha hp64) ?_
  have := (rorder_l0 ha hp hp2 _ 1 rfl (Nat.le_refl _) (by omega)).2 h
  rw [pp_one] at this
  exact this
end Go.Proofs.YthldahaimcdejaaDoor.R
