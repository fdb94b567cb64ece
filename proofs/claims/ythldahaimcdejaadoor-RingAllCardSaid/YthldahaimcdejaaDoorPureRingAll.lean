/-
RingAll: every call of the script, of any kind, answers as the document's. No condition.
-/
import Derived.Test.YthldahaimcdejaaDoorRingBez
import Derived.Test.YthldahaimcdejaaDoorRefRing3
import Derived.Test.YthldahaimcdejaaDoorRefRing4
import Derived.Test.YthldahaimcdejaaDoorLx5

namespace Go.Proofs.YthldahaimcdejaaDoor.Pure
open Go.RowKit Go.Proofs.YthldahaimcdejaaDoor.L Go.Proofs.YthldahaimcdejaaDoor.A Go.Proofs.YthldahaimcdejaaDoorW.PrintWords Go.Proofs.YthldahaimcdejaaDoorW.PrintLast Go.Proofs.YthldahaimcdejaaDoorW.PrintMore Go.Proofs.YthldahaimcdejaaDoor.R GP
set_option linter.unusedVariables false
set_option linter.unusedSimpArgs false
theorem all_l0 {l : List S26} {lo hi : Int} (hl : l.length * 48 ≤ 140737488351232) (h : ∀ x ∈ l, lo ≤ x.f0 → x.f0 ≤ hi → Ev (fun k => culletlaw01_plays.f k x.f0 x.f1 x.f2 x.f3 x.f4) true) :
    ∀ m j : Nat, l.length - j = m → j ≤ l.length → Ev (fun k => culletlaw01_all.l0 k lo hi l (l.length : Int) j) true := by
  intro m
  induction m with
  | zero =>
    intro j hm hj
    refine Ev.step (fun k => culletlaw01_all.l0.eq_2 _ _ _ _ _ k) ?_
    simp only [if_neg (show ¬ ((j : Nat) : Int) < (l.length : Nat) by omega)]
    exact Ev.now _
  | succ m ih =>
    intro j hm hj
    have hjl : j < l.length := by omega
    have ihj := ih (j + 1) (by omega) (by omega)
    refine Ev.step (fun k => culletlaw01_all.l0.eq_2 _ _ _ _ _ k) ?_
    have hx : rd_T26 l (j : Nat) = l[j] := by unfold rd_T26; rw [Int.toNat_natCast, List.getD_eq_getElem?_getD, List.getElem?_eq_getElem hjl]; rfl
    simp only [if_pos (show ((j : Nat) : Int) < (l.length : Nat) by omega), if_pos (show (0 : Int) ≤ ((j : Nat) : Int) by omega), hx]
    rw [wrap64_id (by omega) (by omega), show (j : Int) + 1 = ((j + 1 : Nat) : Int) by omega]
    by_cases h1 : l[j].f0 ≥ lo
    · simp only [if_pos h1]
      by_cases h2 : l[j].f0 ≤ hi
      · simp only [if_pos h2]
        refine Ev.bind (h _ (List.getElem_mem hjl) h1 h2) ?_
        simp only [if_true]
        exact ihj
      · simp only [if_neg h2]
        exact ihj
    · simp only [if_neg h1]
      exact ihj
theorem all_ok {l : List S26} {lo hi : Int} (hl : l.length * 48 ≤ 140737488351232) (h : ∀ x ∈ l, lo ≤ x.f0 → x.f0 ≤ hi → Ev (fun k => culletlaw01_plays.f k x.f0 x.f1 x.f2 x.f3 x.f4) true) :
    Ev (fun k => culletlaw01_all.f k l lo hi) true := all_l0 hl h _ 0 rfl (Nat.zero_le _)
theorem products_ok (kd : Int) {a b : Nat} (c : Int) (s : ByteArray) (ha : a < 2 ^ 64) (hb : b < 2 ^ 64) : Ev (fun k => culletlaw01_products.f k kd a b c s) true := by
  unfold culletlaw01_products.f
  by_cases h1 : kd = 1
  · simp only [if_pos h1, deg ha, Option.bind_some]
    refine Ev.bind (rdeg ha) ?_
    simp only [beq_self_eq_true]
    exact Ev.now _
  · simp only [if_neg h1]
    by_cases h2 : kd = 2
    · simp only [if_pos h2]
      rw [show ((a : Nat) : Int) % 4294967296 = ((a % 4294967296 : Nat) : Int) by omega, show ((b : Nat) : Int) % 4294967296 = ((b % 4294967296 : Nat) : Int) by omega]
      refine Ev.bind (Mul (by omega) (by omega)) ?_
      simp only [RefMul (show a % 4294967296 < 2 ^ 32 by omega) (show b % 4294967296 < 2 ^ 32 by omega), Option.bind_some, beq_self_eq_true]
      exact Ev.now _
    · simp only [if_neg h2]
      by_cases h0 : b = 0
      · subst h0
        simp only [show (((0 : Nat) : Int)) = 0 from rfl, DivMod_zero, RefDivMod_zero ha, Option.bind_some, if_true, beq_self_eq_true]
        exact Ev.now _
      · refine Ev.bind (DivMod h0 ha hb) ?_
        simp only [RefDivMod ha hb h0, Option.bind_some, if_true, beq_self_eq_true]
        exact Ev.now _
/-- The factor is the only one of its degree. -/
theorem bez_same {a b g q u w : Nat} (hb0 : b ≠ 0) (hg : g = pgcd a b) (hq : b = cl q g) (hu : bl u < bl q) (hw : bl w < bl q) (e : pmod (cl u a) b = pmod (cl w a) b) : u = w := by
  have hq0 : q ≠ 0 := by intro z; rw [z, zero_cl] at hq; exact hb0 hq
  have hg0 : g ≠ 0 := by intro z; rw [z, cl_zero] at hq; exact hb0 hq
  obtain ⟨c, hc⟩ : Dv g a := by rw [hg]; exact pgcd_dv_left a b
  have h1 := (pmod_eq_iff hb0).1 e
  rw [← cl_xor_left, hq, hc, cl_comm q g, cl_comm c g, cl_left_comm] at h1
  have h2 := Dv.cancel hg0 h1
  have hco : pgcd c q = 1 := by
    have h3 : pgcd (cl g c) (cl g q) = cl g (pgcd c q) := pgcd_cl g c q
    rw [cl_comm g c, ← hc, cl_comm g q, ← hq, ← hg] at h3
    exact (cl_cancel hg0 (show cl g 1 = cl g (pgcd c q) by rw [cl_one]; exact h3)).symm
  obtain ⟨s, t, hst⟩ := pgcd_bezout c q
  rw [hco] at hst
  have h4 : Dv q (u ^^^ w) := by
    have h5 : u ^^^ w = cl s (cl (u ^^^ w) c) ^^^ cl (cl (u ^^^ w) t) q := by
      rw [cl_left_comm s, ← cl_assoc (u ^^^ w) s c] at *
      rw [cl_assoc (u ^^^ w) s c, cl_assoc (u ^^^ w) t q, ← cl_xor_right, ← hst, cl_one]
    rw [h5]
    exact Dv.xor (h2.mul_left s) ⟨_, rfl⟩
  have h6 : u ^^^ w = 0 := by
    apply Classical.byContradiction
    intro hne
    have := h4.bl_le hne
    have h7 : bl (u ^^^ w) ≤ bl q - 1 := bl_xor_le (by omega) (by omega)
    have := bl_pos.2 hq0
    omega
  exact xor_eq_zero.1 h6
theorem ev_some {α : Type} {g : Nat → Option α} {r : α} (h : ∀ k, g k = some r) : Ev g r := ⟨0, fun k _ => h k⟩
theorem bez_last {a b g u v : Nat} {t : Bool} (hg32 : g < 2 ^ 32) (hu32 : u < 2 ^ 32) (hv32 : v < 2 ^ 32) (ha : a < 2 ^ 32) (hg64 : g < 2 ^ 64) (hc64 : cl u a < 2 ^ 64) (hb64 : b < 2 ^ 64) (hb0 : b ≠ 0) (hvv : v = pquo (cl u a ^^^ g) b) :
    ((culletref01_Mul.f ((((u : Nat) : Int), t).1 % 4294967296) a).bind fun t108 => ((culletref01_DivMod.f (Go.bits .xor .u64 t108 g) b).bind fun bt109 => (some (((g : Nat) : Int) % 4294967296, (((u : Nat) : Int), t).1 % 4294967296, (bt109.1) % 4294967296)))) = some ((g : Int), (u : Int), (v : Int)) := by
  have e1 : culletref01_Mul.f ((((u : Nat) : Int), t).1 % 4294967296) a = some ((cl u a : Nat) : Int) := by
    show culletref01_Mul.f (((u : Nat) : Int) % 4294967296) a = _
    rw [mod32 hu32]; exact RefMul hu32 ha
  rw [e1, Option.bind_some, bits_xor64 hc64 hg64, RefDivMod (Nat.xor_lt_two_pow hc64 hg64) hb64 hb0, Option.bind_some, ← hvv]
  show some (((g : Nat) : Int) % 4294967296, ((u : Nat) : Int) % 4294967296, ((v : Nat) : Int) % 4294967296) = _
  rw [mod32 hg32, mod32 hu32, mod32 hv32]
theorem rBezout {a b : Nat} (ha : a < 2 ^ 32) (hb : b < 2 ^ 32) (hb0 : b ≠ 0) {g u v : Nat} (h : BezR a b g u v) : Ev (fun k => culletref01_Bezout.f k a b) ((g : Int), (u : Int), (v : Int)) := by
  obtain ⟨hg, huv, hu32, hv32, hg32, hdeg⟩ := h
  have hbn : ¬ ((b : Nat) : Int) = 0 := by omega
  have ha64 : a < 2 ^ 64 := by omega
  have hb64 : b < 2 ^ 64 := by omega
  obtain ⟨q, hq⟩ : Dv g b := by rw [hg]; exact pgcd_dv_right a b
  have hq0 : q ≠ 0 := by intro z; rw [z, zero_cl] at hq; exact hb0 hq
  have hg0 : g ≠ 0 := by intro z; rw [z, cl_zero] at hq; exact hb0 hq
  obtain ⟨hqq, -⟩ := div_unique (a := b) (q := q) (r := 0) hg0 (by rw [Nat.xor_zero]; exact hq) (by rw [bl_zero]; exact bl_pos.2 hg0)
  have hbl := bl_cl hq0 hg0
  rw [← hq] at hbl
  have hb33 := bl_le.2 hb
  unfold culletref01_Bezout.f
  simp only [if_neg hbn]
  rw [u64_wrap_nat ha64, u64_wrap_nat hb64]
  refine Ev.bind (rgcd ha64 hb64) ?_
  rw [← hg]
  simp only [RefDivMod hb64 (show g < 2 ^ 64 by omega) hg0, Option.bind_some, ← hqq]
  have hcv : cl u a ^^^ g = cl v b := by rw [← huv, ← Nat.xor_assoc, Nat.xor_self, Nat.zero_xor]
  by_cases hq1 : q = 1
  · subst hq1
    simp only [if_pos (show ((1 : Nat) : Int) = 1 from rfl)]
    rw [one_cl] at hq
    have hu0 : u = 0 := by rw [hq] at hdeg; exact bl_eq_zero.1 (by omega)
    subst hu0
    rw [zero_cl, Nat.zero_xor] at hcv
    have hv1 : v = 1 := cl_cancel hb0 (show cl b v = cl b 1 by rw [cl_one, cl_comm, ← hcv, hq])
    subst hv1
    rw [mod32 hg32]
    exact Ev.now _
  · simp only [if_neg (show ¬ ((q : Nat) : Int) = 1 by omega)]
    have hq64 : q < 2 ^ 64 := bl_le.1 (by have := bl_pos.2 hg0; omega)
    refine Ev.bind (rdeg hq64) ?_
    have hqp := bl_pos.2 hq0
    rw [show (bl q : Int) - 1 = ((bl q - 1 : Nat) : Int) by omega]
    have hgp := bl_pos.2 hg0
    obtain ⟨v0, u0, ⟨h1, h2, h3⟩, h4⟩ := rcombine (a := a) (want := g) (p := b) (n := bl q - 1) ha64 (by omega) hb0 (by omega) (by omega)
    have hmu : pmod (cl u a) b = pmod g b := (pmod_eq_iff hb0).2 ⟨v, hcv⟩
    have hv0 : v0 = 0 := by
      apply Classical.byContradiction
      intro hne
      exact h3 hne u (bl_le.1 (by omega)) hmu
    have hu0 : u0 = u := bez_same hb0 hg hq (by have := bl_le.2 h1; omega) (by omega) ((h2 hv0).trans hmu.symm)
    subst hu0
    obtain ⟨hvv, -⟩ := div_unique (a := cl u0 a ^^^ g) (q := v) (r := 0) hb0 (by rw [Nat.xor_zero]; exact hcv) (by rw [bl_zero]; exact bl_pos.2 hb0)
    have hc64 : cl u0 a < 2 ^ 64 := cl_lt hu32 ha
    have hg64 : g < 2 ^ 64 := by omega
    refine Ev.bind h4 (ev_some ?_)
    intro k
    exact bez_last hg32 hu32 hv32 ha hg64 hc64 hb64 hb0 hvv
theorem common_ok (kd : Int) {a b : Nat} (c : Int) (s : ByteArray) (ha : a < 2 ^ 64) (hb : b < 2 ^ 64) : Ev (fun k => culletlaw01_common.f k kd a b c s) true := by
  unfold culletlaw01_common.f
  by_cases h1 : kd = 4
  · simp only [if_pos h1]
    refine Ev.bind (gcd ha hb) ?_
    refine Ev.bind (rgcd ha hb) ?_
    simp only [beq_self_eq_true]
    exact Ev.now _
  · simp only [if_neg h1]
    rw [show ((a : Nat) : Int) % 4294967296 = ((a % 4294967296 : Nat) : Int) by omega, show ((b : Nat) : Int) % 4294967296 = ((b % 4294967296 : Nat) : Int) by omega]
    have ha' : a % 4294967296 < 2 ^ 32 := by omega
    have hb' : b % 4294967296 < 2 ^ 32 := by omega
    generalize a % 4294967296 = a at ha' ⊢
    generalize b % 4294967296 = b at hb' ⊢
    by_cases h0 : b = 0
    · subst h0
      unfold ring_Bezout.f culletref01_Bezout.f
      simp only [if_pos (show ((0 : Nat) : Int) = 0 from rfl)]
      by_cases hz : ((a : Nat) : Int) = 0
      · simp only [if_pos hz, Option.bind_some, if_true, beq_self_eq_true]
        exact Ev.now _
      · simp only [if_neg hz, Option.bind_some, if_true, beq_self_eq_true]
        exact Ev.now _
    · obtain ⟨g, u, v, hB, hE⟩ := Bezout ha' h0 hb'
      refine Ev.bind hE ?_
      refine Ev.bind (rBezout ha' hb' h0 hB) ?_
      simp only [if_true, beq_self_eq_true]
      exact Ev.now _
theorem inv_same {a p q u : Nat} (hp0 : p ≠ 0) (hq : bl q < bl p) (hu : bl u < bl p) (h1 : pmod (cl q a) p = 1) (h2 : pmod (cl u a) p = 1) : q = u := by
  have e1 : pmod (cl q (cl u a)) p = q := by
    rw [← pmod_cl_right hp0, h2, cl_one, pmod_small hq]
  have e2 : pmod (cl u (cl q a)) p = u := by
    rw [← pmod_cl_right hp0, h1, cl_one, pmod_small hu]
  rw [cl_left_comm] at e1
  rw [← e1, e2]
theorem residues_ok (kd : Int) {a b c : Nat} (s : ByteArray) (ha : a < 2 ^ 64) (hb : b < 2 ^ 64) (hc : c < 2 ^ 64) : Ev (fun k => culletlaw01_residues.f k kd a b c s) true := by
  unfold culletlaw01_residues.f
  by_cases hm : 2 ≤ bl c ∧ bl c ≤ 33
  · obtain ⟨hp, hp2⟩ := hm
    have hp0 : c ≠ 0 := bl_pos.1 (by omega)
    by_cases h1 : kd = 6
    · simp only [if_pos h1]
      refine Ev.bind (MulMod ha hb hp hp2) ?_
      refine Ev.bind (rMulMod ha hb hp hp2) ?_
      simp only [if_true, beq_self_eq_true]
      exact Ev.now _
    · simp only [if_neg h1]
      by_cases h2 : kd = 7
      · simp only [if_pos h2]
        refine Ev.bind (PowMod ha hb hp hp2) ?_
        refine Ev.bind (rPowMod ha hb hp hp2) ?_
        simp only [if_true, beq_self_eq_true]
        exact Ev.now _
      · simp only [if_neg h2]
        rcases InvMod ha hp hp2 with ⟨hg, q, hq, hq1, hE⟩ | ⟨hg, hE⟩
        · rcases rInvMod ha hp hp2 with ⟨u, hu, hu1, hF⟩ | ⟨hn, hF⟩
          · obtain rfl := inv_same hp0 hq hu hq1 hu1
            refine Ev.bind hE ?_
            refine Ev.bind hF ?_
            simp only [if_true, beq_self_eq_true]
            exact Ev.now _
          · exact absurd hq1 (hn q hq)
        · rcases rInvMod ha hp hp2 with ⟨u, hu, hu1, hF⟩ | ⟨hn, hF⟩
          · exfalso
            apply hg
            have h3 : Dv (pgcd a c) 1 := by
              have h4 := pgcd_dv_left a c
              have h5 := pgcd_dv_right a c
              have h6 := dv_xor_pmod hp0 (cl u a)
              rw [hu1] at h6
              have h7 := h5.trans h6
              have h8 := h4.mul_left u
              have := Dv.xor h8 h7
              rwa [← Nat.xor_assoc, Nat.xor_self, Nat.zero_xor] at this
            exact h3.antisymm (Dv.one _)
          · refine Ev.bind hE ?_
            refine Ev.bind hF ?_
            simp only [if_true, beq_self_eq_true]
            exact Ev.now _
  · have hm' : ¬ (2 ≤ bl c ∧ bl c ≤ 32 + 1) := hm
    have hno := not_mod hc (m := 32) hm'
    simp only [show ((32 : Nat) : Int) = 32 from rfl] at hno
    by_cases h1 : kd = 6
    · simp only [if_pos h1]
      unfold ring_MulMod.f
      simp only [hno, Option.bind_some, Bool.false_eq_true, if_false]
      refine Ev.bind (rMulMod_no _ _ hc hm) ?_
      simp only [if_true, beq_self_eq_true]
      exact Ev.now _
    · simp only [if_neg h1]
      by_cases h2 : kd = 7
      · simp only [if_pos h2]
        unfold ring_PowMod.f
        simp only [hno, Option.bind_some, Bool.false_eq_true, if_false]
        refine Ev.bind (rPowMod_no _ _ hc hm) ?_
        simp only [if_true, beq_self_eq_true]
        exact Ev.now _
      · simp only [if_neg h2]
        unfold ring_InvMod.f
        simp only [hno, Option.bind_some, Bool.false_eq_true, if_false]
        refine Ev.bind (rInvMod_no _ hc hm) ?_
        simp only [if_true, beq_self_eq_true]
        exact Ev.now _
theorem no_pow {a p : Nat} (hp : 2 ≤ bl p) (hg : pgcd a p ≠ 1) {j : Nat} (hj : 1 ≤ j) : pmod (pp a j) p ≠ 1 := by
  have hp0 : p ≠ 0 := bl_pos.1 (by omega)
  intro e
  apply hg
  have h1 : Dv (pgcd a p) (pp a j) := by
    obtain ⟨i, rfl⟩ : ∃ i, j = i + 1 := ⟨j - 1, by omega⟩
    rw [pp_succ]
    exact (pgcd_dv_left a p).mul_left _
  have h2 : Dv (pgcd a p) (pp a j ^^^ pmod (pp a j) p) := (pgcd_dv_right a p).trans (dv_xor_pmod hp0 _)
  have h3 := Dv.xor h1 h2
  rw [← Nat.xor_assoc, Nat.xor_self, Nat.zero_xor, e] at h3
  exact h3.antisymm (Dv.one _)
theorem ord_lt {d N : Nat} (h16 : d ≤ 16) (h : N < 2 ^ d) : N < 65536 := Nat.lt_of_lt_of_le h (Nat.pow_le_pow_right (n := 2) (by decide) h16)
theorem kinds_ok (kd : Int) {a c : Nat} (b : Int) (s : ByteArray) (ha : a < 2 ^ 64) (hc : c < 2 ^ 64) : Ev (fun k => culletlaw01_kinds.f k kd a b c s) true := by
  unfold culletlaw01_kinds.f
  by_cases h1 : kd = 9
  · simp only [if_pos h1]
    by_cases hm : 2 ≤ bl c ∧ bl c ≤ 33
    · by_cases hi : Irr c
      · refine Ev.bind (Irreducible_true hm.1 hm.2 ((rabin_iff hm.1).2 hi)) ?_
        refine Ev.bind ((rIrreducible hm.1 hm.2).1 hi) ?_
        simp only [if_true, beq_self_eq_true]
        exact Ev.now _
      · refine Ev.bind (Irreducible_false hm.1 hm.2 (mt (rabin_iff hm.1).1 hi)) ?_
        refine Ev.bind ((rIrreducible hm.1 hm.2).2 hi) ?_
        simp only [if_true, beq_self_eq_true]
        exact Ev.now _
    · refine Ev.bind (Irreducible_none hc hm) ?_
      refine Ev.bind (rIrreducible_no hc hm) ?_
      simp only [if_true, beq_self_eq_true]
      exact Ev.now _
  · simp only [if_neg h1]
    by_cases hm : 2 ≤ bl c ∧ bl c ≤ 17
    · obtain ⟨d, hd⟩ : ∃ d, bl c = d + 1 := ⟨bl c - 1, by omega⟩
      by_cases h2 : kd = 10
      · simp only [if_pos h2]
        by_cases hg : pgcd a c = 1
        · obtain ⟨M, hM, hM2⟩ := isOrd_exists hd (by omega) hg
          have hM3 := ord_lt (by omega) hM2
          refine Ev.bind (Order ha hm.1 hm.2 hg hM (by omega)) ?_
          refine Ev.bind (rOrder ha hm.1 hm.2 hg hM hM3) ?_
          simp only [if_true, beq_self_eq_true]
          exact Ev.now _
        · refine Ev.bind (Order_no ha hm.1 hm.2 hg) ?_
          refine Ev.bind (rOrder_non ha hm.1 hm.2 hg) ?_
          simp only [if_true, beq_self_eq_true]
          exact Ev.now _
      · simp only [if_neg h2]
        by_cases hi : Irr c
        · have hr := (rabin_iff hm.1).2 hi
          by_cases hg : pgcd 2 c = 1
          · obtain ⟨M, hM, hM2⟩ := isOrd_exists hd (by omega) hg
            have hM3 := ord_lt (by omega) hM2
            refine Ev.bind (Primitive_irr hd (by omega) (by omega) hr M 0 (Order (by decide) hm.1 hm.2 hg hM (by omega))) ?_
            refine Ev.bind (rPrimitive_irr hd (by omega) (by omega) hi M (rorder (by decide) hm.1 (by omega) hM hM3)) ?_
            simp only [true_and, if_true, beq_self_eq_true]
            exact Ev.now _
          · refine Ev.bind (Primitive_irr hd (by omega) (by omega) hr 0 12 (Order_no (by decide) hm.1 hm.2 hg)) ?_
            refine Ev.bind (rPrimitive_irr hd (by omega) (by omega) hi 0 (rorder_zero (by decide) hm.1 (by omega) (fun j hj _ => no_pow hm.1 hg hj))) ?_
            have hp2 : 2 ≤ 2 ^ d := Nat.pow_le_pow_right (n := 2) (by decide) (show 1 ≤ d by omega)
            simp only [decide_eq_false (show ¬ ((12 : Int) = 0 ∧ (0 : Int) = ((2 ^ d - 1 : Nat) : Int)) by omega), decide_eq_false (show ¬ ((0 : Int) = ((2 ^ d - 1 : Nat) : Int)) by omega), if_true, beq_self_eq_true]
            exact Ev.now _
        · refine Ev.bind (Primitive_red hm.1 hm.2 (mt (rabin_iff hm.1).1 hi)) ?_
          refine Ev.bind (rPrimitive_red hm.1 hm.2 hi) ?_
          simp only [if_true, beq_self_eq_true]
          exact Ev.now _
    · by_cases h2 : kd = 10
      · simp only [if_pos h2]
        refine Ev.bind (Order_none hc hm) ?_
        refine Ev.bind (rOrder_no _ hc hm) ?_
        simp only [if_true, beq_self_eq_true]
        exact Ev.now _
      · simp only [if_neg h2]
        refine Ev.bind (Primitive_none hc hm) ?_
        refine Ev.bind (rPrimitive_no hc hm) ?_
        simp only [if_true, beq_self_eq_true]
        exact Ev.now _
theorem text_f {a : Nat} (ha : a < 2 ^ 64) : ring_Text.f a = some (bs (RT.text a)) ∧ culletref01_Text.f a = some (bs (RT.text a)) := by
  unfold ring_Text.f culletref01_Text.f
  rw [if_pos (by omega), Int.toNat_natCast]
  exact ⟨rfl, rfl⟩
theorem texts_ok (kd : Int) {a : Nat} (b c : Int) (s : ByteArray) (ha : a < 2 ^ 64) (hs : s.size ≤ 140737488351232) : culletlaw01_texts.f kd a b c s = some true := by
  unfold culletlaw01_texts.f
  by_cases h1 : kd = 12
  · rw [if_pos h1, (text_f ha).1, (text_f ha).2, Option.bind_some, Option.bind_some, beq_self_eq_true]
  · rw [if_neg h1]
    unfold ring_Parse.f culletref01_Parse.f
    rw [if_pos hs, Option.bind_some, Option.bind_some, if_pos rfl, beq_self_eq_true]
theorem RingAll : culletlaw01_RingAll.Pure := by
  intro l h
  obtain ⟨hl, hok⟩ := h
  apply Ev.rounds
  unfold culletlaw01_RingAll.f
  refine Ev.bind R.awake ?_
  simp only [if_true]
  refine Ev.bind (all_ok hl (fun x hx h1 h2 => ?_)) (Ev.now _)
  obtain ⟨w0, w1, w2, w3, w4⟩ := hok x hx
  by_cases g0 : x.f0 ≤ 3
  · obtain ⟨a, ea, ha⟩ := of_u64 w1
    obtain ⟨b, eb, hb⟩ := of_u64 w2
    rw [ea, eb]
    have key := products_ok x.f0 x.f3 x.f4 ha hb
    have stp : Ev (fun k => culletlaw01_plays.j0 k x.f0 true x.f0 a b x.f3 x.f4) true :=
      Ev.step (fun k => culletlaw01_plays.j0.eq_2 _ _ _ _ _ _ _ k) (by simp only [if_true]; exact Ev.bind key (Ev.now _))
    unfold culletlaw01_plays.f
    have hk : x.f0 = 1 ∨ x.f0 = 2 ∨ x.f0 = 3 := by omega
    rcases hk with e | e | e
    all_goals
      rw [e] at stp
      simp only [e, if_true, if_neg (show ¬ ((2 : Int) = 1) by omega), if_neg (show ¬ ((3 : Int) = 1) by omega), if_neg (show ¬ ((3 : Int) = 2) by omega), beq_self_eq_true]
      exact stp
  by_cases g1 : x.f0 ≤ 5
  · obtain ⟨a, ea, ha⟩ := of_u64 w1
    obtain ⟨b, eb, hb⟩ := of_u64 w2
    rw [ea, eb]
    have key := common_ok x.f0 x.f3 x.f4 ha hb
    have st1 : Ev (fun k => culletlaw01_plays.j1 k x.f0 true x.f0 a b x.f3 x.f4) true :=
      Ev.step (fun k => culletlaw01_plays.j1.eq_2 _ _ _ _ _ _ _ k) (by simp only [if_true]; exact Ev.bind key (Ev.now _))
    have hk : x.f0 = 4 ∨ x.f0 = 5 := by omega
    have st0 : Ev (fun k => culletlaw01_plays.j0 k x.f0 false x.f0 a b x.f3 x.f4) true := by
      refine Ev.step (fun k => culletlaw01_plays.j0.eq_2 _ _ _ _ _ _ _ k) ?_
      rcases hk with e | e
      all_goals
        rw [e] at st1
        simp only [e, Bool.false_eq_true, if_false, if_true, if_neg (show ¬ ((5 : Int) = 4) by omega), beq_self_eq_true]
        exact st1
    unfold culletlaw01_plays.f
    have e3 : (x.f0 == 3) = false := beq_eq_false_iff_ne.2 (by omega)
    simp only [if_neg (show ¬ x.f0 = 1 by omega), if_neg (show ¬ x.f0 = 2 by omega), e3]
    exact st0
  by_cases g2 : x.f0 ≤ 8
  · obtain ⟨a, ea, ha⟩ := of_u64 w1
    obtain ⟨b, eb, hb⟩ := of_u64 w2
    obtain ⟨c, ec, hc⟩ := of_u64 w3
    rw [ea, eb, ec]
    have key := residues_ok x.f0 x.f4 ha hb hc
    have st2 : Ev (fun k => culletlaw01_plays.j2 k x.f0 true x.f0 a b c x.f4) true :=
      Ev.step (fun k => culletlaw01_plays.j2.eq_2 _ _ _ _ _ _ _ k) (by simp only [if_true]; exact Ev.bind key (Ev.now _))
    have hk : x.f0 = 6 ∨ x.f0 = 7 ∨ x.f0 = 8 := by omega
    have st1 : Ev (fun k => culletlaw01_plays.j1 k x.f0 false x.f0 a b c x.f4) true := by
      refine Ev.step (fun k => culletlaw01_plays.j1.eq_2 _ _ _ _ _ _ _ k) ?_
      rcases hk with e | e | e
      all_goals
        rw [e] at st2
        simp only [e, Bool.false_eq_true, if_false, if_true, if_neg (show ¬ ((7 : Int) = 6) by omega), if_neg (show ¬ ((8 : Int) = 6) by omega), if_neg (show ¬ ((8 : Int) = 7) by omega), beq_self_eq_true]
        exact st2
    have st0 : Ev (fun k => culletlaw01_plays.j0 k x.f0 false x.f0 a b c x.f4) true := by
      refine Ev.step (fun k => culletlaw01_plays.j0.eq_2 _ _ _ _ _ _ _ k) ?_
      have e5 : (x.f0 == 5) = false := beq_eq_false_iff_ne.2 (by omega)
      simp only [Bool.false_eq_true, if_false, if_neg (show ¬ x.f0 = 4 by omega), e5]
      exact st1
    unfold culletlaw01_plays.f
    have e3 : (x.f0 == 3) = false := beq_eq_false_iff_ne.2 (by omega)
    simp only [if_neg (show ¬ x.f0 = 1 by omega), if_neg (show ¬ x.f0 = 2 by omega), e3]
    exact st0
  by_cases g3 : x.f0 ≤ 11
  · obtain ⟨a, ea, ha⟩ := of_u64 w1
    obtain ⟨c, ec, hc⟩ := of_u64 w3
    rw [ea, ec]
    have key := kinds_ok x.f0 x.f2 x.f4 ha hc
    have st3 : Ev (fun k => culletlaw01_plays.j3 k x.f0 true x.f0 a x.f2 c x.f4) true :=
      Ev.step (fun k => culletlaw01_plays.j3.eq_2 _ _ _ _ _ _ _ k) (by simp only [if_true]; exact Ev.bind key (Ev.now _))
    have hk : x.f0 = 9 ∨ x.f0 = 10 ∨ x.f0 = 11 := by omega
    have st2 : Ev (fun k => culletlaw01_plays.j2 k x.f0 false x.f0 a x.f2 c x.f4) true := by
      refine Ev.step (fun k => culletlaw01_plays.j2.eq_2 _ _ _ _ _ _ _ k) ?_
      rcases hk with e | e | e
      all_goals
        rw [e] at st3
        simp only [e, Bool.false_eq_true, if_false, if_true, if_neg (show ¬ ((10 : Int) = 9) by omega), if_neg (show ¬ ((11 : Int) = 9) by omega), if_neg (show ¬ ((11 : Int) = 10) by omega), beq_self_eq_true]
        exact st3
    have st1 : Ev (fun k => culletlaw01_plays.j1 k x.f0 false x.f0 a x.f2 c x.f4) true := by
      refine Ev.step (fun k => culletlaw01_plays.j1.eq_2 _ _ _ _ _ _ _ k) ?_
      have e8 : (x.f0 == 8) = false := beq_eq_false_iff_ne.2 (by omega)
      simp only [Bool.false_eq_true, if_false, if_neg (show ¬ x.f0 = 6 by omega), if_neg (show ¬ x.f0 = 7 by omega), e8]
      exact st2
    have st0 : Ev (fun k => culletlaw01_plays.j0 k x.f0 false x.f0 a x.f2 c x.f4) true := by
      refine Ev.step (fun k => culletlaw01_plays.j0.eq_2 _ _ _ _ _ _ _ k) ?_
      have e5 : (x.f0 == 5) = false := beq_eq_false_iff_ne.2 (by omega)
      simp only [Bool.false_eq_true, if_false, if_neg (show ¬ x.f0 = 4 by omega), e5]
      exact st1
    unfold culletlaw01_plays.f
    have e3 : (x.f0 == 3) = false := beq_eq_false_iff_ne.2 (by omega)
    simp only [if_neg (show ¬ x.f0 = 1 by omega), if_neg (show ¬ x.f0 = 2 by omega), e3]
    exact st0
  · obtain ⟨a, ea, ha⟩ := of_u64 w1
    rw [ea]
    have key := texts_ok x.f0 x.f2 x.f3 x.f4 ha w4
    have hk : x.f0 = 12 ∨ x.f0 = 13 := by omega
    have st3 : Ev (fun k => culletlaw01_plays.j3 k x.f0 false x.f0 a x.f2 x.f3 x.f4) true := by
      refine Ev.step (fun k => culletlaw01_plays.j3.eq_2 _ _ _ _ _ _ _ k) ?_
      rcases hk with e | e
      · rw [e] at key
        simp only [e, Bool.false_eq_true, if_false, if_true, key, Option.bind_some]
        exact Ev.now _
      · rw [e] at key
        simp only [e, Bool.false_eq_true, if_false, if_true, if_neg (show ¬ ((13 : Int) = 12) by omega), key, Option.bind_some]
        exact Ev.now _
    have st2 : Ev (fun k => culletlaw01_plays.j2 k x.f0 false x.f0 a x.f2 x.f3 x.f4) true := by
      refine Ev.step (fun k => culletlaw01_plays.j2.eq_2 _ _ _ _ _ _ _ k) ?_
      have e11 : (x.f0 == 11) = false := beq_eq_false_iff_ne.2 (by omega)
      simp only [Bool.false_eq_true, if_false, if_neg (show ¬ x.f0 = 9 by omega), if_neg (show ¬ x.f0 = 10 by omega), e11]
      exact st3
    have st1 : Ev (fun k => culletlaw01_plays.j1 k x.f0 false x.f0 a x.f2 x.f3 x.f4) true := by
      refine Ev.step (fun k => culletlaw01_plays.j1.eq_2 _ _ _ _ _ _ _ k) ?_
      have e8 : (x.f0 == 8) = false := beq_eq_false_iff_ne.2 (by omega)
      simp only [Bool.false_eq_true, if_false, if_neg (show ¬ x.f0 = 6 by omega), if_neg (show ¬ x.f0 = 7 by omega), e8]
      exact st2
    have st0 : Ev (fun k => culletlaw01_plays.j0 k x.f0 false x.f0 a x.f2 x.f3 x.f4) true := by
      refine Ev.step (fun k => culletlaw01_plays.j0.eq_2 _ _ _ _ _ _ _ k) ?_
      have e5 : (x.f0 == 5) = false := beq_eq_false_iff_ne.2 (by omega)
      simp only [Bool.false_eq_true, if_false, if_neg (show ¬ x.f0 = 4 by omega), e5]
      exact st1
    unfold culletlaw01_plays.f
    have e3 : (x.f0 == 3) = false := beq_eq_false_iff_ne.2 (by omega)
    simp only [if_neg (show ¬ x.f0 = 1 by omega), if_neg (show ¬ x.f0 = 2 by omega), e3]
    exact st0
end Go.Proofs.YthldahaimcdejaaDoor.Pure
