import Derived.Test.YtklkcenffajfeaaH6
namespace Go.Proofs.Ytklkcenffajfeaa.A
open Go.RowKit Go.Deep Go.Proofs.YtklkcenffajfeaaW.PrintWords Go.Proofs.YtklkcenffajfeaaW.PrintLast Go.Proofs.YtklkcenffajfeaaW.PrintMore WH
set_option linter.unusedVariables false
set_option linter.unusedSimpArgs false
/-- Locator. -/
def walsh_Locator.f (l : List Int) (a0 : Int) : Option (List Int × Int) := walsh_locator.f l a0
set_option maxHeartbeats 4000000 in
set_option maxRecDepth 100000 in
theorem walsh_Locator.calls (A0 : Option Addr) (c0 : Nat) (l0 : List Int) (a1 : Int) (r1 : List Int) (r2 : Int) (w : World) (hr0 : Kd.C (Kd.int .i64) w A0 l0.length l0) (hc0 : l0.length ≤ c0) (h : walsh_Locator.f l0 a1 = some (r1, r2)) :
    Calls Try.prog 23 #[.slice A0 l0.length c0, .int .i64 a1] w fun e w' => ∃ v0_ : Value, e = .returned (.tuple #[v0_, .int .i64 r2]) ∧ Kd.R (Kd.int .u16) 33 w' w.heap.size (fun _ => True) v0_ r1 ∧ Below w.heap.size w w' := by
  have H0 := Aside0.mk hr0
  have h' : walsh_locator.f l0 a1 = some (r1, r2) := h
  have HH := Aside0.mk h'
  clear hr0 h h'
  go_enter Try.func23, Try.ntmps23
  go_wp2_with fail
  refine (gf16_New.calls w _ (Below.refl _ _) rfl).mono ?_
  rintro e w1 ⟨gt, rfl, hI, hB, -⟩
  have I1 : Aside0 (IsS69 w1 w1 gt) := ⟨hI⟩
  have B1 := Aside0.mk hB
  clear hI hB
  go_wp2_with fail
  refine (locator_wd gt A0 c0 l0 a1 r1 r2 _ I1.out (Kd.C_below H0.out B1.out) HH.out).mono ?_
  rintro e w2 ⟨v, rfl, hR, hB⟩
  have R2 := Aside0.mk (Kd.R_lower hR B1.out.size)
  have B2 := Aside0.mk (B1.out.trans (hB.mono B1.out.size))
  clear hR hB
  go_wp2
  go_ret2
  exact ⟨_, rfl, R2.out, B2.out⟩
/-- Products. -/
def walsh_Products.f (l : List Int) (a0 : Int) : Option (List Int × Int) := (walsh_locator.f l a0).bind fun z => if z.2 = 0 then some (lst z.1.length (fun i => ((tab16.pw (R.res (z.1.getD i 0)) : Nat) : Int)), 0) else some ([], z.2)
theorem exp_ev (v : Int) : gf16_Tables_Exp.f v = some ((tab16.pw (R.res v) : Nat) : Int) := R.TExp16 v
theorem locator_ok {l : List Int} {a0 : Int} {r1 : List Int} {r2 : Int} (h : walsh_locator.f l a0 = some (r1, r2)) (h0 : r2 = 0) : ∃ r : Nat, a0 = r ∧ r ≤ 16 ∧ r1 = lst (2 ^ r) (locL l r) := by
  unfold walsh_locator.f at h
  by_cases hr : 0 ≤ a0 ∧ a0 ≤ 16
  · rw [if_pos hr] at h
    obtain ⟨r, rfl⟩ := Int.eq_ofNat_of_zero_le hr.1
    rw [Int.toNat_natCast] at h
    refine ⟨r, rfl, by omega, ?_⟩
    by_cases e : losB (2 ^ r) l = true
    · rw [if_pos e] at h
      by_cases e2 : l.length ≤ 65536
      · rw [if_pos e2] at h
        have := Option.some.inj h
        simp only [Prod.mk.injEq] at this
        exact this.1.symm
      · rw [if_neg e2] at h; exact absurd h (by simp)
    · rw [if_neg e] at h
      by_cases e2 : l.length ≤ 1152921504606846976
      · rw [if_pos e2] at h
        have := Option.some.inj h
        simp only [Prod.mk.injEq] at this
        omega
      · rw [if_neg e2] at h; exact absurd h (by simp)
  · rw [if_neg hr] at h
    have := Option.some.inj h
    simp only [Prod.mk.injEq] at this
    omega
set_option maxHeartbeats 4000000 in
set_option maxRecDepth 100000 in
theorem walsh_Products.calls (A0 : Option Addr) (c0 : Nat) (l0 : List Int) (a1 : Int) (r1 : List Int) (r2 : Int) (w : World) (hr0 : Kd.C (Kd.int .i64) w A0 l0.length l0) (hc0 : l0.length ≤ c0) (h : walsh_Products.f l0 a1 = some (r1, r2)) :
    Calls Try.prog 26 #[.slice A0 l0.length c0, .int .i64 a1] w fun e w' => ∃ v0_ : Value, e = .returned (.tuple #[v0_, .int .i64 r2]) ∧ Kd.R (Kd.int .u16) 33 w' w.heap.size (fun _ => True) v0_ r1 ∧ Below w.heap.size w w' := by
  have H0 := Aside0.mk hr0
  unfold walsh_Products.f at h
  obtain ⟨⟨q1, q2⟩, hq, h⟩ := Option.bind_eq_some_iff.1 h
  have HH := Aside0.mk hq
  have he := Aside0.mk h
  clear hr0 h hq
  go_enter Try.func26, Try.ntmps26
  go_wp2_with fail
  refine (gf16_New.calls w _ (Below.refl _ _) rfl).mono ?_
  rintro e w1 ⟨gt, rfl, hI, hB, -⟩
  have I1 : Aside0 (IsS69 w1 w1 gt) := ⟨hI⟩
  have B1 := Aside0.mk hB
  clear hI hB
  go_wp2_with fail
  refine (locator_wd gt A0 c0 l0 a1 q1 q2 _ I1.out (Kd.C_below H0.out B1.out) HH.out).mono ?_
  rintro e w2 ⟨v, rfl, hR, hB⟩
  by_cases hz : q2 = 0
  · have he' := he.out
    rw [if_pos hz] at he'
    have h' := Option.some.inj he'
    simp only [Prod.mk.injEq] at h'
    obtain ⟨rfl, rfl⟩ := h'
    obtain ⟨r, rfl, hr16, hq1⟩ := locator_ok HH.out hz
    subst hz
    have hl0 : 0 < q1.length := by rw [hq1, lst_len]; exact Nat.two_pow_pos _
    have hl1 : q1.length ≤ 65536 := by rw [hq1, lst_len]; exact Nat.pow_le_pow_right (by decide) hr16
    have hv : ∀ j, j < q1.length → 0 ≤ q1.getD j 0 ∧ q1.getD j 0 ≤ 65534 := fun j hj => by
      rw [hq1] at hj ⊢
      rw [lst_len] at hj
      rw [lst_getD hj]
      have h1 := md_ge (cv r (mk l0 l0.length) lgE j)
      have h2 := md_lt (cv r (mk l0 l0.length) lgE j)
      exact ⟨h1, by show md _ ≤ _; omega⟩
    obtain ⟨g, cap, rfl, -, hge, hW⟩ := wd_of hR hl0
    have hgt := IsS69.lt I1.out
    have R2 : Aside0 (Wd w2 w.heap.size (fun _ => True) g q1.length cap (vl q1)) := ⟨by unfold Wd at hW ⊢; exact Kd.R_lower hW B1.out.size⟩
    have B2 := Aside0.mk (B1.out.trans (hB.mono B1.out.size))
    have I2 : Aside0 (IsS69 w2 w2 gt) := ⟨IsS69.below I1.out hB⟩
    have HGE := Aside0.mk (show w.heap.size ≤ g from Nat.le_trans B1.out.size hge)
    have HNE := Aside0.mk (show gt ≠ g by omega)
    have HV := Aside0.mk hv
    have HQ := Aside0.mk hq1
    clear hR hB hW hgt hge hv hq1 he'
    go_wp2_with fail
    go_loopg [9, 10, 24] q1.length (fun kq v9 v10 v24 wr => ∃ k : Nat, kq = q1.length - k ∧ k ≤ q1.length ∧ v24 = .int .i64 (k : Int) ∧ Wd wr w.heap.size (fun _ => True) g q1.length cap (fun j => if j < k then ((tab16.pw (R.res (q1.getD j 0)) : Nat) : Int) else q1.getD j 0) ∧ Kept w2 wr (fun k => k = g) ∧ Below w.heap.size w wr)
    case atStart => exact ⟨0, rfl, Nat.zero_le _, rfl, R2.out.congr (fun j _ => by rw [if_neg (by omega)]), Kept.refl _ _, B2.out⟩
    case round =>
      obtain ⟨k, rfl, hk, rfl, hR, hK, hB⟩ := hrel
      have R3 := Aside0.mk hR
      have K3 := Aside0.mk hK
      have B3 := Aside0.mk hB
      clear hR hK hB R2 B2
      by_cases hlt : k < q1.length
      · obtain ⟨c1, f1⟩ := R3.out.at_ hlt
        rw [if_neg (Nat.lt_irrefl k)] at c1
        obtain ⟨x0, x1⟩ := HV.out k hlt
        obtain ⟨x, hx⟩ : ∃ x, x = q1.getD k 0 := ⟨_, rfl⟩
        rw [← hx] at c1 x0 x1
        have HX := Aside0.mk hx
        have I3 : Aside0 (IsS69 wr wr gt) := ⟨IsS69.kept I2.out K3.out HNE.out⟩
        obtain ⟨y, hy⟩ : ∃ y, y = tab16.pw (R.res x) := ⟨_, rfl⟩
        have HE := Aside0.mk (exp_ev x)
        have HY := Aside0.mk hy
        rw [← hy] at HE
        clear hx hy
        go_wp2_with (go_at_call 32; refine (gf16_Tables_Exp.calls gt _ _ _ I3.out HE.out).mono ?_; rintro e w' ⟨rfl, hD⟩; obtain ⟨nd, rfl⟩ := hD.out)
        have R4 := ((R3.out.drewN nd).put k (y : Int)).congr (G := fun j => if j < k + 1 then ((tab16.pw (R.res (q1.getD j 0)) : Nat) : Int) else q1.getD j 0) (fun j hj => by
          show (if j = k then (y : Int) else if j < k then _ else _) = _
          by_cases e : j = k
          · rw [if_pos e, if_pos (by omega), HY.out, HX.out, e]
          · rw [if_neg e]
            have : j < k ↔ j < k + 1 := by omega
            simp only [this])
        go_roundg (q1.length - (k + 1))
        case measure => omega
        case rel => exact ⟨k + 1, rfl, by omega, by go_num, R4, (K3.out.drewN nd).setCell (p := ⟨g, k, none⟩) (.inl rfl) _, (pw_below_drewN B3.out nd).setCell (p := ⟨g, k, none⟩) HGE.out _⟩
      · go_wp2_with fail
        go_ret2
        exact ⟨_, rfl, R3.out.congr (fun j hj => by rw [if_pos (by omega)]), B3.out⟩
  · have he' := he.out
    rw [if_neg hz] at he'
    have h' := Option.some.inj he'
    simp only [Prod.mk.injEq] at h'
    obtain ⟨rfl, rfl⟩ := h'
    have hne : (q2 != 0) = true := bne_iff_ne.2 hz
    have B2 := Aside0.mk (B1.out.trans (hB.mono B1.out.size))
    clear hR hB hz he'
    go_wp2_with fail
    go_ret2
    exact ⟨_, rfl, Kd.R_nil _ _ _ _ _, B2.out⟩
end Go.Proofs.Ytklkcenffajfeaa.A
