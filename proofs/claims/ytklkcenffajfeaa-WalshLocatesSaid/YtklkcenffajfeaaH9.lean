import Derived.Test.YtklkcenffajfeaaRefWalsh
namespace Go.Proofs.Ytklkcenffajfeaa.A
open Go.RowKit Go.Deep Go.Proofs.YtklkcenffajfeaaW.PrintWords Go.Proofs.YtklkcenffajfeaaW.PrintLast Go.Proofs.YtklkcenffajfeaaW.PrintMore Go.Proofs.Ytklkcenffajfeaa.F Go.Proofs.Ytklkcenffajfeaa.G Go.Proofs.Ytklkcenffajfeaa.RI Go.Proofs.Ytklkcenffajfeaa.R WH
set_option linter.unusedVariables false
set_option linter.unusedSimpArgs false
/-- Inverse. -/
def culletref15_Inverse.f (l : List Int) : Option (List Int × Int) := if l.length < 2 ^ 62 then walsh_Inverse.f l else none
theorem half1 (Y : Int) : (md (2 * Y) % 2 = 1 → md ((md (2 * Y) + 65535) / 2) = md Y) ∧ (¬ md (2*Y) % 2 = 1 → md (md (2*Y) / 2) = md Y) := by
  obtain ⟨y, hy⟩ : ∃ y, y = md Y := ⟨_, rfl⟩
  have y0 : 0 ≤ y := by rw [hy]; unfold md; omega
  have y1 : y < 65535 := by rw [hy]; unfold md; omega
  have e : md (2 * Y) = if 2 * y < 65535 then 2 * y else 2 * y - 65535 := by
    have h1 : md (2 * Y) = md (2 * y) := by
      unfold md at hy ⊢
      rw [hy, Int.mul_emod, Int.mul_emod 2 (Y % 65535), Int.emod_emod_of_dvd _ (Int.dvd_refl _)]
    rw [h1]
    unfold md
    split <;> omega
  rw [e, ← hy]
  have my : md y = y := by unfold md; exact Int.emod_eq_of_lt y0 y1
  split
  · refine ⟨fun h => by omega, fun h => ?_⟩
    rw [show 2 * y / 2 = y by omega, my]
  · refine ⟨fun h => ?_, fun h => by omega⟩
    rw [show (2 * y - 65535 + 65535) / 2 = y by omega, my]
theorem half_md {s : Nat} (hs : s < 16) (a : Int) : (md (2 ^ (16 - s) * a) % 2 = 1 → md ((md (2 ^ (16 - s) * a) + 65535) / 2) = md (2 ^ (16 - (s + 1)) * a)) ∧ (¬ md (2 ^ (16 - s) * a) % 2 = 1 → md (md (2 ^ (16 - s) * a) / 2) = md (2 ^ (16 - (s + 1)) * a)) := by
  have e : (2 : Int) ^ (16 - s) * a = 2 * (2 ^ (16 - (s + 1)) * a) := by
    have : 16 - s = (16 - (s + 1)) + 1 := by omega
    rw [this, Int.pow_succ, Int.mul_comm _ 2, Int.mul_assoc]
  rw [e]
  exact half1 _
set_option maxHeartbeats 4000000 in
set_option maxRecDepth 100000 in
theorem culletref15_Inverse.calls (A0 : Option Addr) (c0 : Nat) (l0 : List Int) (r1 : List Int) (r2 : Int) (w : World) (hr0 : Kd.C (Kd.int .u16) w A0 l0.length l0) (hc0 : l0.length ≤ c0) (h : culletref15_Inverse.f l0 = some (r1, r2)) :
    Calls Try.prog 17 #[.slice A0 l0.length c0] w fun e w' => ∃ v0_ : Value, e = .returned (.tuple #[v0_, .int .i64 r2]) ∧ Kd.R (Kd.int .u16) 33 w' w.heap.size (fun _ => True) v0_ r1 ∧ Below w.heap.size w w' := by
  unfold culletref15_Inverse.f at h
  by_cases h62 : l0.length < 2 ^ 62
  rotate_left
  · rw [if_neg h62] at h; exact absurd h (by simp)
  rw [if_pos h62] at h
  unfold walsh_Inverse.f at h
  by_cases hw : okW l0 = true
  rotate_left
  · rw [if_neg hw] at h; exact absurd h (by simp)
  rw [if_pos hw] at h
  obtain ⟨kt, hkt⟩ := (RefTransform hw h62).rounds
  have HR := Aside0.mk hr0
  by_cases hp : pwB l0.length = true
  rotate_left
  · rw [if_neg hp] at h hkt
    obtain ⟨rfl, rfl⟩ : r1 = [] ∧ r2 = 130 := by
      have := Option.some.inj h
      simp only [Prod.mk.injEq] at this
      exact ⟨this.1.symm, this.2.symm⟩
    have HK := Aside0.mk hkt
    clear h hw hr0 hp hkt h62
    go_enter Try.func17, Try.ntmps17
    go_wp2_with fail
    refine (culletref15_Transform.calls kt A0 c0 l0 _ _ _ HR.out hc0 HK.out).mono ?_
    rintro e w1 ⟨v, rfl, hR, hB⟩
    have B1 := Aside0.mk hB
    clear hR hB
    go_wp2_with fail
    go_ret2
    exact ⟨_, rfl, Kd.R_nil _ _ _ _ _, B1.out⟩
  rw [if_pos hp] at h hkt
  have h' := Option.some.inj h
  simp only [Prod.mk.injEq] at h'
  obtain ⟨rfl, rfl⟩ := h'
  obtain ⟨hn, hmax⟩ := pw_log hp
  have hr16 : Nat.log2 l0.length ≤ 16 := by
    have : 2 ^ Nat.log2 l0.length ≤ 2 ^ 16 := by rw [← hn]; exact hmax
    exact (Nat.pow_le_pow_iff_right (by decide)).1 this
  obtain ⟨r, hr⟩ : ∃ r, r = Nat.log2 l0.length := ⟨_, rfl⟩
  obtain ⟨F, hF⟩ : ∃ F : Nat → Int, F = tr r (vl l0) := ⟨_, rfl⟩
  rw [← hr] at hn hr16 hkt ⊢
  rw [← hF] at hkt ⊢
  obtain ⟨n, hnn⟩ : ∃ n, n = l0.length := ⟨_, rfl⟩
  have hres : lst l0.length (fun i => md (2 ^ (16 - r) * F i)) = lst n (fun i => md (2 ^ (16 - r) * F i)) := by rw [hnn]
  rw [hres]
  rw [← hnn] at hn hmax hkt
  have hn0 : 0 < n := by rw [hn]; exact Nat.two_pow_pos _
  have HK := Aside0.mk hkt
  have HN := Aside0.mk hn
  have HNN := Aside0.mk hnn
  have hnl : (l0.length : Int) = (n : Int) := by rw [hnn]
  clear h hw hr0 hp hkt h62 hr hF hn hnn hres
  go_enter Try.func17, Try.ntmps17
  go_wp2_with fail
  refine (culletref15_Transform.calls kt A0 c0 l0 _ _ _ HR.out hc0 HK.out).mono ?_
  rintro e w1 ⟨v, rfl, hR, hB⟩
  obtain ⟨g, cap, rfl, -, hge, hW⟩ := wd_of hR (by rw [lst_len]; exact hn0)
  rw [lst_len] at hW
  rw [lst_len]
  have R0 : Aside0 (Wd w1 w.heap.size (fun _ => True) g n cap (fun j => md (2 ^ (16 - 0) * F j))) := ⟨hW.congr (fun j hj => by
    show (lst n fun i => md (F i)).getD j 0 = _
    rw [lst_getD hj]
    show md (F j) = md (2 ^ 16 * F j)
    unfold md; omega)⟩
  have B0 := Aside0.mk hB
  have HGE := Aside0.mk hge
  clear hR hB hge hW HK
  go_wp2_with fail
  go_loopg [6, 7, 8, 9, 26] r (fun kq v6 v7 v8 v9 v26 wr => ∃ s p : Nat, kq = r - s ∧ s ≤ r ∧ Aside0 (p = 2 ^ (r - s)) ∧ v6 = .int .i64 (p : Int) ∧ Wd wr w.heap.size (fun _ => True) g n cap (fun j => md (2 ^ (16 - s) * F j)) ∧ Below w.heap.size w wr)
  case atStart => exact ⟨0, n, rfl, Nat.zero_le _, ⟨HN.out⟩, by first | rfl | rw [hnl], R0.out, B0.out⟩
  case round =>
    obtain ⟨s, p, rfl, hs, HP, rfl, hR, hB⟩ := hrel
    clear R0 B0
    have R1 := Aside0.mk hR
    have B1 := Aside0.mk hB
    clear hR hB
    have hp64 : p ≤ 65536 := by rw [HP.out]; exact Nat.le_trans (Nat.pow_le_pow_right (n := 2) (by decide) (show r - s ≤ 16 by omega)) (by decide)
    by_cases hlt : s < r
    · obtain ⟨q, hq⟩ : ∃ q, q = 2 ^ (r - (s + 1)) := ⟨_, rfl⟩
      have hpq : p = 2 * q := by rw [HP.out, hq, show r - s = r - (s + 1) + 1 by omega, Nat.pow_succ]; omega
      have hq0 : 0 < q := by rw [hq]; exact Nat.two_pow_pos _
      have hpd : (p : Int) / 2 = (q : Int) := by omega
      have hp1 : (1 : Int) < (p : Int) := by omega
      have HQ := Aside0.mk hq
      clear hq hpq
      go_wp2_with fail
      go_loopg [7, 8, 9, 26] n (fun kq v7 v8 v9 v26 wr => ∃ i : Nat, kq = n - i ∧ i ≤ n ∧ v26 = .int .i64 (i : Int) ∧ Wd wr w.heap.size (fun _ => True) g n cap (fun j => if j < i then md (2 ^ (16 - (s + 1)) * F j) else md (2 ^ (16 - s) * F j)) ∧ Below w.heap.size w wr)
      case atStart => exact ⟨0, rfl, Nat.zero_le _, rfl, R1.out.congr (fun j _ => by rw [if_neg (by omega)]), B1.out⟩
      case round =>
        obtain ⟨i, rfl, hi, rfl, hR, hB⟩ := hrel
        clear R1 B1
        have R2 := Aside0.mk hR
        have B2 := Aside0.mk hB
        clear hR hB
        by_cases hin : i < n
        · obtain ⟨c1, f1⟩ := R2.out.at_ hin
          rw [if_neg (Nat.lt_irrefl i)] at c1
          obtain ⟨ho, he⟩ := half_md (s := s) (by omega) (F i)
          have x0 := md_ge (2 ^ (16 - s) * F i)
          have x1 := md_lt (2 ^ (16 - s) * F i)
          obtain ⟨x, hx⟩ : ∃ x, x = md (2 ^ (16 - s) * F i) := ⟨_, rfl⟩
          obtain ⟨y, hy⟩ : ∃ y, y = md (2 ^ (16 - (s + 1)) * F i) := ⟨_, rfl⟩
          rw [← hx] at c1 ho he x0 x1
          rw [← hy] at ho he
          have hyw : IntKind.u16.wrap y = y := by rw [hy]; exact u16_md _
          have HY := Aside0.mk hy
          have R3 := fun nd => ((R2.out.drewN nd).put i y).congr (G := fun j => if j < i + 1 then md (2 ^ (16 - (s + 1)) * F j) else md (2 ^ (16 - s) * F j)) (fun j hj => by
            show (if j = i then y else if j < i then _ else _) = _
            by_cases e : j = i
            · rw [if_pos e, if_pos (by omega), HY.out, e]
            · rw [if_neg e]
              have : j < i ↔ j < i + 1 := by omega
              simp only [this])
          have R4 := Aside0.mk R3
          clear R3 hx hy
          by_cases hodd : x % 2 = 1
          · have hm := ho hodd
            have HM := Aside0.mk (RefMod ((x + 65535) / 2))
            rw [hm] at HM
            have hb : (x % 2 == 1) = true := beq_iff_eq.2 hodd
            have hd0 : 0 ≤ (x + 65535) / 2 := by omega
            clear ho he hm hodd
            go_wp2_with (go_at_call 45; refine (culletref15_mod.calls _ _ _ HM.out).mono ?_; rintro e w' ⟨rfl, hD⟩; obtain ⟨nd, rfl⟩ := hD.out)
            go_roundg (n - (i + 1))
            case measure => omega
            case rel => exact ⟨i + 1, rfl, by omega, by go_num, R4.out nd, (pw_below_drewN B2.out nd).setCell (p := ⟨g, i, none⟩) HGE.out _⟩
          · have hm := he hodd
            have HM := Aside0.mk (RefMod (x / 2))
            rw [hm] at HM
            have hb : (x % 2 == 1) = false := beq_eq_false_iff_ne.2 hodd
            clear ho he hm hodd
            go_wp2_with (go_at_call 45; refine (culletref15_mod.calls _ _ _ HM.out).mono ?_; rintro e w' ⟨rfl, hD⟩; obtain ⟨nd, rfl⟩ := hD.out)
            go_roundg (n - (i + 1))
            case measure => omega
            case rel => exact ⟨i + 1, rfl, by omega, by go_num, R4.out nd, (pw_below_drewN B2.out nd).setCell (p := ⟨g, i, none⟩) HGE.out _⟩
        · have R5 := Aside0.mk (R2.out.congr (G := fun j => md (2 ^ (16 - (s + 1)) * F j)) (fun j hj => by rw [if_pos (by omega)]))
          clear R2
          go_wp2_with fail
          go_roundg (r - (s + 1))
          case measure => omega
          case rel => exact ⟨s + 1, q, rfl, by omega, HQ, by first | rfl | (rw [hpd]), R5.out, B2.out⟩
    · obtain rfl : s = r := by omega
      obtain rfl : p = 1 := by rw [HP.out]; simp
      go_wp2_with fail
      go_ret2
      exact ⟨_, rfl, R1.out, B1.out⟩
end Go.Proofs.Ytklkcenffajfeaa.A
