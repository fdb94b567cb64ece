import Derived.Test.YtkdoilmfchlpdaaRiseL
namespace Go.Proofs.Ytkdoilmfchlpdaa.A
open Go.RowKit Go.Deep Go.Proofs.YtkdoilmfchlpdaaW.PrintWords Go.Proofs.YtkdoilmfchlpdaaW.PrintLast Go.Proofs.YtkdoilmfchlpdaaW.PrintMore Go.Proofs.Ytkdoilmfchlpdaa.RI
set_option linter.unusedVariables false
set_option linter.unusedSimpArgs false
theorem infoInt : (Try.prog.info? 3).map (fun i => (i.zero, i.size, i.bytes)) = some (some (.int .i64 0), 1, 8) := by kernel_rfl
/-- Lost. -/
def gener_Lost.f (n : Int) (l : List Int) : Option (List Int × Int) := if l.length < 2 ^ 60 then (if 0 ≤ n ∧ n ≤ 65536 then (if riB n l = true then some (miss l n.toNat, 0) else some ([], 110)) else some ([], 7)) else none
theorem addr_addL (a : Addr) (m n : Nat) : a.add (m + n) = (a.add m).add n := by
  unfold Addr.add
  by_cases hm : m = 0 <;> by_cases hn : n = 0 <;> simp [hm, hn, Nat.add_assoc]
theorem miss_put (l : List Int) {x m : Nat} (hm : m = (miss l x).length) (e : miss l (x + 1) = miss l x ++ [(x : Int)]) (j : Nat) : (if j = m then Value.int .i64 (x : Int) else Value.int .i64 (if j < (miss l x).length then (miss l x).getD j 0 else 0)) = Value.int .i64 (if j < (miss l (x + 1)).length then (miss l (x + 1)).getD j 0 else 0) := by
  rw [e, List.length_append, show [(x : Int)].length = 1 from rfl, ← hm]
  by_cases e1 : j = m
  · rw [if_pos e1, if_pos (by omega), e1, List.getD_eq_getElem?_getD, hm, List.getElem?_append_right (Nat.le_refl _), Nat.sub_self]; rfl
  · rw [if_neg e1]
    by_cases e2 : j < m
    · rw [if_pos e2, if_pos (by omega), List.getD_eq_getElem?_getD, List.getD_eq_getElem?_getD, List.getElem?_append_left (by omega)]
    · rw [if_neg e2, if_neg (by omega)]
set_option maxHeartbeats 4000000 in
set_option maxRecDepth 100000 in
theorem gener_Lost.calls (a0 : Int) (A1 : Option Addr) (c1 : Nat) (l1 : List Int) (r1 : List Int) (r2 : Int) (w : World) (hr1 : Kd.C (Kd.int .i64) w A1 l1.length l1) (hc1 : l1.length ≤ c1) (h : gener_Lost.f a0 l1 = some (r1, r2)) :
    Calls Try.prog 23 #[.int .i64 a0, .slice A1 l1.length c1] w fun e w' => ∃ v0_ : Value, e = .returned (.tuple #[v0_, .int .i64 r2]) ∧ Kd.R (Kd.int .i64) 3 w' w.heap.size (fun _ => True) v0_ r1 ∧ Below w.heap.size w w' := by
  unfold gener_Lost.f at h
  by_cases h60 : l1.length < 2 ^ 60
  rotate_left
  · rw [if_neg h60] at h; exact absurd h (by simp)
  rw [if_pos h60] at h
  by_cases hn : 0 ≤ a0 ∧ a0 ≤ 65536
  rotate_left
  · rw [if_neg hn] at h
    obtain ⟨rfl, rfl⟩ : r1 = [] ∧ r2 = 7 := by
      have := Option.some.inj h
      simp only [Prod.mk.injEq] at this
      exact ⟨this.1.symm, this.2.symm⟩
    have HN := Aside0.mk hn
    clear h hn hr1 h60
    go_enter Try.func23, Try.ntmps23
    go_wp2_with fail
    all_goals first
      | (go_ret2; exact ⟨_, rfl, Kd.R_nil _ _ _ _ _, Below.refl _ _⟩)
      | (exfalso; apply HN.out; constructor <;> omega)
  rw [if_pos hn] at h
  obtain ⟨n, rfl⟩ := Int.eq_ofNat_of_zero_le hn.1
  have hn6 : n ≤ 65536 := by omega
  obtain ⟨kn, hkn⟩ := (Numbers (n : Int) (show l1.length < 2 ^ 62 by omega)).rounds
  rw [Int.toNat_natCast] at h
  have HR := Aside0.mk hr1
  by_cases hb : riB (n : Int) l1 = true
  rotate_left
  · rw [if_neg hb] at h
    have hb' : riB (n : Int) l1 = false := by simpa using hb
    rw [hb'] at hkn
    obtain ⟨rfl, rfl⟩ : r1 = [] ∧ r2 = 110 := by
      have := Option.some.inj h
      simp only [Prod.mk.injEq] at this
      exact ⟨this.1.symm, this.2.symm⟩
    have HK := Aside0.mk hkn
    clear h hn hr1 h60 hb hb' hkn
    go_enter Try.func23, Try.ntmps23
    go_wp2_with (go_at_call 46; refine (gener_numbers.calls kn _ _ l1 _ _ _ HR.out hc1 HK.out).mono ?_; rintro e w' ⟨rfl, hD⟩; obtain ⟨nd, rfl⟩ := hD.out)
    go_ret2
    exact ⟨_, rfl, Kd.R_nil _ _ _ _ _, pw_below_drewN (Below.refl w.heap.size w) nd⟩
  rw [if_pos hb] at h
  rw [hb] at hkn
  have h' := Option.some.inj h
  simp only [Prod.mk.injEq] at h'
  obtain ⟨rfl, rfl⟩ := h'
  obtain ⟨L, hL⟩ : ∃ L, L = l1.length := ⟨_, rfl⟩
  have hLn : L ≤ n := by
    rcases Nat.eq_zero_or_pos L with z | z
    · omega
    · have := riB_room hb (l1.length - 1) 0 (by omega)
      have h0 := ((riB_iff.1 hb) 0 (by omega)).1
      omega
  obtain ⟨N, hN⟩ : ∃ N, N = n - L := ⟨_, rfl⟩
  have hNi : (n : Int) - (l1.length : Int) = (N : Int) := by omega
  have hC : 0 < L → ∃ ad, A1 = some ad ∧ ∀ j, j < L → w.cell? (ad.add j) = some (.int .i64 (l1.getD j 0)) := fun hp => by
    obtain ⟨ad, e, hc⟩ := readI hr1 (by omega)
    exact ⟨ad, e, fun j hj => hc j (by omega)⟩
  have HB := Aside0.mk hb
  have HK := Aside0.mk hkn
  have HL := Aside0.mk hL
  have HN := Aside0.mk hN
  have HCC := Aside0.mk hC
  have HC1 := Aside0.mk hc1
  have hX := Aside0.mk (fun w' => gener_numbers.calls kn A1 c1 l1 (n : Int) true w')
  obtain ⟨i0, hi0, hz0, hs0, hb0⟩ := info_parts infoInt
  have hmk2 : ∀ W : World, (Instr.makeSlice 34 (.int .i64 0) (.int .i64 (N : Int))).run Try.prog W = .ok (.slice (some ⟨W.heap.size, 0, none⟩) 0 N) (W.alloc (.cells (madeCells #[.int .i64 0] N) 3)) := by
    intro W
    have := run_make (P := Try.prog) W 34 3 i0 (.int .i64 0) Try.underlying34 hi0 hz0 .i64 .i64 (0 : Int) (N : Int) (by omega) (by omega) (by rw [hb0]; omega) (by omega)
    simp only [Int.toNat_natCast, hs0, Nat.mul_one] at this
    exact this
  clear h hn hr1 h60 hb hkn hC hL hN hz0 hb0 hc1
  go_enter Try.func23, Try.ntmps23
  go_wp2_with (go_at_call 46; refine (hX.out _ HR.out HC1.out HK.out).mono ?_; rintro e w' ⟨rfl, hD⟩; obtain ⟨nd, rfl⟩ := hD.out)
  have hLn := hLn
  have R0 := World.rowIs_made (w.drewN nd) (.int .i64 0) N 3
  have e0 : (w.drewN nd).heap.size = w.heap.size := rfl
  rw [e0] at R0
  obtain ⟨gw, hgw⟩ : ∃ gw, gw = w.heap.size := ⟨_, rfl⟩
  have HGW := Aside0.mk hgw
  have B0 : Aside0 (Below w.heap.size w ((w.drewN nd).alloc (.cells (madeCells #[.int .i64 0] N) 3))) := ⟨(pw_below_drewN (Below.refl _ _) nd).alloc (Nat.le_refl _) _⟩
  rw [← hgw] at R0 ⊢
  have RR := Aside0.mk R0
  clear R0 e0 hgw hmk2 hX HK
  generalize (w.drewN nd).alloc (.cells (madeCells #[.int .i64 0] N) 3) = W1 at RR B0 ⊢
  go_loopg [1, 6, 7, 26] n (fun kq v1 v6 v7 v26 wr => ∃ (x q y c : Nat) (A : Option Addr), kq = n - x ∧ x ≤ n ∧ v26 = .int .i64 (x : Int) ∧ v1 = .slice A y c ∧ y + q = L ∧ y ≤ c ∧ v6 = .slice (some ⟨gw, 0, none⟩) (miss l1 x).length N ∧ Aside0 (Gone l1 x q (miss l1 x)) ∧ Aside0 (0 < y → ∃ ad, A = some ad ∧ ∀ j, j < y → w.cell? (ad.add j) = some (.int .i64 (l1.getD (q + j) 0))) ∧ wr.rowIs gw 3 N (fun j => .int .i64 (if j < (miss l1 x).length then (miss l1 x).getD j 0 else 0)) ∧ Below w.heap.size w wr)
  case atStart => exact ⟨0, 0, _, _, _, rfl, Nat.zero_le _, rfl, rfl, by have := HL.out; omega, HC1.out, rfl, ⟨Gone.start l1 HB.out⟩, ⟨fun hp => by
    obtain ⟨ad, e, hc⟩ := HCC.out (by have := HL.out; omega)
    exact ⟨ad, e, fun j hj => by rw [Nat.zero_add]; exact hc j (by have := HL.out; omega)⟩⟩, RR.out.congr (fun j _ => by rw [if_neg (by show ¬ j < 0; omega)]), B0.out⟩
  case round =>
    obtain ⟨x, q, y, c, A, rfl, hx, rfl, rfl, hyq, hyc, rfl, HG, HA, hR, hB⟩ := hrel
    clear RR B0
    have R1 := Aside0.mk hR
    have B1 := Aside0.mk hB
    clear hR hB
    have hgl := HG.out.len
    obtain ⟨m, hm⟩ : ∃ m, m = (miss l1 x).length := ⟨_, rfl⟩
    rw [← hm] at hgl ⊢
    have HM := Aside0.mk hm
    clear hm
    by_cases hlt : x < n
    · by_cases hy0 : 0 < y
      · obtain ⟨ad, rfl, hc⟩ := HA.out hy0
        have h0 := hc 0 hy0
        rw [Addr.add_zero', Nat.add_zero] at h0
        have c0 := pw_cell_below B1.out h0
        obtain ⟨z, hz⟩ : ∃ z, z = l1.getD q 0 := ⟨_, rfl⟩
        rw [← hz] at c0
        have HZ := Aside0.mk hz
        have HCJ := Aside0.mk hc
        have hy1 : decide ((0 : Int) < (y : Int)) = true := decide_eq_true (by omega)
        clear hc h0 hz
        by_cases hzx : z = (x : Int)
        · have hzb : (z == (x : Int)) = true := beq_iff_eq.2 hzx
          obtain ⟨G2, e2⟩ := Gone.hit HB.out HG.out (by have := HL.out; omega) (HZ.out.symm.trans hzx)
          have GG := Aside0.mk G2
          have E2 := Aside0.mk e2
          have hcut := cut_from (P := Try.prog) 34 3 .i64 Try.underlying34 hi0 1 hs0 (some ad) y c (1 : Int) (by omega) (by omega)
          obtain ⟨A2, hA2⟩ : ∃ A2, A2 = (if c = (1 : Int).toNat then (some ad) else (some ad : Option Addr).map (·.add ((1 : Int).toNat * 1))) := ⟨_, rfl⟩
          rw [← hA2] at hcut
          have HA2 : Aside0 (0 < y - 1 → ∃ ad2, A2 = some ad2 ∧ ∀ j, j < y - 1 → w.cell? (ad2.add j) = some (.int .i64 (l1.getD (q + 1 + j) 0))) := ⟨fun hp => by
            have hne : ¬ c = (1 : Int).toNat := by show ¬ c = 1; omega
            rw [if_neg hne] at hA2
            refine ⟨ad.add 1, by rw [hA2]; rfl, fun j hj => ?_⟩
            have := HCJ.out (1 + j) (by omega)
            rw [addr_addL] at this
            rw [this, Nat.add_assoc]⟩
          have hr1 : ((1 : Int)).toNat = 1 := rfl
          rw [hr1] at hcut
          obtain ⟨y1, hy1e⟩ : ∃ y1, y1 = y - 1 := ⟨_, rfl⟩
          obtain ⟨c2, hc2e⟩ : ∃ c2, c2 = c - 1 := ⟨_, rfl⟩
          rw [← hy1e, ← hc2e] at hcut
          rw [← hy1e] at HA2
          have HY := Aside0.mk (show y1 + (q + 1) = L ∧ y1 ≤ c2 from by omega)
          clear G2 e2 hzx hA2 hr1 hy1e hc2e
          go_wp2_with fail
          go_roundg (n - (x + 1))
          case measure => omega
          case rel => exact ⟨x + 1, q + 1, y1, c2, A2, rfl, by omega, by go_num, rfl, HY.out.1, HY.out.2, by rw [E2.out, HM.out], GG, HA2, R1.out.congr (fun j _ => by rw [E2.out]), B1.out⟩
        · have hzb : (z == (x : Int)) = false := beq_eq_false_iff_ne.2 hzx
          obtain ⟨G2, e2⟩ := Gone.skip HB.out HG.out (fun h => hzx (HZ.out.trans h.2))
          have GG := Aside0.mk G2
          have E2 := Aside0.mk e2
          have hroom : m < N := by
            have h1 := riB_room HB.out (L - q - 1) q (by have := HL.out; omega)
            have h2 := HG.out.high q (Nat.le_refl _) (by have := HL.out; omega)
            rw [← HZ.out] at h1 h2
            have := HN.out
            omega
          have hl2 : (miss l1 (x + 1)).length = m + 1 := by rw [e2, List.length_append, HM.out]; rfl
          have HL2 := Aside0.mk hl2
          clear G2 e2 hl2 hzx
          go_wp2_with (at_builtin; refine append1 rfl (.tmp 41) (.tmp 43) 34 3 i0 rfl Try.underlying34 hi0 hs0 rfl rfl (rowAlloc R1.out _) hroom (ad := ⟨wr.heap.size, 0, none⟩) (v := .int .i64 (x : Int)) ?a1 rfl ?_)
          case a1 => simp
          intro W2 hrow hbut
          have R2 := Aside0.mk (hrow.congr (g := fun j => .int .i64 (if j < (miss l1 (x + 1)).length then (miss l1 (x + 1)).getD j 0 else 0)) (fun j hj => miss_put l1 HM.out E2.out j))
          have B2 := Aside0.mk ((B1.out.alloc B1.out.size (.cells #[.int .i64 (x : Int)] 3)).trans (hbut.below (B := w.heap.size) (by rw [HGW.out]; exact Nat.le_refl _)))
          clear hrow hbut R1 B1
          go_wp2_with fail
          go_roundg (n - (x + 1))
          case measure => omega
          case rel => exact ⟨x + 1, q, y, c, some ad, rfl, by omega, by go_num, rfl, hyq, hyc, by rw [HL2.out], GG, HA, R2.out, B2.out⟩
      · obtain rfl : y = 0 := by omega
        have hy1 : q = L := by omega
        obtain ⟨G2, e2⟩ := Gone.skip HB.out HG.out (fun h => by have := h.1; have := HL.out; omega)
        have GG := Aside0.mk G2
        have E2 := Aside0.mk e2
        have hroom : m < N := by have := HN.out; omega
        have hl2 : (miss l1 (x + 1)).length = m + 1 := by rw [e2, List.length_append, HM.out]; rfl
        have HL2 := Aside0.mk hl2
        clear G2 e2 hl2 hy0
        go_wp2_with (at_builtin; refine append1 rfl (.tmp 41) (.tmp 43) 34 3 i0 rfl Try.underlying34 hi0 hs0 rfl rfl (rowAlloc R1.out _) hroom (ad := ⟨wr.heap.size, 0, none⟩) (v := .int .i64 (x : Int)) ?a2 rfl ?_)
        case a2 => simp
        intro W2 hrow hbut
        have R2 := Aside0.mk (hrow.congr (g := fun j => .int .i64 (if j < (miss l1 (x + 1)).length then (miss l1 (x + 1)).getD j 0 else 0)) (fun j hj => miss_put l1 HM.out E2.out j))
        have B2 := Aside0.mk ((B1.out.alloc B1.out.size (.cells #[.int .i64 (x : Int)] 3)).trans (hbut.below (B := w.heap.size) (by rw [HGW.out]; exact Nat.le_refl _)))
        clear hrow hbut R1 B1
        go_wp2_with fail
        go_roundg (n - (x + 1))
        case measure => omega
        case rel => exact ⟨x + 1, q, 0, c, A, rfl, by omega, by go_num, rfl, hyq, hyc, by rw [HL2.out], GG, HA, R2.out, B2.out⟩
    · obtain rfl : x = n := by omega
      have hend : m = N := by
        have hy0 : y = 0 := by
          rcases Nat.eq_zero_or_pos y with z | z
          · exact z
          · have h1 := riB_room HB.out (L - q - 1) q (by have := HL.out; omega)
            have h2 := HG.out.high q (Nat.le_refl _) (by have := HL.out; omega)
            omega
        have := HN.out
        omega
      have hres : miss l1 x = (List.range N).map fun j => (miss l1 x).getD j 0 := by
        apply List.ext_getElem?
        intro j
        by_cases hj : j < N
        · have hj2 : j < (miss l1 x).length := by rw [← HM.out]; omega
          rw [List.getElem?_map, List.getElem?_range hj, List.getElem?_eq_getElem hj2]
          show some _ = some ((miss l1 x).getD j 0)
          rw [List.getD_eq_getElem?_getD, List.getElem?_eq_getElem hj2]; rfl
        · rw [List.getElem?_eq_none (by rw [← HM.out]; omega), List.getElem?_eq_none (by simp; omega)]
      have R2 := Aside0.mk (R1.out.congr (g := fun j => .int .i64 ((miss l1 x).getD j 0)) (fun j hj => by rw [if_pos (by rw [← HM.out]; omega)]))
      have HE := Aside0.mk hend
      have HS := Aside0.mk hres
      clear hend hres R1
      go_wp2_with fail
      go_ret2
      exact ⟨_, rfl, by rw [HE.out, HS.out]; exact rowR R2.out (by rw [HGW.out]; exact Nat.le_refl _) (by unfold maxLen; have := HN.out; omega) trivial, B1.out⟩
end Go.Proofs.Ytkdoilmfchlpdaa.A
