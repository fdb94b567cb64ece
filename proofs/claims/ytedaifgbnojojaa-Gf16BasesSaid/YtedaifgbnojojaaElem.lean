import Derived.Test.YtedaifgbnojojaaRefBasis
import Derived.Deep.RegionLaw
namespace Go.Proofs.Ytedaifgbnojojaa.A
open Go.RowKit Go.Deep Go.Proofs.YtedaifgbnojojaaW.PrintWords Go.Proofs.YtedaifgbnojojaaW.PrintLast Go.Proofs.YtedaifgbnojojaaW.PrintMore Go.Proofs.Ytedaifgbnojojaa.R Go.Proofs.Ytedaifgbnojojaa.RI GP Go.Proofs.Ytedaifgbnojojaa.F
set_option linter.unusedVariables false
set_option linter.unusedSimpArgs false
/-! The document's list of elements. -/
theorem infoU16 : (Try.prog.info? 25).map (fun i => (i.zero, i.size, i.bytes)) = some (some (.int .u16 0), 1, 2) := by kernel_rfl
theorem bs_low {L : List Nat} {n j : Nat} (h : j < 2 ^ n) : bsum L j (n + 1) = bsum L j n := by
  show (if j.testBit n then bsum L j n ^^^ _ else bsum L j n) = _
  rw [Nat.testBit_lt_two_pow h, if_neg (by decide)]
theorem bs_high {L : List Nat} {s j : Nat} (h : j < 2 ^ s) : bsum L (2 ^ s + j) (s + 1) = bsum L j s ^^^ L.getD s 0 := by
  have hb : ∀ n, n ≤ s → bsum L (2 ^ s + j) n = bsum L j n := by
    intro n
    induction n with
    | zero => intro _; rfl
    | succ n ih =>
      intro hn
      show (if (2 ^ s + j).testBit n then bsum L (2 ^ s + j) n ^^^ _ else bsum L (2 ^ s + j) n) = (if j.testBit n then bsum L j n ^^^ _ else bsum L j n)
      rw [ih (by omega), Nat.testBit_two_pow_add_gt (by omega)]
  show (if (2 ^ s + j).testBit s then bsum L (2 ^ s + j) s ^^^ _ else _) = _
  rw [Nat.testBit_two_pow_add_eq, Nat.testBit_lt_two_pow h, if_pos (by rfl), hb s (Nat.le_refl _)]
theorem bs_wel {r j : Nat} (hr : r ≤ 16) (hj : j < 2 ^ r) : bsum BL j r = wel j := by
  have : ∀ d, r + d ≤ 16 → bsum BL j (r + d) = bsum BL j r := by
    intro d
    induction d with
    | zero => intro _; rfl
    | succ d ih =>
      intro h
      rw [← Nat.add_assoc, bs_low (Nat.lt_of_lt_of_le hj (Nat.pow_le_pow_right (by decide) (by omega))), ih (by omega)]
  have h := this (16 - r) (by omega)
  rw [show r + (16 - r) = 16 by omega] at h
  exact h.symm
theorem pow_wr {r : Nat} (h : r ≤ 16) : wrap64 (2 ^ r) = ((2 ^ r : Nat) : Int) := by
  have : ∀ r : Fin 17, wrap64 (2 ^ r.val) = ((2 ^ r.val : Nat) : Int) := by decide +kernel
  exact this ⟨r, by omega⟩
def culletref03_ElementsTo.f (a0 : Int) : Option (List Int) := if 0 ≤ a0 ∧ a0 ≤ 16 then some ((List.range (2 ^ a0.toNat)).map fun i => ((wel i : Nat) : Int)) else none
set_option maxHeartbeats 4000000 in
set_option maxRecDepth 100000 in
theorem elements_row (r : Nat) (hr : r ≤ 16) (w : World) :
    Calls Try.prog 76 #[.int .i64 (r : Int)] w fun e w' => ∃ g, e = .returned (.slice (some ⟨g, 0, none⟩) (2 ^ r) (2 ^ r)) ∧ w'.rowIs g 25 (2 ^ r) (fun j => .int .u16 ((wel j : Nat) : Int)) ∧ w.heap.size ≤ g ∧ Below w.heap.size w w' := by
  obtain ⟨kb, hkb⟩ := RefBasis.rounds
  obtain ⟨n, hn⟩ : ∃ n, n = 2 ^ r := ⟨_, rfl⟩
  have hsh : wrap64 (2 ^ r) = (n : Int) := by rw [hn]; exact pow_wr hr
  have hn0 : 1 ≤ n := by rw [hn]; exact Nat.two_pow_pos _
  have hn1 : n ≤ 65536 := by rw [hn]; exact Nat.pow_le_pow_right (by decide) hr
  rw [← hn]
  have HNr := Aside0.mk hn
  have HKB := Aside0.mk hkb
  obtain ⟨i33, hi33, hz33, hs33, hb33⟩ := info_parts infoU16
  have hmk2 : ∀ W : World, (Instr.makeSlice 48 (.int .i64 1) (.int .i64 (n : Int))).run Try.prog W = .ok (.slice (some ⟨W.heap.size, 0, none⟩) 1 n) (W.alloc (.cells (madeCells #[.int .u16 0] n) 25)) := by
    intro W
    have := run_make (P := Try.prog) W 48 25 i33 (.int .u16 0) Try.underlying48 hi33 hz33 .i64 .i64 (1 : Int) (n : Int) (by omega) (by omega) (by rw [hb33]; omega) (by omega)
    simp only [Int.toNat_natCast, hs33, Nat.mul_one] at this
    exact this
  clear hn hz33 hb33 hkb
  go_enter Try.func76, Try.ntmps76
  go_wp2_with fail
  refine (culletref03_Basis.calls kb _ _ HKB.out).mono ?_
  rintro e w1 ⟨v3, rfl, hR, hB⟩
  obtain ⟨Ab, cb, rfl, hcb, hC⟩ := Kd.R_reads hR
  obtain ⟨ab, rfl, hab⟩ := readI hC (by decide)
  obtain ⟨gw, hgw⟩ : ∃ gw, gw = w1.heap.size := ⟨_, rfl⟩
  have hr0 := World.rowIs_made w1 (.int .u16 0) n 25
  rw [← hgw] at hr0
  have B1 := Aside0.mk hB
  have RW := Aside0.mk hr0
  have HAB := Aside0.mk hab
  have HGW := Aside0.mk hgw
  clear hR hC hB hr0 hcb hab hgw HKB
  go_wp2_with fail
  rw [← HGW.out]
  have B2 : Aside0 (Below w.heap.size w (w1.alloc (.cells (madeCells #[.int .u16 0] n) 25))) := ⟨B1.out.alloc B1.out.size _⟩
  have K2 : Aside0 (Kept w1 (w1.alloc (.cells (madeCells #[.int .u16 0] n) 25)) (fun k => k = gw)) := ⟨(Kept.refl _ _).alloc _⟩
  clear hmk2 hsh
  generalize w1.alloc (.cells (madeCells #[.int .u16 0] n) 25) = W2 at RW B2 K2 ⊢
  go_loopg [4, 5, 6, 7] r (fun kq v4 v5 v6 v7 wr => ∃ i p : Nat, kq = r - i ∧ i ≤ r ∧ Aside0 (p = 2 ^ i) ∧ v5 = .int .i64 (i : Int) ∧ v4 = .slice (some ⟨gw, 0, none⟩) p n ∧ p ≤ n ∧ wr.rowIs gw 25 n (fun j => .int .u16 (if j < p then ((bsum BL j i : Nat) : Int) else 0)) ∧ Kept w1 wr (fun k => k = gw) ∧ Below w.heap.size w wr)
  case atStart => exact ⟨0, 1, rfl, Nat.zero_le _, ⟨rfl⟩, rfl, rfl, hn0, RW.out.congr (fun j _ => by by_cases e : j < 1; (· rw [if_pos e]; rfl); (· rw [if_neg e])), K2.out, B2.out⟩
  case round =>
    obtain ⟨i, p, rfl, hi, HP, rfl, rfl, hpn, hR, hK, hB⟩ := hrel
    clear RW K2 B2
    have R1 := Aside0.mk hR
    have K1 := Aside0.mk hK
    have B3 := Aside0.mk hB
    clear hR hK hB
    by_cases hlt : i < r
    · have hp2 : 2 * p ≤ n := by
        rw [HP.out, HNr.out, show 2 * 2 ^ i = 2 ^ (i + 1) by rw [Nat.pow_succ]; omega]
        exact Nat.pow_le_pow_right (by decide) (by omega)
      have hib : i < (BI 16).length := by rw [BI_len]; omega
      have R2 : Aside0 (wr.rowIs gw 25 n (fun j => .int .u16 (if j < p then ((bsum BL j (i + 1) : Nat) : Int) else 0))) := ⟨R1.out.congr (fun j _ => by
        by_cases e : j < p
        · rw [if_pos e, if_pos e, bs_low (by rw [← HP.out]; exact e)]
        · rw [if_neg e, if_neg e])⟩
      clear R1
      go_wp2_with fail
      go_loopg [4, 7] p (fun kq v4 v7 wr => ∃ k : Nat, kq = p - k ∧ k ≤ p ∧ v7 = .int .i64 (k : Int) ∧ v4 = .slice (some ⟨gw, 0, none⟩) (p + k) n ∧ wr.rowIs gw 25 n (fun j => .int .u16 (if j < p + k then ((bsum BL j (i + 1) : Nat) : Int) else 0)) ∧ Kept w1 wr (fun k => k = gw) ∧ Below w.heap.size w wr)
      case atStart => exact ⟨0, rfl, Nat.zero_le _, rfl, rfl, R2.out, K1.out, B3.out⟩
      case round =>
        obtain ⟨k, rfl, hk, rfl, rfl, hR, hK, hB⟩ := hrel
        have R3 := Aside0.mk hR
        have K3 := Aside0.mk hK
        have B4 := Aside0.mk hB
        clear hR hK hB R2 K1 B3
        by_cases hkp : k < p
        · have c1 := R3.out.cell (i := k) (by omega)
          rw [if_pos (by omega)] at c1
          have hw2b : ab.block < w1.heap.size := World.block_lt_of_cell? w1 _ (by have := HAB.out 0 (by decide); rwa [Addr.add_zero'] at this)
          have c2 : wr.cell? (ab.add i) = some (.int .u16 ((BI 16).getD i 0)) := by
            refine cell_kept (HAB.out i hib) K3.out ?_
            have := HGW.out
            show ¬ (ab.add i).block = gw
            have e : (ab.add i).block = ab.block := by unfold Addr.add; split <;> rfl
            omega
          rw [BI_getD (by rw [BI_len] at hib; exact hib)] at c2
          obtain ⟨x, hx⟩ : ∃ x, x = bsum BL k (i + 1) := ⟨_, rfl⟩
          obtain ⟨b, hb⟩ : ∃ b, b = BL.getD i 0 := ⟨_, rfl⟩
          rw [← hx] at c1
          rw [← hb] at c2
          have x1 : x < 65536 := by rw [hx]; exact bsum_lt _ (getD_lt (by decide)) _ _
          have b1 : b < 65536 := by rw [hb]; exact BL_lt i
          have hxr : Go.bits .xor .u16 (x : Int) (b : Int) = ((x ^^^ b : Nat) : Int) := bits_xor16 x1 b1
          obtain ⟨y, hy⟩ : ∃ y, y = x ^^^ b := ⟨_, rfl⟩
          rw [← hy] at hxr
          have HY : Aside0 (y = bsum BL (p + k) (i + 1)) := ⟨by
            rw [hy, hx, hb, HP.out, bs_high (by rw [← HP.out]; exact hkp), bs_low (by rw [← HP.out]; exact hkp)]⟩
          clear hx hb hy
          go_wp2_with fail
          obtain ⟨q, hq⟩ : ∃ q, q = p + k := ⟨_, rfl⟩
          have hqn : q < n := by omega
          have b0 : (0 : Int) ≤ (k : Int) := by omega
          have b1 : (k : Int) < (q : Int) := by omega
          have b2 : (0 : Int) ≤ (i : Int) := by omega
          have b3 : (i : Int) < 16 := by rw [BI_len] at hib; omega
          have HQ := Aside0.mk hq
          rw [BI_len, ← hq]
          clear hq
          have HN := Aside0.mk (show ∀ j u, ([Value.int .u16 (y : Int)] : List Value)[j]? = some u → ((wr.alloc (.cells #[.int .u16 (y : Int)] 25)).drew).cell? ((⟨wr.heap.size, 0, none⟩ : Addr).add j) = some u from fun j u hj => by
            match j, hj with
            | 0, hj => simp at hj; subst hj; simp [Addr.add])
          have HS := Aside0.mk (show ∀ j, j < ([Value.int .u16 (y : Int)] : List Value).length → (((wr.alloc (.cells #[.int .u16 (y : Int)] 25)).drew).cell? ⟨gw, 0 + q * 1 + j, none⟩).isSome = true ∧ ((wr.alloc (.cells #[.int .u16 (y : Int)] 25)).drew).frozen? ⟨gw, 0 + q * 1 + j, none⟩ = false from fun j hj => by
            have hr := rowAlloc R3.out (.cells #[.int .u16 (y : Int)] 25)
            have : j = 0 := by simpa using hj
            subst this
            rw [show 0 + q * 1 + 0 = q by omega]
            exact ⟨by rw [World.cell?_drew, hr.cell (by omega)]; rfl, by rw [World.frozen?_drew]; exact hr.frozen _⟩)
          have hgw0 := R3.out.lt
          have R4 := Aside0.mk ((((rowAlloc R3.out (.cells #[.int .u16 (y : Int)] 25)).of_block (w' := (wr.alloc (.cells #[.int .u16 (y : Int)] 25)).drew) rfl).set q (.int .u16 (y : Int))).congr (g := fun j => .int .u16 (if j < p + (k + 1) then ((bsum BL j (i + 1) : Nat) : Int) else 0)) (fun j hj => by
            have hq := HQ.out
            by_cases e : j = q
            · rw [if_pos e, if_pos (by omega), HY.out, e, hq]
            · rw [if_neg e]
              have : j < p + k ↔ j < p + (k + 1) := by omega
              simp only [this]))
          have K4 := Aside0.mk ((show Kept w1 (wr.alloc (.cells #[.int .u16 (y : Int)] 25)).drew (fun k => k = gw) from ⟨(K3.out.alloc (.cells #[.int .u16 (y : Int)] 25)).1, (K3.out.alloc (.cells #[.int .u16 (y : Int)] 25)).2⟩).setCell (p := ⟨gw, q, none⟩) (.inl rfl) (.int .u16 (y : Int)))
          have B5 := Aside0.mk (((B4.out.alloc B4.out.size (.cells #[.int .u16 (y : Int)] 25)).drew).setCell (p := ⟨gw, q, none⟩) (by have := HGW.out; have := B1.out.size; show w.heap.size ≤ gw; omega) (.int .u16 (y : Int)))
          clear hgw0
          go_region_law (refine step_append_room rfl (.tmp 25) (.tmp 35) 48 rfl 25 i33 1 Try.underlying48 hi33 hs33 gw 0 q n (by simp [Act.eval, Act.put]) ⟨wr.heap.size, 0, none⟩ 1 1 [.int .u16 (y : Int)] (by simp [Act.eval, Act.put]) rfl HN.out (by simp [Value.oneCell']) (by omega) HS.out ?_)
          all_goals
            go_wp2_with fail
            go_roundg (p - (k + 1))
            case measure => omega
            case rel => exact ⟨k + 1, rfl, by omega, by go_num, by rw [show p + (k + 1) = q + 1 by have := HQ.out; omega], R4.out, K4.out, B5.out⟩
        · have hkk : k = p := by omega
          subst hkk
          go_wp2_with fail
          go_roundg (r - (i + 1))
          case measure => omega
          case rel => exact ⟨i + 1, k + k, rfl, by omega, ⟨by rw [Nat.pow_succ, ← HP.out]; omega⟩, by go_num, rfl, by omega, R3.out, K3.out, B4.out⟩
    · have hir : i = r := by omega
      subst hir
      have hpn' : p = n := by rw [HP.out, HNr.out]
      subst hpn'
      have R5 : Aside0 (wr.rowIs gw 25 p (fun j => .int .u16 ((wel j : Nat) : Int))) := ⟨R1.out.congr (fun j hj => by rw [if_pos hj, bs_wel hr (by rw [← HP.out]; exact hj)])⟩
      clear R1
      go_wp2_with fail
      go_ret
      exact ⟨gw, rfl, R5.out, by have := HGW.out; have := B1.out.size; omega, B3.out⟩
theorem culletref03_ElementsTo.calls (a0 : Int) (r : List Int) (w : World) (h : culletref03_ElementsTo.f a0 = some r) :
    Calls Try.prog 76 #[.int .i64 a0] w fun e w' => ∃ v0_ : Value, e = .returned (v0_) ∧ Kd.R (Kd.int .u16) 25 w' w.heap.size (fun _ => True) v0_ r ∧ Below w.heap.size w w' := by
  unfold culletref03_ElementsTo.f at h
  by_cases h0 : 0 ≤ a0 ∧ a0 ≤ 16
  · rw [if_pos h0] at h
    obtain ⟨n, rfl⟩ := Int.eq_ofNat_of_zero_le h0.1
    obtain rfl := Option.some.inj h
    have hp : 2 ^ n ≤ 2 ^ 16 := Nat.pow_le_pow_right (by decide) (by omega)
    refine (elements_row n (by omega) w).mono ?_
    rintro e w' ⟨g, rfl, hr, hg, hB⟩
    exact ⟨_, rfl, rowR hr hg (Nat.le_trans hp (by decide)) trivial, hB⟩
  · rw [if_neg h0] at h; exact absurd h (by simp)
end Go.Proofs.Ytedaifgbnojojaa.A
