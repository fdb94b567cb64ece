import Derived.Test.YtklkcenffajfeaaH5
namespace Go.Proofs.Ytklkcenffajfeaa.A
open Go.RowKit Go.Deep Go.Proofs.YtklkcenffajfeaaW.PrintWords Go.Proofs.YtklkcenffajfeaaW.PrintLast Go.Proofs.YtklkcenffajfeaaW.PrintMore WH
set_option linter.unusedVariables false
set_option linter.unusedSimpArgs false
theorem lgE_md (i : Nat) : md (lgE i) = lgE i := by
  unfold lgE
  by_cases h : i = 0
  · rw [if_pos h]; rfl
  · rw [if_neg h]
    have := (log_ev (GP.wel_lt i)).1
    exact md_of (by omega) (by omega)
/-- Numbers that came in, at an address. -/
theorem nums_get {W : World} {A : Option Addr} {l : List Int} (h : (Kd.int .i64).C W A l.length l) (hp : 0 < l.length) : ∃ ad, A = some ad ∧ ∀ j, j < l.length → W.cell? (ad.add j) = some (.int .i64 (l.getD j 0)) := by
  obtain ⟨_, _, h3⟩ := h
  obtain ⟨ad, e, hc⟩ := h3 hp
  refine ⟨ad, e, fun j hj => ?_⟩
  obtain ⟨c, hl, hK, hcell⟩ := hc j _ (List.getElem?_eq_getElem hj)
  have hK' : c = [.int .i64 l[j]] := hK
  subst hK'
  have := hcell 0 _ rfl
  rw [List.getD_eq_getElem?_getD, List.getElem?_eq_getElem hj]
  rw [show j * (Kd.int .i64).sz + 0 = j from by simp [Kd.int, Kd.scalar]] at this
  exact this
/-- Logs. -/
def walsh_Logs.f (a0 : Int) : Option (List Int × Int) := if 0 ≤ a0 ∧ a0 ≤ 16 then some (lst (2 ^ a0.toNat) lgE, 0) else some ([], 7)
set_option maxHeartbeats 4000000 in
set_option maxRecDepth 100000 in
theorem walsh_Logs.calls (a0 : Int) (r1 : List Int) (r2 : Int) (w : World) (h : walsh_Logs.f a0 = some (r1, r2)) :
    Calls Try.prog 20 #[.int .i64 a0] w fun e w' => ∃ v0_ : Value, e = .returned (.tuple #[v0_, .int .i64 r2]) ∧ Kd.R (Kd.int .u16) 33 w' w.heap.size (fun _ => True) v0_ r1 ∧ Below w.heap.size w w' := by
  unfold walsh_Logs.f at h
  by_cases hr : 0 ≤ a0 ∧ a0 ≤ 16
  · rw [if_pos hr] at h
    have h' := Option.some.inj h
    simp only [Prod.mk.injEq] at h'
    obtain ⟨rfl, rfl⟩ := h'
    obtain ⟨h0, h1⟩ := hr
    obtain ⟨r, rfl⟩ := Int.eq_ofNat_of_zero_le h0
    rw [Int.toNat_natCast]
    clear h
    go_enter Try.func20, Try.ntmps20
    go_wp2_with fail
    refine (gf16_New.calls w _ (Below.refl _ _) rfl).mono ?_
    rintro e w1 ⟨gt, rfl, hI, hB, -⟩
    have I1 : Aside0 (IsS69 w1 w1 gt) := ⟨hI⟩
    have B1 := Aside0.mk hB
    clear hI hB
    go_wp2_with fail
    refine (logs_wd gt r (by omega) _ I1.out).mono ?_
    rintro e w2 ⟨g, rfl, hR, hge, hB⟩
    have R2 := Aside0.mk (show Wd w2 w.heap.size (fun _ => True) g (2 ^ r) (2 ^ r) lgE from by unfold Wd at hR ⊢; exact Kd.R_lower hR B1.out.size)
    have B2 := Aside0.mk (B1.out.trans (hB.mono B1.out.size))
    clear hR hge hB
    go_wp2
    go_ret2
    exact ⟨_, rfl, R2.out, B2.out⟩
  · rw [if_neg hr] at h
    obtain ⟨rfl, rfl⟩ : r1 = [] ∧ r2 = 7 := by
      have := Option.some.inj h
      simp only [Prod.mk.injEq] at this
      exact ⟨this.1.symm, this.2.symm⟩
    have HR := Aside0.mk hr
    clear h hr
    go_enter Try.func20, Try.ntmps20
    go_wp2_with fail
    all_goals first
      | (go_ret2; exact ⟨_, rfl, Kd.R_nil _ _ _ _ _, Below.refl _ _⟩)
      | (exfalso; apply HR.out; constructor <;> omega)
/-- Are the lost numbers rising, below n? -/
def losB (n : Nat) (l : List Int) : Bool := (List.range l.length).all fun i => decide (0 ≤ l.getD i 0) && decide (l.getD i 0 < (n : Int)) && (decide (i = 0) || decide (l.getD (i - 1) 0 < l.getD i 0))
theorem losB_iff {n : Nat} {l : List Int} : losB n l = true ↔ ∀ i, i < l.length → 0 ≤ l.getD i 0 ∧ l.getD i 0 < (n : Int) ∧ (i = 0 ∨ l.getD (i - 1) 0 < l.getD i 0) := by
  unfold losB
  simp only [List.all_eq_true, List.mem_range, Bool.and_eq_true, Bool.or_eq_true, decide_eq_true_eq]
  exact ⟨fun h i hi => ⟨(h i hi).1.1, (h i hi).1.2, (h i hi).2⟩, fun h i hi => ⟨⟨(h i hi).1, (h i hi).2.1⟩, (h i hi).2.2⟩⟩
/-- A mark for each of the first k lost numbers. -/
def mk (l : List Int) (k j : Nat) : Int := if (l.take k).any (fun x => x == (j : Int)) then 1 else 0
theorem mk_zero (l : List Int) (j : Nat) : mk l 0 j = 0 := rfl
theorem mk_succ {l : List Int} {k a : Nat} (hk : k < l.length) (ha : l.getD k 0 = (a : Int)) (j : Nat) : mk l (k + 1) j = if j = a then 1 else mk l k j := by
  unfold mk
  rw [List.take_succ_eq_append_getElem hk, List.any_append]
  have e : l[k] = (a : Int) := by rw [List.getD_eq_getElem?_getD, List.getElem?_eq_getElem hk] at ha; exact ha
  rw [e]
  by_cases h : j = a
  · subst h; simp
  · have : ((a : Int) == (j : Int)) = false := beq_eq_false_iff_ne.2 (by omega)
    rw [if_neg h]
    simp [this]
theorem mk_md (l : List Int) (k j : Nat) : md (mk l k j) = mk l k j := by
  unfold mk; split <;> rfl
/-- The locator's logarithms. -/
def locL (l : List Int) (r i : Nat) : Int := md (cv r (mk l l.length) lgE i)
def walsh_locator.f (l : List Int) (a0 : Int) : Option (List Int × Int) := if 0 ≤ a0 ∧ a0 ≤ 16 then (if losB (2 ^ a0.toNat) l = true then (if l.length ≤ 65536 then some (lst (2 ^ a0.toNat) (locL l a0.toNat), 0) else none) else (if l.length ≤ 1152921504606846976 then some ([], 31) else none)) else some ([], 7)
theorem pwB_pow {r : Nat} (hr : r ≤ 16) : pwB (2 ^ r) = true ∧ Nat.log2 (2 ^ r) = r := by
  have : ∀ r : Fin 17, pwB (2 ^ r.val) = true ∧ Nat.log2 (2 ^ r.val) = r.val := by decide +kernel
  exact this ⟨r, by omega⟩
set_option maxHeartbeats 4000000 in
set_option maxRecDepth 100000 in
theorem locator_wd (gt : Nat) (A1 : Option Addr) (c1 : Nat) (l : List Int) (a0 : Int) (r1 : List Int) (r2 : Int) (w : World) (hI : IsS69 w w gt) (hr1 : Kd.C (Kd.int .i64) w A1 l.length l) (h : walsh_locator.f l a0 = some (r1, r2)) :
    Calls Try.prog 49 #[.pointer (some ⟨gt, 0, none⟩), .slice A1 l.length c1, .int .i64 a0] w fun e w' => ∃ v0_ : Value, e = .returned (.tuple #[v0_, .int .i64 r2]) ∧ Kd.R (Kd.int .u16) 33 w' w.heap.size (fun _ => True) v0_ r1 ∧ Below w.heap.size w w' := by
  unfold walsh_locator.f at h
  by_cases hr : 0 ≤ a0 ∧ a0 ≤ 16
  · rw [if_pos hr] at h
    obtain ⟨h0, h1⟩ := hr
    obtain ⟨r, rfl⟩ := Int.eq_ofNat_of_zero_le h0
    rw [Int.toNat_natCast] at h
    have hr16 : r ≤ 16 := by omega
    obtain ⟨n, hn⟩ : ∃ n, n = 2 ^ r := ⟨_, rfl⟩
    have hsh : wrap64 (2 ^ r) = (n : Int) := by rw [hn]; exact pow_wrap hr16
    have hn0 : 1 ≤ n := by rw [hn]; exact Nat.two_pow_pos _
    have hn1 : n ≤ 65536 := by rw [hn]; exact Nat.pow_le_pow_right (by decide) hr16
    rw [← hn] at h
    have HNr := Aside0.mk hn
    have HI := Aside0.mk hI
    have H1 := Aside0.mk hr1
    have hlen : l.length ≤ 1152921504606846976 := by
      by_cases e : losB n l = true
      · rw [if_pos e] at h
        by_cases e2 : l.length ≤ 65536
        · omega
        · rw [if_neg e2] at h; exact absurd h (by simp)
      · rw [if_neg e] at h
        by_cases e2 : l.length ≤ 1152921504606846976
        · exact e2
        · rw [if_neg e2] at h; exact absurd h (by simp)
    have HL : Aside0 (0 < l.length → ∃ ad, A1 = some ad ∧ ∀ j, j < l.length → w.cell? (ad.add j) = some (.int .i64 (l.getD j 0))) := ⟨fun hp => nums_get hr1 hp⟩
    have he := Aside0.mk h
    clear hn hI hr1 h h0 h1
    go_enter Try.func49, Try.ntmps49
    go_wp2_with fail
    go_loopg [8, 9, 21] l.length (fun kq v8 v9 v21 wr => ∃ k : Nat, kq = l.length - k ∧ k ≤ l.length ∧ v21 = .int .i64 (k : Int) ∧ wr = w ∧ Aside0 (∀ i, i < k → 0 ≤ l.getD i 0 ∧ l.getD i 0 < (n : Int) ∧ (i = 0 ∨ l.getD (i - 1) 0 < l.getD i 0)))
    case atStart => exact ⟨0, rfl, Nat.zero_le _, rfl, rfl, ⟨fun i hi => by omega⟩⟩
    case round =>
      obtain ⟨k, rfl, hk, rfl, rfl, HP⟩ := hrel
      by_cases hlt : k < l.length
      · obtain ⟨ad, rfl, hc⟩ := HL.out (by omega)
        have q1 := hc k hlt
        obtain ⟨x, hx⟩ : ∃ x, x = l.getD k 0 := ⟨_, rfl⟩
        rw [← hx] at q1
        have HX := Aside0.mk hx
        have bad : ¬ (0 ≤ x ∧ x < (n : Int) ∧ (k = 0 ∨ l.getD (k - 1) 0 < x)) → r1 = [] ∧ r2 = 31 := fun hb => by
          have hno : ¬ losB n l = true := fun hh => by
            have := losB_iff.1 hh k hlt
            rw [← HX.out] at this
            exact hb this
          have := he.out
          rw [if_neg hno, if_pos hlen] at this
          have := Option.some.inj this
          simp only [Prod.mk.injEq] at this
          exact ⟨this.1.symm, this.2.symm⟩
        have BAD := Aside0.mk bad
        by_cases k0 : k = 0
        · have K0 := Aside0.mk k0
          have hb1 : decide ((0 : Int) < (k : Int)) = false := decide_eq_false (by omega)
          have hb2 : decide (0 < k) = false := decide_eq_false (by omega)
          by_cases hg : 0 ≤ x ∧ x < (n : Int)
          · obtain ⟨g1, g2⟩ := hg
            clear hc hx bad k0
            go_wp2
            go_roundg (l.length - (k + 1))
            case measure => have := K0.out; omega
            case rel => exact ⟨k + 1, rfl, by omega, by go_num, rfl, ⟨fun i hi => by
              have : i = k := by have := K0.out; omega
              subst this
              rw [← HX.out]; exact ⟨g1, g2, .inl K0.out⟩⟩⟩
          · have HG := Aside0.mk hg
            obtain ⟨rfl, rfl⟩ := bad (fun h => hg ⟨h.1, h.2.1⟩)
            clear hc hx bad hg k0
            go_wp2_with fail
            all_goals first
              | (go_ret2; exact ⟨_, rfl, Kd.R_nil _ _ _ _ _, Below.refl _ _⟩)
              | (exfalso; apply HG.out; constructor <;> omega)
        · obtain ⟨m, hm⟩ : ∃ m, k = m + 1 := ⟨k - 1, by omega⟩
          have HM := Aside0.mk hm
          have q2 := hc m (by omega)
          have hz : (k : Int) - 1 = (m : Int) := by omega
          have hk0 : 0 < k := by omega
          have hml : m < l.length := by omega
          obtain ⟨y, hy⟩ : ∃ y, y = l.getD m 0 := ⟨_, rfl⟩
          rw [← hy] at q2
          have HY := Aside0.mk hy
          have hkm : k - 1 = m := by omega
          rw [hkm, ← hy] at bad
          by_cases hg : 0 ≤ x ∧ x < (n : Int) ∧ y < x
          · obtain ⟨g1, g2, g3⟩ := hg
            clear hc hx hy bad k0 hm BAD hkm
            go_wp2
            go_roundg (l.length - (k + 1))
            case measure => omega
            case rel => exact ⟨k + 1, rfl, by omega, by go_num, rfl, ⟨fun i hi => by
              by_cases e : i = k
              · subst e
                rw [← HX.out, show i - 1 = m by have := HM.out; omega, ← HY.out]; exact ⟨g1, g2, .inr g3⟩
              · exact HP.out i (by omega)⟩⟩
          · have HG := Aside0.mk hg
            obtain ⟨rfl, rfl⟩ := bad (fun h => hg ⟨h.1, h.2.1, by rcases h.2.2 with e | e; (· omega); (· exact e)⟩)
            clear hc hx hy bad hg k0 hm BAD hkm
            go_wp2_with fail
            all_goals first
              | (go_ret2; exact ⟨_, rfl, Kd.R_nil _ _ _ _ _, Below.refl _ _⟩)
              | (exfalso; apply HG.out; refine ⟨?_, ?_, ?_⟩ <;> omega)
      · have hkl : k = l.length := by omega
        subst hkl
        have hyes : losB n l = true := losB_iff.2 HP.out
        have he' := he.out
        rw [if_pos hyes] at he'
        have hle : l.length ≤ 65536 := by
          by_cases e2 : l.length ≤ 65536
          · exact e2
          · rw [if_neg e2] at he'; exact absurd he' (by simp)
        rw [if_pos hle] at he'
        have h' := Option.some.inj he'
        simp only [Prod.mk.injEq] at h'
        obtain ⟨rfl, rfl⟩ := h'
        have hmk := run_make_row' (P := Try.prog) 22 33 (.int .u16 0) 2 Try.underlying22 info33' rfl .i64 .i64 n (by omega) (by omega)
        have R0 := Aside0.mk (wd_made wr (base := wr.heap.size) (n := n) (Nat.le_refl _) (by unfold maxLen; omega))
        have B0 := Aside0.mk ((Below.refl wr.heap.size wr).alloc (Nat.le_refl _) (.cells (madeCells #[.int .u16 0] n) 33))
        clear he' hyes hlt hk
        go_wp2_with fail
        clear hmk
        obtain ⟨w0, hw0⟩ : ∃ w0, w0 = wr := ⟨_, rfl⟩
        subst hw0
        obtain ⟨gm, hgm⟩ : ∃ gm, gm = w0.heap.size := ⟨_, rfl⟩
        have HGM := Aside0.mk hgm
        rw [← hgm]
        rw [← hgm] at R0
        have B1 : Aside0 (Below w0.heap.size w0 (w0.alloc (.cells (madeCells #[.int .u16 0] n) 33))) := ⟨B0.out⟩
        have R1 : Aside0 (Wd (w0.alloc (.cells (madeCells #[.int .u16 0] n) 33)) w0.heap.size (fun _ => True) gm n n (mk l 0)) := ⟨by
          rw [← hgm]; exact R0.out.congr (fun j _ => by rw [mk_zero])⟩
        clear R0 B0 hgm
        generalize w0.alloc (.cells (madeCells #[.int .u16 0] n) 33) = W1 at B1 R1 ⊢
        go_loopg [12, 53] l.length (fun kq v12 v53 wr => ∃ k : Nat, kq = l.length - k ∧ k ≤ l.length ∧ v53 = .int .i64 (k : Int) ∧ Wd wr w0.heap.size (fun _ => True) gm n n (mk l k) ∧ Below w0.heap.size w0 wr)
        case atStart => exact ⟨0, rfl, Nat.zero_le _, rfl, R1.out, B1.out⟩
        case round =>
          obtain ⟨k, rfl, hk, rfl, hR, hB⟩ := hrel
          have R2 := Aside0.mk hR
          have B2 := Aside0.mk hB
          clear hR hB R1 B1
          by_cases hlt : k < l.length
          · obtain ⟨ad, rfl, hc⟩ := HL.out (by omega)
            have q1 := pw_cell_below B2.out (hc k hlt)
            obtain ⟨g1, g2, -⟩ := HP.out k hlt
            obtain ⟨a, ha⟩ := Int.eq_ofNat_of_zero_le g1
            rw [ha] at q1 g2
            have HA := Aside0.mk ha
            have han : a < n := by omega
            obtain ⟨c3, f3⟩ := R2.out.at_ han
            clear hc g1 g2 ha
            go_wp2
            have R3 := (R2.out.put a 1).congr (G := mk l (k + 1)) (fun j hj => (mk_succ hlt HA.out j).symm)
            go_roundg (l.length - (k + 1))
            case measure => omega
            case rel => exact ⟨k + 1, rfl, by omega, by go_num, R3, B2.out.setCell (p := ⟨gm, a, none⟩) (by rw [HGM.out]; exact Nat.le_refl _) _⟩
          · have hkl : k = l.length := by omega
            subst hkl
            have I3 : Aside0 (IsS69 wr wr gt) := ⟨IsS69.below HI.out B2.out⟩
            clear hlt hk
            go_wp2_with fail
            refine (logs_wd gt r hr16 _ I3.out).mono ?_
            rintro e w3 ⟨gh, rfl, hR3, hge, hB3⟩
            have hgl := R2.out.lt hn0
            have hpw := pwB_pow hr16
            rw [← HNr.out] at hpw
            have RA : Wd w3 w0.heap.size (fun _ => True) gm n n (fun j => md (mk l l.length j)) := (R2.out.block (hB3.block gm hgl)).congr (fun j _ => (mk_md _ _ _).symm)
            have RB : Wd w3 w0.heap.size (fun _ => True) gh n n (fun j => md (lgE j)) := by
              rw [← HNr.out] at hR3
              refine Wd.congr ?_ (fun j _ => (lgE_md j).symm)
              unfold Wd at hR3 ⊢
              exact Kd.R_lower hR3 B2.out.size
            have hcall := convolved_wd hpw.1 (mk l l.length) lgE gm gh n n _ _ w0 w3 (B2.out.trans (hB3.mono B2.out.size)) (by omega) (by rw [HGM.out]; exact Nat.le_refl _) (Nat.le_trans B2.out.size hge) RA RB
            rw [hpw.2] at hcall
            have HC := Aside0.mk hcall
            clear hR3 hge hB3 hgl hpw RA RB hcall R2 B2 I3
            rw [← HNr.out]
            go_wp2_with fail
            refine HC.out.mono ?_
            rintro e w4 ⟨rfl, hR4, hB4⟩
            have R4 := Aside0.mk hR4
            have B4 := Aside0.mk hB4
            clear hR4 hB4 HC
            go_wp2
            go_ret2
            exact ⟨_, rfl, R4.out, B4.out⟩
  · rw [if_neg hr] at h
    obtain ⟨rfl, rfl⟩ : r1 = [] ∧ r2 = 7 := by
      have := Option.some.inj h
      simp only [Prod.mk.injEq] at this
      exact ⟨this.1.symm, this.2.symm⟩
    have HR := Aside0.mk hr
    clear h hr
    go_enter Try.func49, Try.ntmps49
    go_wp2_with fail
    all_goals first
      | (go_ret2; exact ⟨_, rfl, Kd.R_nil _ _ _ _ _, Below.refl _ _⟩)
      | (exfalso; apply HR.out; constructor <;> omega)
end Go.Proofs.Ytklkcenffajfeaa.A
