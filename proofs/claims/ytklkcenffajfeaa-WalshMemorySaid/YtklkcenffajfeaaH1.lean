import Derived.Test.YtklkcenffajfeaaAx0
import Derived.Test.YtklkcenffajfeaaWKept
import Derived.Test.YtklkcenffajfeaaWMore
import Derived.Test.YtklkcenffajfeaaWalshMath
import Derived.Outline
import Derived.StillTailTactics
import Derived.BigQuiet
import Derived.Deep.QuietTactic
namespace Go.Proofs.Ytklkcenffajfeaa.A
open Go.RowKit Go.Deep Go.Proofs.YtklkcenffajfeaaW.PrintWords Go.Proofs.YtklkcenffajfeaaW.PrintLast Go.Proofs.YtklkcenffajfeaaW.PrintMore WH
set_option linter.unusedVariables false
set_option linter.unusedSimpArgs false
/-- The list of the values of F at 0 to n - 1. -/
def lst (n : Nat) (F : Nat → Int) : List Int := (List.range n).map F
theorem lst_len (n : Nat) (F : Nat → Int) : (lst n F).length = n := by simp [lst]
theorem lst_get {n j : Nat} (h : j < n) (F : Nat → Int) : (lst n F)[j]? = some (F j) := by simp [lst, h]
theorem lst_getD {n j : Nat} (h : j < n) (F : Nat → Int) (d : Int) : (lst n F).getD j d = F j := by rw [List.getD_eq_getElem?_getD, lst_get h]; rfl
theorem lst_congr {n : Nat} {F G : Nat → Int} (h : ∀ j, j < n → F j = G j) : lst n F = lst n G := by
  unfold lst; exact List.map_congr_left (fun j hj => h j (List.mem_range.1 hj))
theorem lst_set {n j : Nat} (F : Nat → Int) (v : Int) : (lst n F).set j v = lst n (fun a => if a = j then v else F a) := by
  apply List.ext_getElem?
  intro i
  rw [List.getElem?_set, lst_len]
  by_cases hi : i < n
  · rw [lst_get hi, lst_get hi]
    by_cases e : j = i
    · subst e; simp [hi]
    · simp [e, Ne.symm e, fun h : i = j => e h.symm]
  · have h1 : ∀ G, (lst n G)[i]? = none := fun G => List.getElem?_eq_none (by rw [lst_len]; omega)
    rw [h1, h1]
    by_cases e : j = i
    · subst e; simp [hi]
    · simp [e]
theorem lst_of (l : List Int) : l = lst l.length (fun j => l.getD j 0) := by
  apply List.ext_getElem?
  intro i
  by_cases hi : i < l.length
  · rw [lst_get hi, List.getElem?_eq_getElem hi, List.getD_eq_getElem?_getD, List.getElem?_eq_getElem hi]; rfl
  · rw [List.getElem?_eq_none (by omega), List.getElem?_eq_none (by rw [lst_len]; omega)]
/-- A row of 16-bit words of the call's own, at block g: its values are F's. -/
def Wd (W : World) (base : Nat) (ok : Nat → Prop) (g n cap : Nat) (F : Nat → Int) : Prop := Kd.R (Kd.int .u16) 33 W base ok (.slice (some ⟨g, 0, none⟩) n cap) (lst n F)
namespace Wd
variable {W : World} {base g n cap : Nat} {ok : Nat → Prop} {F : Nat → Int}
theorem at_ (h : Wd W base ok g n cap F) {j : Nat} (hj : j < n) : W.cell? ⟨g, j, none⟩ = some (.int .u16 (F j)) ∧ W.frozen? ⟨g, j, none⟩ = false := by
  have h' : (Kd.scalar (Value.int .u16) (fun _ => rfl)).R 33 W base ok (.slice (some ⟨g, 0, none⟩) (lst n F).length cap) (lst n F) := by rw [lst_len]; exact h
  have := Kd.R_cell 0 h' (j : Int) (by omega) (by rw [lst_len]; omega)
  rw [Int.toNat_natCast] at this
  unfold rdOf at this
  rwa [Int.toNat_natCast, lst_getD hj] at this
theorem put (h : Wd W base ok g n cap F) (j : Nat) (v : Int) : Wd (W.setCell ⟨g, j, none⟩ (.int .u16 v)) base ok g n cap (fun a => if a = j then v else F a) := by
  have h' : (Kd.scalar (Value.int .u16) (fun _ => rfl)).R 33 W base ok (.slice (some ⟨g, 0, none⟩) (lst n F).length cap) (lst n F) := by rw [lst_len]; exact h
  have := (Kd.R_put h' (j : Int) v).1
  rw [Int.toNat_natCast, lst_len, lst_set] at this
  exact this
theorem congr {G : Nat → Int} (h : Wd W base ok g n cap F) (e : ∀ j, j < n → F j = G j) : Wd W base ok g n cap G := by
  unfold Wd at h ⊢; rwa [← lst_congr e]
theorem drewN (h : Wd W base ok g n cap F) (m : Nat) : Wd (W.drewN m) base ok g n cap F := Kd.R_drewN h m
theorem mono {ok' : Nat → Prop} (h : Wd W base ok g n cap F) (hk : ∀ k, ok k → ok' k) : Wd W base ok' g n cap F := Kd.R_mono h hk
end Wd
/-- Lists whose length is a power of two up to 65536, with numbers below 65535. -/
def gdL (l : List Int) : Bool := decide (l.length = 2 ^ Nat.log2 l.length) && decide (l.length ≤ 65536) && l.all fun x => decide (0 ≤ x) && decide (x < 65535)
theorem gdL_iff {l : List Int} : gdL l = true ↔ (l.length = 2 ^ Nat.log2 l.length ∧ l.length ≤ 65536 ∧ ∀ j, j < l.length → 0 ≤ l.getD j 0 ∧ l.getD j 0 < 65535) := by
  unfold gdL
  simp only [Bool.and_eq_true, decide_eq_true_eq, List.all_eq_true]
  constructor
  · rintro ⟨⟨h1, h2⟩, h3⟩
    refine ⟨h1, h2, fun j hj => ?_⟩
    rw [List.getD_eq_getElem?_getD, List.getElem?_eq_getElem hj]
    exact h3 _ (List.getElem_mem hj)
  · rintro ⟨h1, h2, h3⟩
    refine ⟨⟨h1, h2⟩, fun x hx => ?_⟩
    obtain ⟨j, hj, rfl⟩ := List.getElem_of_mem hx
    have := h3 j hj
    rwa [List.getD_eq_getElem?_getD, List.getElem?_eq_getElem hj] at this
/-- turn: the transform modulo 65535. -/
def walsh_turn.f (l : List Int) : Option (List Int) := if gdL l = true then some (lst l.length (fun i => md (tr (Nat.log2 l.length) (fun j => l.getD j 0) i))) else none
/-- What stands in the row while a step at the distance d = 2^s is made: as far as from, and t pairs more. -/
def tmid (s d fr t : Nat) (v0 : Nat → Int) : Nat → Int := fun x => if x < fr + t ∨ (fr + d ≤ x ∧ x < fr + d + t) then md (bts (s + 1) v0 x) else md (bts s v0 x)
theorem bit_lo {s q t : Nat} (ht : t < 2 ^ s) : (2 * 2 ^ s * q + t).testBit s = false := by
  rw [Nat.testBit_eq_decide_div_mod_eq]
  have hp : 0 < 2 ^ s := Nat.two_pow_pos s
  have : (2 * 2 ^ s * q + t) / 2 ^ s = 2 * q := by
    rw [show 2 * 2 ^ s * q + t = t + 2 ^ s * (2 * q) by rw [Nat.mul_comm 2 (2 ^ s), Nat.mul_assoc]; omega, Nat.add_mul_div_left _ _ hp, Nat.div_eq_of_lt ht]; omega
  rw [this]; simp
theorem bit_hi {s q t : Nat} (ht : t < 2 ^ s) : (2 * 2 ^ s * q + 2 ^ s + t).testBit s = true := by
  rw [Nat.testBit_eq_decide_div_mod_eq]
  have hp : 0 < 2 ^ s := Nat.two_pow_pos s
  have : (2 * 2 ^ s * q + 2 ^ s + t) / 2 ^ s = 2 * q + 1 := by
    rw [show 2 * 2 ^ s * q + 2 ^ s + t = t + 2 ^ s * (2 * q + 1) by rw [Nat.mul_add, Nat.mul_comm 2 (2 ^ s), Nat.mul_assoc]; omega, Nat.add_mul_div_left _ _ hp, Nat.div_eq_of_lt ht]; omega
  rw [this]; simp
theorem tstep_lo {s q t : Nat} (ht : t < 2 ^ s) (v0 : Nat → Int) : md (bts (s + 1) v0 (2 * 2 ^ s * q + t)) = (md (bts s v0 (2 * 2 ^ s * q + t)) + md (bts s v0 (2 * 2 ^ s * q + t + 2 ^ s))) % 65535 := by
  show md (WH.bt s (bts s v0) _) = _
  unfold WH.bt
  rw [bit_lo ht, if_neg (by simp)]
  exact (md_add _ _).symm
theorem tstep_hi {s q t : Nat} (ht : t < 2 ^ s) (v0 : Nat → Int) : md (bts (s + 1) v0 (2 * 2 ^ s * q + t + 2 ^ s)) = (md (bts s v0 (2 * 2 ^ s * q + t)) + 65535 - md (bts s v0 (2 * 2 ^ s * q + t + 2 ^ s))) % 65535 := by
  show md (WH.bt s (bts s v0) _) = _
  unfold WH.bt
  rw [show 2 * 2 ^ s * q + t + 2 ^ s = 2 * 2 ^ s * q + 2 ^ s + t by omega, bit_hi ht, if_pos rfl, ← md_sub, show 2 * 2 ^ s * q + 2 ^ s + t - 2 ^ s = 2 * 2 ^ s * q + t by omega]
  unfold md; omega
set_option maxHeartbeats 4000000 in
set_option maxRecDepth 100000 in
theorem walsh_turn.calls (P0_ : Nat → Prop) (u9000_ : Value) (l0 : List Int) (r : List Int) (w0 w : World) (hB : Below w0.heap.size w0 w) (ho0 : Kd.R (Kd.int .u16) 33 w w0.heap.size P0_ u9000_ l0) (h : walsh_turn.f l0 = some r) :
    Calls Try.prog 38 #[u9000_] w fun e w' => e = .returned (.tuple #[]) ∧ Kd.R (Kd.int .u16) 33 w' w0.heap.size (fun k_ => (P0_ k_ ∨ w.heap.size ≤ k_)) u9000_ r ∧ Below w0.heap.size w0 w' ∧ Kept w w' (fun k_ => P0_ k_) := by
  unfold walsh_turn.f at h
  by_cases hg : gdL l0 = true
  · rw [if_pos hg] at h
    obtain rfl := Option.some.inj h
    obtain ⟨h1, h2, h3⟩ := gdL_iff.1 hg
    obtain ⟨A, cap, rfl⟩ := Kd.R_slice ho0
    have hpos : 0 < l0.length := by rw [h1]; exact Nat.two_pow_pos _
    obtain ⟨g, rfl⟩ : ∃ g, A = some ⟨g, 0, none⟩ := by
      obtain ⟨inner, -, ho⟩ := Kd.R_own ho0
      rcases ho with ⟨e, hz⟩ | ⟨g, cp, cur, e, -⟩
      · omega
      · injection e with e1; exact ⟨g, e1⟩
    have hokg : P0_ g := ho0.1 g (by simp [Value.ownBlock])
    have hbg : w0.heap.size ≤ g := by
      obtain ⟨inner, -, ho⟩ := Kd.R_own ho0
      rcases ho with ⟨e, hz⟩ | ⟨g', cp, cur, e, hge, -⟩
      · cases e
      · injection e with e1; injection e1 with e1; injection e1 with e1; omega
    have hR0 : Wd w w0.heap.size P0_ g l0.length cap (fun j => l0.getD j 0) := by unfold Wd; rw [← lst_of]; exact ho0
    obtain ⟨v0, hv0⟩ : ∃ v0, v0 = (fun j => l0.getD j 0) := ⟨_, rfl⟩
    obtain ⟨r, hr⟩ : ∃ r, r = Nat.log2 l0.length := ⟨_, rfl⟩
    obtain ⟨n, hn⟩ : ∃ n, n = l0.length := ⟨_, rfl⟩
    have hR1 : Wd w w0.heap.size P0_ g n cap (fun x => md (bts 0 v0 x)) := by
      rw [hn]
      refine hR0.congr (fun j hj => ?_)
      show l0.getD j 0 = md (v0 j)
      rw [hv0, md_of (h3 j hj).1 (h3 j hj).2]
    rw [← hv0, ← hr, ← hn]
    rw [← hr, ← hn] at h1
    rw [← hn] at h2 hpos
    have HN := Aside0.mk h1
    have R0 := Aside0.mk hR1
    have HK := Aside0.mk hokg
    have HG := Aside0.mk hbg
    have HB0 := Aside0.mk hB
    clear hR0 hR1 h1 h3 hg ho0 hv0 hr hn hokg hB
    have hr16 : r ≤ 16 := by
      have h1 := HN.out
      by_cases e : r ≤ 16
      · exact e
      · have := Nat.pow_le_pow_right (show 0 < 2 by decide) (show 17 ≤ r by omega)
        omega
    go_enter Try.func38, Try.ntmps38
    go_wp2
    go_loopg [2, 3, 4, 5, 6] r (fun kq v2 v3 v4 v5 v6 wr => ∃ s d : Nat, kq = r - s ∧ s ≤ r ∧ Aside0 (d = 2 ^ s) ∧ v2 = .int .i64 (d : Int) ∧ Wd wr w0.heap.size P0_ g n cap (fun x => md (bts s v0 x)) ∧ Below w0.heap.size w0 wr ∧ Kept w wr (fun k_ => P0_ k_))
    case atStart => exact ⟨0, 1, rfl, Nat.zero_le _, ⟨rfl⟩, rfl, R0.out, HB0.out, Kept.refl _ _⟩
    case round =>
      obtain ⟨s, d, rfl, hs, HD, rfl, hR, hB, hK⟩ := hrel
      have R1 := Aside0.mk hR
      have B1 := Aside0.mk hB
      have K1 := Aside0.mk hK
      clear hR hB hK R0 HB0
      by_cases hlt : s < r
      · have hdn : 2 * d ≤ n ∧ ∃ m, Aside0 (n = 2 * d * m) := by
          have h1 := HN.out
          have hD := HD.out
          have e : (2 : Nat) ^ r = 2 * 2 ^ s * 2 ^ (r - s - 1) := by
            rw [show (2 : Nat) * 2 ^ s = 2 ^ (s + 1) by rw [Nat.pow_succ]; omega, ← Nat.pow_add, show s + 1 + (r - s - 1) = r by omega]
          refine ⟨?_, 2 ^ (r - s - 1), ⟨by rw [h1, hD]; exact e⟩⟩
          rw [h1, hD, e]
          exact Nat.le_mul_of_pos_right _ (Nat.two_pow_pos _)
        obtain ⟨hdn, m, HM⟩ := hdn
        have hd0 : 0 < d := by rw [HD.out]; exact Nat.two_pow_pos _
        have hdlt : d < n := by omega
        go_wp2
        have R2 : Aside0 (Wd wr w0.heap.size P0_ g n cap (tmid s d 0 0 v0)) := ⟨R1.out.congr (fun j _ => by unfold tmid; rw [if_neg (by omega)])⟩
        clear R1
        go_loopg [3, 4, 5, 6] m (fun kq v3 v4 v5 v6 wr => ∃ q fr : Nat, kq = m - q ∧ q ≤ m ∧ Aside0 (fr = 2 * d * q) ∧ fr ≤ n ∧ v3 = .int .i64 (fr : Int) ∧ Wd wr w0.heap.size P0_ g n cap (tmid s d fr 0 v0) ∧ Below w0.heap.size w0 wr ∧ Kept w wr (fun k_ => P0_ k_))
        case atStart => exact ⟨0, 0, rfl, Nat.zero_le _, ⟨rfl⟩, Nat.zero_le _, rfl, R2.out, B1.out, K1.out⟩
        case round =>
          obtain ⟨q, fr, rfl, hq, HF, hfn, rfl, hR, hB, hK⟩ := hrel
          have R3 := Aside0.mk hR
          have B3 := Aside0.mk hB
          have K3 := Aside0.mk hK
          clear hR hB hK R2 B1 K1
          by_cases hqm : q < m
          · have hfd : fr + 2 * d ≤ n ∧ fr < n := by
              have e1 := HM.out
              have e2 := HF.out
              have : 2 * d * (q + 1) ≤ 2 * d * m := Nat.mul_le_mul_left _ hqm
              rw [Nat.mul_add, Nat.mul_one] at this
              omega
            obtain ⟨hfd, hfl⟩ := hfd
            go_wp2
            go_loopg [4, 5, 6] d (fun kq v4 v5 v6 wr => ∃ t i : Nat, kq = d - t ∧ t ≤ d ∧ Aside0 (i = fr + t) ∧ fr ≤ i ∧ i ≤ fr + d ∧ v4 = .int .i64 (i : Int) ∧ Wd wr w0.heap.size P0_ g n cap (tmid s d fr t v0) ∧ Below w0.heap.size w0 wr ∧ Kept w wr (fun k_ => P0_ k_))
            case atStart => exact ⟨0, fr, rfl, Nat.zero_le _, ⟨rfl⟩, Nat.le_refl _, by omega, rfl, R3.out, B3.out, K3.out⟩
            case round =>
              obtain ⟨t, i, rfl, ht, HI, hi1, hi2, rfl, hR, hB, hK⟩ := hrel
              have R4 := Aside0.mk hR
              have B4 := Aside0.mk hB
              have K4 := Aside0.mk hK
              clear hR hB hK R3 B3 K3
              by_cases htd : t < d
              · have hid : i < fr + d := by have := HI.out; omega
                obtain ⟨e, he⟩ : ∃ e, e = i + d := ⟨_, rfl⟩
                have hen : e < n := by omega
                have hin : i < n := by omega
                have hz : IntKind.i64.wrap ((i : Int) + (d : Int)) = (e : Int) := by rw [IntKind.wrap_i64]; omega
                obtain ⟨c1, f1⟩ := R4.out.at_ hin
                obtain ⟨c2, f2⟩ := R4.out.at_ hen
                obtain ⟨a, ha⟩ : ∃ a, a = tmid s d fr t v0 i := ⟨_, rfl⟩
                obtain ⟨b, hb⟩ : ∃ b, b = tmid s d fr t v0 e := ⟨_, rfl⟩
                rw [← ha] at c1
                rw [← hb] at c2
                have ea : a = md (bts s v0 i) := by rw [ha]; unfold tmid; rw [if_neg (by have := HI.out; omega)]
                have eb : b = md (bts s v0 e) := by rw [hb]; unfold tmid; rw [if_neg (by have := HI.out; omega)]
                have a0 : 0 ≤ a := by rw [ea]; exact md_ge _
                have a1 : a ≤ 65534 := by rw [ea]; have := md_lt (bts s v0 i); omega
                have b0 : 0 ≤ b := by rw [eb]; exact md_ge _
                have b1 : b ≤ 65534 := by rw [eb]; have := md_lt (bts s v0 e); omega
                have EA := Aside0.mk ea
                have EB := Aside0.mk eb
                have HE := Aside0.mk he
                have hne : e ≠ i := by omega
                have hne' : i ≠ e := by omega
                clear ha hb ea eb he
                go_wp2
                go_quiet (fail)
                go_wp2
                have eA : (a + b) % 65535 = md (bts (s + 1) v0 i) := by
                  have := tstep_lo (s := s) (q := q) (t := t) (by rw [← HD.out]; exact htd) v0
                  rw [← HD.out, ← HF.out, ← HI.out, ← HE.out, ← EA.out, ← EB.out] at this
                  exact this.symm
                have eB : (a + 65535 - b) % 65535 = md (bts (s + 1) v0 e) := by
                  have := tstep_hi (s := s) (q := q) (t := t) (by rw [← HD.out]; exact htd) v0
                  rw [← HD.out, ← HF.out, ← HI.out, ← HE.out, ← EA.out, ← EB.out] at this
                  exact this.symm
                have R5 := (((R4.out.drewN nq).put i ((a + b) % 65535)).put e ((a + 65535 - b) % 65535)).congr (G := tmid s d fr (t + 1) v0) (fun x hx => by
                  show (if x = e then (a + 65535 - b) % 65535 else if x = i then (a + b) % 65535 else tmid s d fr t v0 x) = _
                  have hI := HI.out
                  have hE := HE.out
                  by_cases x1 : x = e
                  · rw [if_pos x1, eB, x1]; unfold tmid; rw [if_pos (by omega)]
                  · rw [if_neg x1]
                    by_cases x2 : x = i
                    · rw [if_pos x2, eA, x2]; unfold tmid; rw [if_pos (by omega)]
                    · rw [if_neg x2]
                      unfold tmid
                      have : (x < fr + t ∨ fr + d ≤ x ∧ x < fr + d + t) ↔ (x < fr + (t + 1) ∨ fr + d ≤ x ∧ x < fr + d + (t + 1)) := by omega
                      simp only [this])
                go_roundg (d - (t + 1))
                case measure => omega
                case rel => exact ⟨t + 1, i + 1, rfl, by omega, ⟨by have := HI.out; omega⟩, by omega, by omega, by go_num, R5, ((pw_below_drewN B4.out nq).setCell (p := ⟨g, i, none⟩) HG.out _).setCell (p := ⟨g, e, none⟩) HG.out _, ((K4.out.drewN nq).setCell (p := ⟨g, i, none⟩) (.inl HK.out) _).setCell (p := ⟨g, e, none⟩) (.inl HK.out) _⟩
              · have hie : fr + d ≤ i := by have := HI.out; omega
                go_wp2
                go_roundg (m - (q + 1))
                case measure => omega
                case rel =>
                  refine ⟨q + 1, fr + 2 * d, rfl, by omega, ⟨by rw [HF.out, Nat.mul_add, Nat.mul_one]⟩, by omega, ?_, R4.out.congr (fun x hx => ?_), B4.out, K4.out⟩
                  · rw [show ((fr + 2 * d : Nat) : Int) = (fr : Int) + 2 * (d : Int) by omega]
                  · unfold tmid
                    have : (x < fr + t ∨ fr + d ≤ x ∧ x < fr + d + t) ↔ (x < fr + 2 * d + 0 ∨ fr + 2 * d + d ≤ x ∧ x < fr + 2 * d + d + 0) := by omega
                    simp only [this]
          · have hge : n ≤ fr := by
              have e1 := HM.out
              have e2 := HF.out
              have : q = m := by omega
              rw [e1, e2, this]; exact Nat.le_refl _
            go_wp2
            go_roundg (r - (s + 1))
            case measure => omega
            case rel =>
              refine ⟨s + 1, d * 2, rfl, by omega, ⟨by rw [HD.out, Nat.pow_succ]⟩, ?_, R3.out.congr (fun x hx => ?_), B3.out, K3.out⟩
              · rw [show ((d * 2 : Nat) : Int) = (d : Int) * 2 by omega]
              · unfold tmid; rw [if_pos (by omega)]
      · have hge : n ≤ d := by
          have e1 := HN.out
          have e2 := HD.out
          have : s = r := by omega
          rw [e1, e2, this]; exact Nat.le_refl _
        go_wp2
        have hsr : s = r := by omega
        subst hsr
        have hend : Kd.R (Kd.int .u16) 33 wr w0.heap.size (fun k_ => (P0_ k_ ∨ w.heap.size ≤ k_)) (.slice (some ⟨g, 0, none⟩) n cap) (lst n fun i => md (tr s v0 i)) :=
          (R1.out.mono (fun k hk => .inl hk)).congr (fun x hx => by rw [bts_tr (by rw [← HN.out]; exact hx)])
        go_end0
        exact ⟨rfl, hend, B1.out, K1.out⟩
  · rw [if_neg hg] at h; exact absurd h (by simp)
end Go.Proofs.Ytklkcenffajfeaa.A
