import Derived.Test.YtklkcenffajfeaaH1
import Derived.Test.YtklkcenffajfeaaShelf
namespace Go.Proofs.Ytklkcenffajfeaa.A
open Go.RowKit Go.Deep Go.Proofs.YtklkcenffajfeaaW.PrintWords Go.Proofs.YtklkcenffajfeaaW.PrintLast Go.Proofs.YtklkcenffajfeaaW.PrintMore WH
set_option linter.unusedVariables false
set_option linter.unusedSimpArgs false
/-- What a row of words is, told by its block. -/
theorem wd_of {W : World} {base : Nat} {ok : Nat → Prop} {v : Value} {l : List Int} (h : Kd.R (Kd.int .u16) 33 W base ok v l) (hp : 0 < l.length) :
    ∃ g cap, v = .slice (some ⟨g, 0, none⟩) l.length cap ∧ ok g ∧ base ≤ g ∧ Wd W base ok g l.length cap (fun j => l.getD j 0) := by
  obtain ⟨A, cap, rfl⟩ := Kd.R_slice h
  obtain ⟨inner, -, ho⟩ := Kd.R_own h
  rcases ho with ⟨e, hz⟩ | ⟨g, cp, cur, e, hge, -⟩
  · omega
  · injection e with e1
    subst e1
    exact ⟨g, cap, rfl, h.1 g (by simp [Value.ownBlock]), hge, by unfold Wd; rw [← lst_of]; exact h⟩
theorem bitLen_pow {r : Nat} (h : r ≤ 16) : Lib.bitLen (2 ^ r) = r + 1 := by
  have : ∀ r : Fin 17, Lib.bitLen (2 ^ r.val) = r.val + 1 := by decide +kernel
  exact this ⟨r, by omega⟩
theorem scale_is {r : Nat} (h : r ≤ 16) : (wrap64 (2 ^ (16 - r))).tmod 65535 = md (2 ^ (16 - r)) := by
  have : ∀ r : Fin 17, (wrap64 (2 ^ (16 - r.val))).tmod 65535 = md (2 ^ (16 - r.val)) := by decide +kernel
  exact this ⟨r, by omega⟩
/-- back: the inverse transform modulo 65535. -/
def walsh_back.f (l : List Int) : Option (List Int) := if gdL l = true then some (lst l.length (fun i => md (2 ^ (16 - Nat.log2 l.length) * tr (Nat.log2 l.length) (fun j => l.getD j 0) i))) else none
set_option maxHeartbeats 4000000 in
set_option maxRecDepth 100000 in
theorem walsh_back.calls (P0_ : Nat → Prop) (u9000_ : Value) (l0 : List Int) (r : List Int) (w0 w : World) (hB : Below w0.heap.size w0 w) (ho0 : Kd.R (Kd.int .u16) 33 w w0.heap.size P0_ u9000_ l0) (h : walsh_back.f l0 = some r) :
    Calls Try.prog 44 #[u9000_] w fun e w' => e = .returned (.tuple #[]) ∧ Kd.R (Kd.int .u16) 33 w' w0.heap.size (fun k_ => (P0_ k_ ∨ w.heap.size ≤ k_)) u9000_ r ∧ Below w0.heap.size w0 w' ∧ Kept w w' (fun k_ => P0_ k_) := by
  unfold walsh_back.f at h
  by_cases hg : gdL l0 = true
  · rw [if_pos hg] at h
    obtain rfl := Option.some.inj h
    obtain ⟨h1, h2, h3⟩ := gdL_iff.1 hg
    have hpos : 0 < l0.length := by rw [h1]; exact Nat.two_pow_pos _
    obtain ⟨g, cap, rfl, hokg, hbg, -⟩ := wd_of ho0 hpos
    have ht : walsh_turn.f l0 = some (lst l0.length (fun i => md (tr (Nat.log2 l0.length) (fun j => l0.getD j 0) i))) := by unfold walsh_turn.f; rw [if_pos hg]
    have hcall := walsh_turn.calls P0_ _ l0 _ w0 w hB ho0 ht
    obtain ⟨v0, hv0⟩ : ∃ v0, v0 = (fun j => l0.getD j 0) := ⟨_, rfl⟩
    obtain ⟨r, hr⟩ : ∃ r, r = Nat.log2 l0.length := ⟨_, rfl⟩
    obtain ⟨n, hn⟩ : ∃ n, n = l0.length := ⟨_, rfl⟩
    rw [← hv0, ← hr, ← hn]
    rw [← hv0, ← hr, ← hn] at hcall
    rw [← hr, ← hn] at h1
    rw [← hn] at h2 hpos
    have HN := Aside0.mk h1
    have HC := Aside0.mk hcall
    have HK := Aside0.mk hokg
    have HG := Aside0.mk hbg
    have hr16 : r ≤ 16 := by
      by_cases e : r ≤ 16
      · exact e
      · have := Nat.pow_le_pow_right (show 0 < 2 by decide) (show 17 ≤ r by omega)
        omega
    have hbl : Lib.bitLen n = r + 1 := by rw [h1]; exact bitLen_pow hr16
    have HBL := Aside0.mk hbl
    clear h1 h3 hg ho0 hv0 hr hn hokg hbg hB hcall ht hbl
    go_enter Try.func44, Try.ntmps44
    go_wp2_with fail
    refine HC.out.mono ?_
    rintro e w1 ⟨rfl, hR, hB1, hK1⟩
    have R1 := Aside0.mk hR
    have B1 := Aside0.mk hB1
    have K1 := Aside0.mk hK1
    clear hR hB1 hK1 HC
    go_wp2_with (go_at_call 56; refine (Try.bits_Len (n : Int) _ (by omega) (by omega)).mono ?_; rintro e w2 ⟨rfl, rfl⟩; rw [Int.toNat_natCast, HBL.out])
    obtain ⟨sc, hsc⟩ : ∃ sc, sc = (wrap64 (2 ^ (16 - r))).tmod 65535 := ⟨_, rfl⟩
    rw [← hsc]
    have hsc' : sc = md (2 ^ (16 - r)) := by rw [hsc, scale_is hr16]
    have sc0 : 0 ≤ sc := by rw [hsc']; exact md_ge _
    have sc1 : sc ≤ 65534 := by rw [hsc']; have := md_lt (2 ^ (16 - r)); omega
    have HS := Aside0.mk hsc'
    clear hsc hsc'
    go_loopg [3, 4, 17] n (fun kq v3 v4 v17 wr => ∃ i : Nat, kq = n - i ∧ i ≤ n ∧ v17 = .int .i64 (i : Int) ∧ Wd wr w0.heap.size (fun k_ => (P0_ k_ ∨ w.heap.size ≤ k_)) g n cap (fun x => if x < i then md (2 ^ (16 - r) * tr r v0 x) else md (tr r v0 x)) ∧ Below w0.heap.size w0 wr ∧ Kept w wr (fun k_ => P0_ k_))
    case atStart => exact ⟨0, rfl, Nat.zero_le _, rfl, (show Wd _ _ _ g n cap _ from R1.out).congr (fun x _ => by rw [if_neg (by omega)]), B1.out, K1.out⟩
    case round =>
      obtain ⟨i, rfl, hi, rfl, hR, hB, hK⟩ := hrel
      have R2 := Aside0.mk hR
      have B2 := Aside0.mk hB
      have K2 := Aside0.mk hK
      clear hR hB hK R1 B1 K1
      by_cases hlt : i < n
      · obtain ⟨c1, f1⟩ := R2.out.at_ hlt
        rw [if_neg (Nat.lt_irrefl i)] at c1
        obtain ⟨y, hy⟩ : ∃ y, y = md (tr r v0 i) := ⟨_, rfl⟩
        rw [← hy] at c1
        have y0 : 0 ≤ y := by rw [hy]; exact md_ge _
        have y1 : y ≤ 65534 := by rw [hy]; have := md_lt (tr r v0 i); omega
        obtain ⟨q, hq⟩ : ∃ q, q = y * sc := ⟨_, rfl⟩
        have q0 : 0 ≤ q := by rw [hq]; exact Int.mul_nonneg y0 sc0
        have q1 : q ≤ 4294705156 := by
          rw [hq]
          exact Int.le_trans (Int.mul_le_mul y1 sc1 sc0 (by omega)) (by decide)
        have hz : IntKind.i64.wrap (y * sc) = q := by rw [← hq, IntKind.wrap_i64]; omega
        have HY := Aside0.mk hy
        have HQ := Aside0.mk hq
        clear hy hq
        go_wp2
        have eV : q % 65535 = md (2 ^ (16 - r) * tr r v0 i) := by
          rw [HQ.out, HY.out, HS.out]
          show md (md (tr r v0 i) * md (2 ^ (16 - r))) = _
          rw [md_mul, Int.mul_comm]
        have R3 := (R2.out.put i (q % 65535)).congr (G := fun x => if x < i + 1 then md (2 ^ (16 - r) * tr r v0 x) else md (tr r v0 x)) (fun x hx => by
          show (if x = i then q % 65535 else if x < i then md (2 ^ (16 - r) * tr r v0 x) else md (tr r v0 x)) = _
          by_cases e : x = i
          · rw [if_pos e, eV, e, if_pos (by omega)]
          · rw [if_neg e]
            have : x < i ↔ x < i + 1 := by omega
            simp only [this])
        go_roundg (n - (i + 1))
        case measure => omega
        case rel => exact ⟨i + 1, rfl, by omega, by go_num, R3, B2.out.setCell (p := ⟨g, i, none⟩) HG.out _, K2.out.setCell (p := ⟨g, i, none⟩) (.inl HK.out) _⟩
      · go_wp2
        go_end0
        exact ⟨rfl, R2.out.congr (fun x hx => by rw [if_pos (by omega)]), B2.out, K2.out⟩
  · rw [if_neg hg] at h; exact absurd h (by simp)
end Go.Proofs.Ytklkcenffajfeaa.A
