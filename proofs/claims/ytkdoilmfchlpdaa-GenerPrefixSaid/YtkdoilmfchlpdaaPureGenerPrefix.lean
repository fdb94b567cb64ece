/-
GenerPrefix: the factors of Words for fewer data shards are the beginning of those for more; with one parity shard all are 1; a number beyond is refused.
-/
import Derived.Test.YtkdoilmfchlpdaaZ9
import Derived.Test.YtkdoilmfchlpdaaPx2

namespace Go.Proofs.Ytkdoilmfchlpdaa.Pure
open Go.RowKit Go.Proofs.Ytkdoilmfchlpdaa.P Go.Proofs.Ytkdoilmfchlpdaa.A Go.Proofs.Ytkdoilmfchlpdaa.B Go.Proofs.YtkdoilmfchlpdaaW.PrintWords Go.Proofs.YtkdoilmfchlpdaaW.PrintLast Go.Proofs.YtkdoilmfchlpdaaW.PrintMore Go.Proofs.Ytkdoilmfchlpdaa.R Go.Proofs.Ytkdoilmfchlpdaa.RI GP
set_option linter.unusedVariables false
set_option linter.unusedSimpArgs false
def wl (u j k : Nat) : List Int := (List.range k).map (fun i => ((wfac u j i : Nat) : Int))
theorem wl_len (u j k : Nat) : (wl u j k).length = k := by unfold wl; rw [List.length_map, List.length_range]
theorem wl_rd {u j k i : Nat} (h : i < k) : rd (wl u j k) (i : Int) = ((wfac u j i : Nat) : Int) := by
  unfold wl
  rw [rd_nat, List.getD_eq_getElem?_getD, List.getElem?_map, List.getElem?_range h]; rfl
theorem wl_take {u j k l : Nat} (h : l ≤ k) : (wl u j k).take l = wl u j l := by
  unfold wl
  rw [← List.map_take, List.take_range, Nat.min_eq_left h]
theorem m16_ne {a b : Nat} (ha : a < 65536) (hb : b < 65536) (h1 : a ≠ 0) (h2 : b ≠ 0) : m16 a b ≠ 0 := fun h => by
  have e1 : m16 (i16 a) (m16 a b) = b := by
    rw [← m16_assoc, m16_inv ha h1, m16_comm]
    exact m16_one hb
  rw [h, m16_zero] at e1
  exact h2 e1.symm
theorem i16_ne {a : Nat} (ha : a < 65536) (h1 : a ≠ 0) : i16 a ≠ 0 := fun h => by
  have e1 := m16_inv ha h1
  rw [h, m16_comm, m16_zero] at e1
  exact absurd e1 (by decide)
theorem wfac_one {i : Nat} (hi : i < 1000) : wfac 0 0 i = 1 := by
  unfold wfac
  rw [show (2 ^ 0 + i) / 2 ^ 0 = 1 + i by simp, Nat.zero_xor, show 2 ^ 0 + i = 1 + i by simp, m16_comm]
  exact m16_inv (wel_lt _) (wel_ne0 (by omega) (by omega))
theorem wfac_ne {u j i : Nat} (hu : u ≤ 7) (hj : j < 2 ^ u) (hi : i < 1000) : wfac u j i ≠ 0 := by
  have hp := Nat.two_pow_pos u
  have hp7 : 2 ^ u ≤ 2 ^ 7 := Nat.pow_le_pow_right (by decide) hu
  have h1 : 1 ≤ (2 ^ u + i) / 2 ^ u := (Nat.le_div_iff_mul_le hp).2 (by omega)
  have h2 : (2 ^ u + i) / 2 ^ u ≤ 2 ^ u + i := Nat.div_le_self _ _
  have h3 : j ^^^ (2 ^ u + i) < 2 ^ 16 := Nat.xor_lt_two_pow (by omega) (by omega)
  have h4 : j ^^^ (2 ^ u + i) ≠ 0 := fun h => by
    have h5 : j = 2 ^ u + i := by
      have := congrArg (fun x => x ^^^ (2 ^ u + i)) h
      simpa [Nat.xor_assoc, Nat.xor_self] using this
    omega
  unfold wfac
  exact m16_ne (wel_lt _) (i16_lt _) (wel_ne0 (by omega) (by omega)) (i16_ne (wel_lt _) (wel_ne0 h3 h4))
theorem lgw7 {m : Nat} (h1 : 1 ≤ m) (h : m ≤ 70) : lgw (m : Int) ≤ 7 := by
  unfold lgw
  rw [show ((m : Int) - 1).toNat = m - 1 by omega, bitLen_bl _ (by omega)]
  exact bl_le.2 (by omega)
theorem Words_in {k m j : Nat} (hk1 : 1 ≤ k) (hk : k ≤ 300) (hm1 : 1 ≤ m) (hm : m ≤ 70) (hj : j < m) : gener_Words.f (k : Int) (m : Int) (j : Int) = some (wl (lgw (m : Int)) j k, 0) := by
  have hp7 : 2 ^ lgw (m : Int) ≤ 2 ^ 7 := Nat.pow_le_pow_right (by decide) (lgw7 hm1 hm)
  unfold gener_Words.f
  rw [if_pos ⟨by omega, by omega, by omega, by omega⟩, if_pos (by omega), if_pos ⟨by omega, by omega⟩]
  rfl
theorem Words_out {k m j : Nat} (hk1 : 1 ≤ k) (hk : k ≤ 300) (hm1 : 1 ≤ m) (hm : m ≤ 70) (hj : m ≤ j) : gener_Words.f (k : Int) (m : Int) (j : Int) = some ([], 7) := by
  have hp7 : 2 ^ lgw (m : Int) ≤ 2 ^ 7 := Nat.pow_le_pow_right (by decide) (lgw7 hm1 hm)
  unfold gener_Words.f
  rw [if_pos ⟨by omega, by omega, by omega, by omega⟩, if_pos (by omega), if_neg (by omega)]
theorem GenerPrefix : culletlaw11_GenerPrefix.Pure := by
  intro a b c d ha hb hc hd
  apply Ev.rounds
  clear ha hb hc hd
  unfold culletlaw11_GenerPrefix.f
  refine Ev.bind Awake ?_
  obtain ⟨k, ek, k1, k2⟩ := into_is a (lo := 1) (hi := 300) (by decide) (by decide) (by decide)
  obtain ⟨k, rfl⟩ := Int.eq_ofNat_of_zero_le (show 0 ≤ k by omega)
  obtain ⟨l, el, l1, l2⟩ := into_is b (lo := 1) (hi := (k : Int)) (by omega) (by decide) (by omega)
  obtain ⟨l, rfl⟩ := Int.eq_ofNat_of_zero_le (show 0 ≤ l by omega)
  obtain ⟨m, em, m1, m2⟩ := into_is c (lo := 1) (hi := 70) (by decide) (by decide) (by decide)
  obtain ⟨m, rfl⟩ := Int.eq_ofNat_of_zero_le (show 0 ≤ m by omega)
  obtain ⟨j, ej, j1, j2⟩ := into_is d (lo := 0) (hi := (m : Int) - 1) (by omega) (by decide) (by omega)
  obtain ⟨j, rfl⟩ := Int.eq_ofNat_of_zero_le j1
  have w1 := Words_in (k := k) (m := m) (j := j) (by omega) (by omega) (by omega) (by omega) (by omega)
  have w2 := Words_in (k := l) (m := m) (j := j) (by omega) (by omega) (by omega) (by omega) (by omega)
  have w3 := Words_in (k := l) (m := 1) (j := 0) (by omega) (by omega) (by omega) (by omega) (by omega)
  have w4 := Words_out (k := l) (m := m) (j := m) (by omega) (by omega) (by omega) (by omega) (by omega)
  have hu : lgw ((1 : Nat) : Int) = 0 := by decide +kernel
  rw [hu] at w3
  have w3' : gener_Words.f (l : Int) 1 0 = some (wl 0 0 l, 0) := w3
  simp only [if_true, ek, el, em, Option.bind_some, wrap64_id (n := (m : Int) - 1) (by omega) (by omega), ej, w1, w2, w3', w4, wl_len, List.length_nil, if_pos (show ((0 : Nat) : Int) = 0 from rfl), if_pos (show (0 : Int) ≤ (l : Int) by omega), if_pos (show (l : Int) ≤ (k : Int) by omega), Int.toNat_natCast, wl_take (show l ≤ k by omega)]
  refine Ev.bind (Alike_self (by rw [wl_len]; omega)) ?_
  refine Ev.step (fun r => culletlaw11_GenerPrefix.j0.eq_2 _ _ _ _ r) ?_
  simp only [Bool.not_true, Bool.false_eq_true, if_false]
  obtain ⟨hu1, hu2⟩ := lgw_le (m := m) (by omega) (by omega)
  have hu7 := lgw7 (m := m) (by omega) (by omega)
  refine ev_up (L := fun r i => culletlaw11_GenerPrefix.l0 r (l : Int) (wl (lgw (m : Int)) j k) (wl 0 0 l) ((i : Nat) : Int)) (n := l) ?_ ?_ 0 (Nat.zero_le _)
  · refine Ev.step (fun r => culletlaw11_GenerPrefix.l0.eq_2 _ _ _ _ r) ?_
    simp only [if_neg (show ¬ ((l : Nat) : Int) < (l : Int) by omega)]
    exact Ev.now _
  · intro i hi nx
    refine Ev.step (fun r => culletlaw11_GenerPrefix.l0.eq_2 _ _ _ _ r) ?_
    have hne := wfac_ne (u := lgw (m : Int)) (j := j) (i := i) hu7 (by omega) (by omega)
    simp only [if_pos (show ((i : Nat) : Int) < (l : Int) by omega), if_pos (show (0 : Int) ≤ (i : Int) by omega), wl_len, wl_rd hi, wl_rd (show i < k by omega), wfac_one (show i < 1000 by omega), if_pos (show ((1 : Nat) : Int) = 1 from rfl), if_pos (show ((i : Nat) : Int) < (k : Int) by omega), if_neg (show ¬ ((wfac (lgw (m : Int)) j i : Nat) : Int) = 0 by omega), wr_up (n := i) (by omega)]
    exact nx
end Go.Proofs.Ytkdoilmfchlpdaa.Pure
