/-
GenerLong: of Long: the factors of Words make the value at w(j) of every polynomial of the definition out of its values at w(M) to w(M + k - 1).
-/
import Derived.Test.YtkdoilmfchlpdaaZ8
import Derived.Test.YtkdoilmfchlpdaaBx9
import Derived.Test.YtkdoilmfchlpdaaJx2

namespace Go.Proofs.Ytkdoilmfchlpdaa.Pure
open Go.RowKit Go.Proofs.Ytkdoilmfchlpdaa.J Go.Proofs.Ytkdoilmfchlpdaa.A Go.Proofs.Ytkdoilmfchlpdaa.B Go.Proofs.YtkdoilmfchlpdaaW.PrintWords Go.Proofs.YtkdoilmfchlpdaaW.PrintLast Go.Proofs.YtkdoilmfchlpdaaW.PrintMore Go.Proofs.Ytkdoilmfchlpdaa.R Go.Proofs.Ytkdoilmfchlpdaa.RI GP
set_option linter.unusedVariables false
set_option linter.unusedSimpArgs false
def wl (u j k : Nat) : List Int := (List.range k).map (fun i => ((wfac u j i : Nat) : Int))
theorem wl_len (u j k : Nat) : (wl u j k).length = k := by unfold wl; rw [List.length_map, List.length_range]
theorem wl_rd {u j k i : Nat} (h : i < k) : rd (wl u j k) (i : Int) = ((wfac u j i : Nat) : Int) := by
  unfold wl
  rw [rd_nat, List.getD_eq_getElem?_getD, List.getElem?_map, List.getElem?_range h]; rfl
theorem lg12 : ∀ m : Fin 13, 1 ≤ m.val → lgw (m.val : Int) ≤ 4 ∧ m.val ≤ 2 ^ lgw (m.val : Int) ∧ ∀ t : Fin 4, t.val < lgw (m.val : Int) → 2 ^ t.val < m.val := by decide +kernel
theorem Words_in {k m j : Nat} (hk1 : 1 ≤ k) (hk : k ≤ 40) (hm1 : 1 ≤ m) (hm : m ≤ 12) (hj : j < m) : gener_Words.f (k : Int) (m : Int) (j : Int) = some (wl (lgw (m : Int)) j k, 0) := by
  have hp7 : 2 ^ lgw (m : Int) ≤ 2 ^ 4 := Nat.pow_le_pow_right (by decide) (lg12 ⟨m, by omega⟩ hm1).1
  unfold gener_Words.f
  rw [if_pos ⟨by omega, by omega, by omega, by omega⟩, if_pos (by omega), if_pos ⟨by omega, by omega⟩]
  rfl
theorem wfac_wq (u j i : Nat) : wfac u j i = (wq ((2 ^ u + i) / 2 ^ u) * LA.Fld.iv (wq (j ^^^ (2 ^ u + i)))).1 := by
  unfold wfac
  rfl
/-- The elements of the indices below n. -/
def ws (n : Nat) : List Int := (List.range n).map (fun i => ((wel i : Nat) : Int))
theorem ws_len (n : Nat) : (ws n).length = n := by unfold ws; rw [List.length_map, List.length_range]
theorem ws_up (n : Nat) : ws n ++ [((wel n : Nat) : Int)] = ws (n + 1) := by unfold ws; rw [List.range_succ, List.map_append]; rfl
theorem ws_rd {n i : Nat} (h : i < n) : rd (ws n) (i : Int) = (((wq i).1 : Nat) : Int) := by
  unfold ws
  rw [rd_nat, List.getD_eq_getElem?_getD, List.getElem?_map, List.getElem?_range h]; rfl
/-- The coefficients. -/
def c16 (l : List Int) (i : Nat) : G16 := ⟨(l.getD i 0).toNat % 65536, Nat.mod_lt _ (by decide)⟩
theorem c16_is {l : List Int} (hl : ∀ x, x ∈ l → (Lit.int .u16 x).wf = true) {i : Nat} (h : i < l.length) : l.getD i 0 = (((c16 l i).1 : Nat) : Int) := by
  have hm : l.getD i 0 ∈ l := by
    rw [List.getD_eq_getElem?_getD, List.getElem?_eq_getElem h]
    exact List.getElem_mem h
  obtain ⟨n, e, hn⟩ := of_u16 (hl _ hm)
  show _ = (((l.getD i 0).toNat % 65536 : Nat) : Int)
  rw [e, Int.toNat_natCast, Nat.mod_eq_of_lt hn]
def hsum (n : Nat) (c : Nat → G16) (x : G16) (i : Nat) : G16 := LA.sm i (fun j => c (n - i + j) * LA.px x j)
theorem hsum_step {n i : Nat} (h : i < n) (c : Nat → G16) (x : G16) : hsum n c x (i + 1) = hsum n c x i * x + c (n - 1 - i) := by
  unfold hsum
  rw [LA.sm_first, LA.sm_congr (g := fun j => (c (n - i + j) * LA.px x j) * x) (fun j hj => by
    show c (n - (i + 1) + (j + 1)) * (LA.px x j * x) = _
    rw [show n - (i + 1) + (j + 1) = n - i + j by omega, LA.Fld.mul_assoc]), LA.sm_mul_right, LA.Fld.add_comm]
  show _ + c (n - (i + 1) + 0) * 1 = _
  rw [LA.Fld.mul_one, show n - (i + 1) + 0 = n - 1 - i by omega]
theorem Vanish_of {l : List Int} (hl : ∀ x, x ∈ l → (Lit.int .u16 x).wf = true) (h : l.length ≤ 40) (x : G16) {a n : Nat} (han : a ≤ n) (hn : n ≤ 1000) : Ev (fun k => culletlaw11_vanish.f k l ((x.1 : Nat) : Int) (ws n) (a : Int) (n : Int)) (((van l.length (c16 l) a (n - a) x).1 : Nat) : Int) := by
  have tail : Ev (fun k => culletlaw11_vanish.l1 k ((x.1 : Nat) : Int) (ws n) (n : Int) (((LA.ev l.length (c16 l) x).1 : Nat) : Int) (a : Int)) (((van l.length (c16 l) a (n - a) x).1 : Nat) : Int) := by
    have key := ev_up (r := (((van l.length (c16 l) a (n - a) x).1 : Nat) : Int)) (L := fun k t => culletlaw11_vanish.l1 k ((x.1 : Nat) : Int) (ws n) (n : Int) (((van l.length (c16 l) a t x).1 : Nat) : Int) ((a + t : Nat) : Int)) (n := n - a) ?_ ?_ 0 (Nat.zero_le _)
    · have e0 : van l.length (c16 l) a 0 x = LA.ev l.length (c16 l) x := LA.Fld.mul_one _
      simp only [e0, Nat.add_zero] at key
      exact key
    · refine Ev.step (fun k => culletlaw11_vanish.l1.eq_2 _ _ _ _ _ k) ?_
      simp only [if_neg (show ¬ ((a + (n - a) : Nat) : Int) < (n : Int) by omega)]
      exact Ev.now _
    · intro t ht nx
      refine Ev.step (fun k => culletlaw11_vanish.l1.eq_2 _ _ _ _ _ k) ?_
      have e3 : Go.bits .xor .u16 ((x.1 : Nat) : Int) (((wq (a + t)).1 : Nat) : Int) = (((x + wq (a + t)).1 : Nat) : Int) := bits_xor16 x.2 (wq (a + t)).2
      simp only [if_pos (show ((a + t : Nat) : Int) < (n : Int) by omega), if_pos (show (0 : Int) ≤ ((a + t : Nat) : Int) by omega), ws_len, ws_rd (show a + t < n by omega), e3]
      refine Ev.bind (Mul16 (van l.length (c16 l) a t x).2 (x + wq (a + t)).2) ?_
      have e4 : m16 (van l.length (c16 l) a t x).1 (x + wq (a + t)).1 = (van l.length (c16 l) a (t + 1) x).1 := congrArg G16.v (LA.Fld.mul_assoc (LA.ev l.length (c16 l) x) (LA.pm t (fun l => x + wq (a + l))) (x + wq (a + t)))
      simp only [e4, wr_up (n := a + t) (by omega)]
      exact nx
  have key := ev_up (r := (((van l.length (c16 l) a (n - a) x).1 : Nat) : Int)) (L := fun k i => culletlaw11_vanish.l0 k l ((x.1 : Nat) : Int) (ws n) (a : Int) (n : Int) (((hsum l.length (c16 l) x i).1 : Nat) : Int) ((l.length : Int) - 1 - (i : Int))) (n := l.length) ?_ ?_ 0 (Nat.zero_le _)
  · unfold culletlaw11_vanish.f
    rw [wrap64_id (by omega) (by omega)]
    have e0 : (((hsum l.length (c16 l) x 0).1 : Nat) : Int) = 0 := rfl
    have e1 : (l.length : Int) - 1 - ((0 : Nat) : Int) = (l.length : Int) - 1 := by omega
    simp only [e0, e1] at key
    exact key
  · refine Ev.step (fun k => culletlaw11_vanish.l0.eq_2 _ _ _ _ _ _ _ k) ?_
    simp only [if_neg (show ¬ (l.length : Int) - 1 - ((l.length : Nat) : Int) ≥ 0 by omega)]
    have e : hsum l.length (c16 l) x l.length = LA.ev l.length (c16 l) x := by
      unfold hsum LA.ev
      exact LA.sm_congr (fun j _ => by rw [Nat.sub_self, Nat.zero_add])
    rw [e]
    exact tail
  · intro i hi nx
    refine Ev.step (fun k => culletlaw11_vanish.l0.eq_2 _ _ _ _ _ _ _ k) ?_
    have e : (l.length : Int) - 1 - (i : Int) = ((l.length - 1 - i : Nat) : Int) := by omega
    have e2 : wrap64 ((l.length : Int) - 1 - (i : Int) - 1) = (l.length : Int) - 1 - ((i + 1 : Nat) : Int) := by rw [wrap64_id (by omega) (by omega)]; omega
    simp only [if_pos (show (l.length : Int) - 1 - (i : Int) ≥ 0 by omega), if_pos (show (0 : Int) ≤ (l.length : Int) - 1 - (i : Int) by omega), if_pos (show (l.length : Int) - 1 - (i : Int) < (l.length : Int) by omega), e2]
    refine Ev.bind (Mul16 (hsum l.length (c16 l) x i).2 x.2) ?_
    have e3 : Go.bits .xor .u16 ((m16 (hsum l.length (c16 l) x i).1 x.1 : Nat) : Int) (rd l ((l.length : Int) - 1 - (i : Int))) = (((hsum l.length (c16 l) x (i + 1)).1 : Nat) : Int) := by
      rw [e, rd_nat, c16_is hl (by omega), hsum_step hi]
      exact bits_xor16 (hsum l.length (c16 l) x i * x).2 (c16 l (l.length - 1 - i)).2
    rw [e3]
    exact nx
section
variable {l : List Int} (hl : ∀ x, x ∈ l → (Lit.int .u16 x).wf = true) (h1 : 1 ≤ l.length) (h2 : l.length ≤ 40) {m u : Nat} (m1 : 1 ≤ m) (m2 : m ≤ 12) (hu : u = lgw (m : Int))
include hl h1 h2 m1 m2 hu
theorem rows {e : Nat} (he : u + e ≤ 7) (hk : 2 ^ u + l.length ≤ 2 ^ (u + e)) : Ev (fun q => culletlaw11_GenerLong.j3 q l (m : Int) (l.length : Int) ((2 ^ u : Nat) : Int) ((2 ^ (u + e) : Nat) : Int)) true := by
  obtain ⟨u1, u2, -⟩ := lg12 ⟨m, by omega⟩ m1
  have u1' : u ≤ 4 := by rw [hu]; exact u1
  have u2' : m ≤ 2 ^ u := by rw [hu]; exact u2
  have n7 : 2 ^ (u + e) ≤ 2 ^ 7 := Nat.pow_le_pow_right (by decide) he
  obtain ⟨n, hn⟩ : ∃ n, n = 2 ^ (u + e) := ⟨_, rfl⟩
  obtain ⟨M, hM⟩ : ∃ M, M = 2 ^ u := ⟨_, rfl⟩
  obtain ⟨k, hkk⟩ : ∃ k, k = l.length := ⟨_, rfl⟩
  have law : ∀ j, j < m → LA.sm k (fun i => (wq ((M + i) / M) * LA.Fld.iv (wq (j ^^^ (M + i)))) * van k (c16 l) (M + k) (n - (M + k)) (wq (M + i))) = van k (c16 l) (M + k) (n - (M + k)) (wq j) := fun j hj => by
    rw [hM, hn]
    exact words_lag (c16 l) (by omega) (by omega) (by rw [hkk]; exact hk)
  rw [← hn, ← hM] at hk ⊢
  rw [← hn] at n7
  rw [← hM] at u2'
  rw [← hkk] at hk h1 h2 ⊢
  have hwords : ∀ j, j < m → gener_Words.f (k : Int) (m : Int) (j : Int) = some (wl u j k, 0) := fun j hj => by
    have := Words_in h1 h2 m1 m2 hj
    rw [← hu] at this
    exact this
  have hef : ∀ j i, wfac u j i = (wq ((M + i) / M) * LA.Fld.iv (wq (j ^^^ (M + i)))).1 := fun j i => by rw [hM]; exact wfac_wq u j i
  have n8 : n ≤ 128 := n7
  clear u1 u2 u1' hu hn hM n7 he
  have van_of : ∀ x : G16, Ev (fun q => culletlaw11_vanish.f q l ((x.1 : Nat) : Int) (ws n) ((M + k : Nat) : Int) (n : Int)) (((van k (c16 l) (M + k) (n - (M + k)) x).1 : Nat) : Int) := fun x => by
    have := Vanish_of hl (by omega) x (a := M + k) (n := n) hk (by omega)
    rw [← hkk] at this
    exact this
  refine Ev.step (fun q => culletlaw11_GenerLong.j3.eq_2 _ _ _ _ _ q) ?_
  refine ev_up (L := fun q i => culletlaw11_GenerLong.l2 q l (m : Int) (k : Int) (M : Int) (n : Int) (ws i) ((i : Nat) : Int)) (n := n) ?_ ?_ 0 (Nat.zero_le _)
  rotate_left
  · intro i hi nx
    refine Ev.step (fun q => culletlaw11_GenerLong.l2.eq_2 _ _ _ _ _ _ _ q) ?_
    simp only [if_pos (show ((i : Nat) : Int) < (n : Int) by omega), Element (show i < 65536 by omega), Option.bind_some, if_true, ws_len, if_pos (show i < 70368744177664 by omega), ws_up, wr_up (n := i) (by omega)]
    exact nx
  refine Ev.step (fun q => culletlaw11_GenerLong.l2.eq_2 _ _ _ _ _ _ _ q) ?_
  simp only [if_neg (show ¬ ((n : Nat) : Int) < (n : Int) by omega)]
  refine ev_up (L := fun q j => culletlaw11_GenerLong.l3 q l (m : Int) (k : Int) (M : Int) (n : Int) (ws n) ((j : Nat) : Int)) (n := m) ?_ ?_ 0 (Nat.zero_le _)
  · refine Ev.step (fun q => culletlaw11_GenerLong.l3.eq_2 _ _ _ _ _ _ _ q) ?_
    simp only [if_neg (show ¬ ((m : Nat) : Int) < (m : Int) by omega)]
    exact Ev.now _
  · intro j hj nx
    refine Ev.step (fun q => culletlaw11_GenerLong.l3.eq_2 _ _ _ _ _ _ _ q) ?_
    simp only [if_pos (show ((j : Nat) : Int) < (m : Int) by omega), hwords j hj, Option.bind_some, if_true, wl_len, bne_self_eq_false]
    refine Ev.step (fun q => culletlaw11_GenerLong.j6.eq_2 _ _ _ _ _ _ _ _ _ q) ?_
    simp only [Bool.false_eq_true, if_false]
    obtain ⟨S, hS⟩ : ∃ S : Nat → G16, S = fun i => LA.sm i (fun i => (wq ((M + i) / M) * LA.Fld.iv (wq (j ^^^ (M + i)))) * van k (c16 l) (M + k) (n - (M + k)) (wq (M + i))) := ⟨_, rfl⟩
    have hSk : S k = van k (c16 l) (M + k) (n - (M + k)) (wq j) := by rw [hS]; exact law j hj
    have hMi : ∀ i, i ≤ k → wrap64 ((M : Int) + (i : Int)) = ((M + i : Nat) : Int) := fun i hi => by clear hS hSk law hef hwords nx van_of; rw [wrap64_id (by omega) (by omega)]; omega
    have hMk := hMi k (Nat.le_refl _)
    have hS0 : (((S 0).1 : Nat) : Int) = 0 := by rw [hS]; rfl
    have key := ev_up (r := true) (L := fun q i => culletlaw11_GenerLong.l4 q l (m : Int) (k : Int) (M : Int) (n : Int) (ws n) ((j : Nat) : Int) (wl u j k) (((S i).1 : Nat) : Int) ((i : Nat) : Int)) (n := k) ?_ ?_ 0 (Nat.zero_le _)
    · simp only [hS0] at key
      exact key
    · refine Ev.step (fun q => culletlaw11_GenerLong.l4.eq_2 _ _ _ _ _ _ _ _ _ _ q) ?_
      simp only [if_neg (show ¬ ((k : Nat) : Int) < (k : Int) by omega), if_pos (show (0 : Int) ≤ (j : Int) by omega), ws_len, if_pos (show ((j : Nat) : Int) < (n : Int) by omega), ws_rd (show j < n by omega), hMk]
      refine Ev.bind (van_of (wq j)) ?_
      simp only [hSk, if_true, wr_up (n := j) (by omega)]
      exact nx
    · intro i hi nx2
      refine Ev.step (fun q => culletlaw11_GenerLong.l4.eq_2 _ _ _ _ _ _ _ _ _ _ q) ?_
      have hMi' := hMi i (Nat.le_of_lt hi)
      simp only [if_pos (show ((i : Nat) : Int) < (k : Int) by omega), if_pos (show (0 : Int) ≤ (i : Int) by omega), wl_len, hMi', if_pos (show (0 : Int) ≤ ((M + i : Nat) : Int) by omega), ws_len, if_pos (show ((M + i : Nat) : Int) < (n : Int) by omega), ws_rd (show M + i < n by omega), hMk, wl_rd hi]
      refine Ev.bind (van_of (wq (M + i))) ?_
      rw [hef j i]
      refine Ev.bind (Mul16 (wq ((M + i) / M) * LA.Fld.iv (wq (j ^^^ (M + i)))).2 (van k (c16 l) (M + k) (n - (M + k)) (wq (M + i))).2) ?_
      have e3 : Go.bits .xor .u16 (((S i).1 : Nat) : Int) ((m16 (wq ((M + i) / M) * LA.Fld.iv (wq (j ^^^ (M + i)))).1 (van k (c16 l) (M + k) (n - (M + k)) (wq (M + i))).1 : Nat) : Int) = (((S (i + 1)).1 : Nat) : Int) := by
        have e4 : S (i + 1) = S i + (wq ((M + i) / M) * LA.Fld.iv (wq (j ^^^ (M + i)))) * van k (c16 l) (M + k) (n - (M + k)) (wq (M + i)) := by rw [hS]; rfl
        rw [e4]
        exact bits_xor16 (S i).2 ((wq ((M + i) / M) * LA.Fld.iv (wq (j ^^^ (M + i)))) * van k (c16 l) (M + k) (n - (M + k)) (wq (M + i))).2
      simp only [e3, wr_up (n := i) (by omega)]
      exact nx2
theorem doubling (tw : Bool) : Ev (fun q => culletlaw11_GenerLong.l0 q l (m : Int) tw (l.length : Int) 1) true := by
  obtain ⟨u1, u2, u3⟩ := lg12 ⟨m, by omega⟩ m1
  have u1' : u ≤ 4 := by rw [hu]; exact u1
  have u2' : m ≤ 2 ^ u := by rw [hu]; exact u2
  have u3' : ∀ t, t < u → 2 ^ t < m := fun t ht => u3 ⟨t, by omega⟩ (by rw [← hu]; exact ht)
  have p4 : 2 ^ u ≤ 2 ^ 4 := Nat.pow_le_pow_right (by decide) u1'
  have dbl : ∀ s, s ≤ 7 → wrap64 (2 * ((2 ^ s : Nat) : Int)) = ((2 ^ (s + 1) : Nat) : Int) := fun s hs => by
    have hs7 : 2 ^ s ≤ 128 := (show 2 ^ s ≤ 2 ^ 7 from Nat.pow_le_pow_right (by decide) hs)
    have hs0 := Nat.two_pow_pos s
    rw [Nat.pow_succ]
    generalize 2 ^ s = y at *
    rw [wrap64_id (by omega) (by omega)]; omega
  have second : ∀ d e, u + e + d = 6 → Ev (fun q => culletlaw11_GenerLong.l1 q l (m : Int) tw (l.length : Int) ((2 ^ u : Nat) : Int) ((2 ^ (u + e) : Nat) : Int)) true := by
    intro d
    have fin : ∀ e, u + e ≤ 6 → ¬ ((2 ^ (u + e) : Nat) : Int) < wrap64 (((2 ^ u : Nat) : Int) + (l.length : Int)) → Ev (fun q => culletlaw11_GenerLong.l1 q l (m : Int) tw (l.length : Int) ((2 ^ u : Nat) : Int) ((2 ^ (u + e) : Nat) : Int)) true := by
      intro e he hc
      refine Ev.step (fun q => culletlaw11_GenerLong.l1.eq_2 _ _ _ _ _ _ q) ?_
      simp only [if_neg hc]
      rw [wrap64_id (by omega) (by omega)] at hc
      cases tw with
      | true =>
        simp only [if_true, dbl (u + e) (by omega)]
        have hle : 2 ^ (u + e) ≤ 2 ^ (u + (e + 1)) := Nat.pow_le_pow_right (by decide) (by omega)
        exact rows hl h1 h2 m1 m2 hu (e := e + 1) (by omega) (by omega)
      | false =>
        simp only [Bool.false_eq_true, if_false]
        exact rows hl h1 h2 m1 m2 hu (by omega) (by omega)
    induction d with
    | zero =>
      intro e he
      refine fin e (by omega) ?_
      rw [wrap64_id (by omega) (by omega), show u + e = 6 by omega]
      omega
    | succ d ih =>
      intro e he
      by_cases hc : ((2 ^ (u + e) : Nat) : Int) < wrap64 (((2 ^ u : Nat) : Int) + (l.length : Int))
      · refine Ev.step (fun q => culletlaw11_GenerLong.l1.eq_2 _ _ _ _ _ _ q) ?_
        simp only [if_pos hc, dbl (u + e) (by omega)]
        exact ih (e + 1) (by omega)
      · exact fin e (by omega) hc
  have first : ∀ d s, s + d = u → Ev (fun q => culletlaw11_GenerLong.l0 q l (m : Int) tw (l.length : Int) ((2 ^ s : Nat) : Int)) true := by
    intro d
    induction d with
    | zero =>
      intro s hs
      have hs' : s = u := by omega
      rw [hs']
      refine Ev.step (fun q => culletlaw11_GenerLong.l0.eq_2 _ _ _ _ _ q) ?_
      simp only [if_neg (show ¬ ((2 ^ u : Nat) : Int) < (m : Int) by omega)]
      exact second (6 - u) 0 (by omega)
    | succ d ih =>
      intro s hs
      have := u3' s (by omega)
      refine Ev.step (fun q => culletlaw11_GenerLong.l0.eq_2 _ _ _ _ _ q) ?_
      simp only [if_pos (show ((2 ^ s : Nat) : Int) < (m : Int) by omega), dbl s (by omega)]
      exact ih (s + 1) (by omega)
  exact first u 0 (by omega)
end
theorem GenerLong : culletlaw11_GenerLong.Pure := by
  intro l b tw _ _ hl hb
  apply Ev.rounds
  clear hb
  unfold culletlaw11_GenerLong.f
  refine Ev.bind Awake ?_
  have yes : Ev (fun k => culletlaw11_GenerLong.j0 k l b tw true) true := by
    refine Ev.step (fun r => culletlaw11_GenerLong.j0.eq_2 _ _ _ _ r) ?_
    simp only [if_true]; exact Ev.now _
  by_cases h1 : (l.length : Int) < 1
  · simp only [if_true, if_pos h1]; exact yes
  by_cases h2 : (l.length : Int) > 40
  · simp only [if_true, if_neg h1, decide_eq_true h2]; exact yes
  simp only [if_true, if_neg h1, decide_eq_false h2]
  obtain ⟨m, em, m1, m2⟩ := into_is b (lo := 1) (hi := 12) (by decide) (by decide) (by decide)
  obtain ⟨m, rfl⟩ := Int.eq_ofNat_of_zero_le (show 0 ≤ m by omega)
  refine Ev.step (fun r => culletlaw11_GenerLong.j0.eq_2 _ _ _ _ r) ?_
  simp only [Bool.false_eq_true, if_false, em, Option.bind_some]
  exact doubling hl (by omega) (by omega) (by omega) (by omega) rfl tw
end Go.Proofs.Ytkdoilmfchlpdaa.Pure
