/- WalshMemory: what the calls answer, as rows of one's own. -/
import Derived.Test.YtklkcenffajfeaaLists
import Derived.Test.YtklkcenffajfeaaH7
import Derived.Test.YtklkcenffajfeaaWalshFns
import Derived.Outline
import Derived.Deep.LoopGhost
namespace Go.Proofs.Ytklkcenffajfeaa.A
open Go.RowKit Go.Deep Go.Proofs.YtklkcenffajfeaaW.PrintWords Go.Proofs.YtklkcenffajfeaaW.PrintLast Go.Proofs.YtklkcenffajfeaaW.PrintMore Go.Proofs.Ytklkcenffajfeaa.R Go.Proofs.Ytklkcenffajfeaa.Q
set_option linter.unusedVariables false
set_option linter.unusedSimpArgs false
set_option maxRecDepth 100000
theorem pw_le {n : Nat} (h : pwB n = true) : n ≤ 65536 := by
  unfold pwB at h
  rw [Bool.and_eq_true] at h
  exact of_decide_eq_true h.2
theorem tr_yes {l : List Int} (h : okW l = true) : ∃ r, walsh_Transform.f l = some (r, if pwB l.length = true then 0 else 130) ∧ r.length ≤ 65536 := by
  unfold walsh_Transform.f
  rw [if_pos h]
  by_cases hp : pwB l.length = true
  · rw [if_pos hp, if_pos hp]; exact ⟨_, rfl, by rw [lst_len]; exact pw_le hp⟩
  · rw [if_neg hp, if_neg hp]; exact ⟨_, rfl, Nat.zero_le _⟩
theorem inv_yes {l : List Int} (h : okW l = true) : ∃ r e, walsh_Inverse.f l = some (r, e) ∧ r.length ≤ 65536 := by
  unfold walsh_Inverse.f
  rw [if_pos h]
  by_cases hp : pwB l.length = true
  · rw [if_pos hp]; exact ⟨_, _, rfl, by rw [lst_len]; exact pw_le hp⟩
  · rw [if_neg hp]; exact ⟨_, _, rfl, Nat.zero_le _⟩
theorem conv_yes {l : List Int} (h : okW l = true) : ∃ r e, walsh_Convolve.f l l = some (r, e) ∧ r.length ≤ 65536 := by
  unfold walsh_Convolve.f
  rw [if_pos ⟨h, h⟩]
  by_cases hp : pwB l.length = true
  · rw [if_pos ⟨hp, hp⟩, if_pos rfl]; exact ⟨_, _, rfl, by rw [lst_len]; exact pw_le hp⟩
  · rw [if_neg (fun h => hp h.1)]; exact ⟨_, _, rfl, Nat.zero_le _⟩
theorem pow7 {a : Nat} (h : a ≤ 7) : 2 ^ a ≤ 65536 := Nat.le_trans (Nat.pow_le_pow_right (by decide) h) (by decide)
theorem logs_yes {a : Nat} (h : a ≤ 7) : ∃ r e, walsh_Logs.f (a : Int) = some (r, e) ∧ r.length ≤ 65536 := by
  unfold walsh_Logs.f
  rw [if_pos (by omega)]
  exact ⟨_, _, rfl, by rw [lst_len, Int.toNat_natCast]; exact pow7 h⟩
theorem los0 {a : Nat} : losB (2 ^ a) [0] = true := by
  rw [losB_iff]
  intro i hi
  obtain rfl : i = 0 := by simpa using hi
  have := Nat.two_pow_pos a
  exact ⟨by decide, by show (0 : Int) < _; omega, .inl rfl⟩
theorem loc_yes {a : Nat} (h : a ≤ 7) : ∃ r, walsh_locator.f [0] (a : Int) = some (r, 0) ∧ r.length ≤ 65536 := by
  unfold walsh_locator.f
  rw [if_pos (by omega), Int.toNat_natCast, if_pos los0, if_pos (by decide)]
  exact ⟨_, rfl, by rw [lst_len]; exact pow7 h⟩
theorem prod_yes {a : Nat} (h : a ≤ 7) : ∃ r e, walsh_Products.f [0] (a : Int) = some (r, e) ∧ r.length ≤ 65536 := by
  obtain ⟨r, hr, hl⟩ := loc_yes h
  unfold walsh_Products.f
  rw [hr]
  simp only [Option.bind_some, if_true]
  exact ⟨_, _, rfl, by rw [lst_len]; exact hl⟩
theorem copied_row (A : Option Addr) (c : Nat) (l : List Int) (w : World) (hC : Kd.C (Kd.int .u16) w A l.length l) (hc : l.length ≤ c) (hl : l.length ≤ 140737488355328) : Calls Try.prog 12 #[.slice A l.length c] w fun e w' => ∃ A' c', e = .returned (.slice A' l.length c') ∧ Row w' .u16 33 w.heap.size (A', l.length, c') l ∧ Below w.heap.size w w' := by
  obtain ⟨k, hk⟩ := (Copied15 l hl).rounds
  refine (culletlaw15_copied.calls k A c l l w hC hc hk).mono ?_
  rintro e w' ⟨v, rfl, hR, hB⟩
  obtain ⟨A', c', rfl⟩ := Kd.R_slice hR
  exact ⟨A', c', rfl, Row.of hR, hB⟩
theorem trans_row (A : Option Addr) (c : Nat) (l r : List Int) (er : Int) (w : World) (hC : Kd.C (Kd.int .u16) w A l.length l) (hc : l.length ≤ c) (h : walsh_Transform.f l = some (r, er)) : Calls Try.prog 13 #[.slice A l.length c] w fun e w' => ∃ A' c', e = .returned (.tuple #[.slice A' r.length c', .int .i64 er]) ∧ Row w' .u16 33 w.heap.size (A', r.length, c') r ∧ Below w.heap.size w w' := by
  refine (walsh_Transform.calls A c l r er w hC hc h).mono ?_
  rintro e w' ⟨v, rfl, hR, hB⟩
  obtain ⟨A', c', rfl⟩ := Kd.R_slice hR
  exact ⟨A', c', rfl, Row.of hR, hB⟩
theorem inv_row (A : Option Addr) (c : Nat) (l r : List Int) (er : Int) (w : World) (hC : Kd.C (Kd.int .u16) w A l.length l) (hc : l.length ≤ c) (h : walsh_Inverse.f l = some (r, er)) : Calls Try.prog 16 #[.slice A l.length c] w fun e w' => ∃ A' c', e = .returned (.tuple #[.slice A' r.length c', .int .i64 er]) ∧ Row w' .u16 33 w.heap.size (A', r.length, c') r ∧ Below w.heap.size w w' := by
  refine (walsh_Inverse.calls A c l r er w hC hc h).mono ?_
  rintro e w' ⟨v, rfl, hR, hB⟩
  obtain ⟨A', c', rfl⟩ := Kd.R_slice hR
  exact ⟨A', c', rfl, Row.of hR, hB⟩
theorem conv_row (A : Option Addr) (c : Nat) (l r : List Int) (er : Int) (w : World) (hC : Kd.C (Kd.int .u16) w A l.length l) (hc : l.length ≤ c) (h : walsh_Convolve.f l l = some (r, er)) : Calls Try.prog 28 #[.slice A l.length c, .slice A l.length c] w fun e w' => ∃ A' c', e = .returned (.tuple #[.slice A' r.length c', .int .i64 er]) ∧ Row w' .u16 33 w.heap.size (A', r.length, c') r ∧ Below w.heap.size w w' := by
  refine (walsh_Convolve.calls A c l A c l r er w hC hc hC hc h).mono ?_
  rintro e w' ⟨v, rfl, hR, hB⟩
  obtain ⟨A', c', rfl⟩ := Kd.R_slice hR
  exact ⟨A', c', rfl, Row.of hR, hB⟩
theorem logs_row (a r : _) (er : Int) (w : World) (h : walsh_Logs.f a = some (r, er)) : Calls Try.prog 20 #[.int .i64 a] w fun e w' => ∃ A' c', e = .returned (.tuple #[.slice A' r.length c', .int .i64 er]) ∧ Row w' .u16 33 w.heap.size (A', r.length, c') r ∧ Below w.heap.size w w' := by
  refine (walsh_Logs.calls a r er w h).mono ?_
  rintro e w' ⟨v, rfl, hR, hB⟩
  obtain ⟨A', c', rfl⟩ := Kd.R_slice hR
  exact ⟨A', c', rfl, Row.of hR, hB⟩
theorem loc_row (A : Option Addr) (a : Int) (r : List Int) (er : Int) (w : World) (hC : Kd.C (Kd.int .i64) w A 1 [0]) (h : walsh_locator.f [0] a = some (r, er)) : Calls Try.prog 23 #[.slice A 1 1, .int .i64 a] w fun e w' => ∃ A' c', e = .returned (.tuple #[.slice A' r.length c', .int .i64 er]) ∧ Row w' .u16 33 w.heap.size (A', r.length, c') r ∧ Below w.heap.size w w' := by
  refine (walsh_Locator.calls A 1 [0] a r er w hC (by decide) h).mono ?_
  rintro e w' ⟨v, rfl, hR, hB⟩
  obtain ⟨A', c', rfl⟩ := Kd.R_slice hR
  exact ⟨A', c', rfl, Row.of hR, hB⟩
theorem prod_row (A : Option Addr) (a : Int) (r : List Int) (er : Int) (w : World) (hC : Kd.C (Kd.int .i64) w A 1 [0]) (h : walsh_Products.f [0] a = some (r, er)) : Calls Try.prog 26 #[.slice A 1 1, .int .i64 a] w fun e w' => ∃ A' c', e = .returned (.tuple #[.slice A' r.length c', .int .i64 er]) ∧ Row w' .u16 33 w.heap.size (A', r.length, c') r ∧ Below w.heap.size w w' := by
  refine (walsh_Products.calls A 1 [0] a r er w hC (by decide) h).mono ?_
  rintro e w' ⟨v, rfl, hR, hB⟩
  obtain ⟨A', c', rfl⟩ := Kd.R_slice hR
  exact ⟨A', c', rfl, Row.of hR, hB⟩
theorem same_row (A B : Option Addr) (c d : Nat) (l : List Int) (w : World) (h0 : Kd.C (Kd.int .u16) w A l.length l) (hc : l.length ≤ c) (h1 : Kd.C (Kd.int .u16) w B l.length l) (hd : l.length ≤ d) (hl : l.length < 2 ^ 62) :
    Calls Try.prog 15 #[.slice A l.length c, .slice B l.length d] w fun e w' => e = .returned (.bool true) ∧ Drawn0 w w' := by
  obtain ⟨k, hk⟩ := (Same15_self (a := l) hl rfl).rounds
  exact culletlaw15_same.calls k A c l B d l true w h0 hc h1 hd hk
theorem fixed_row (w : World) : Calls Try.prog 11 #[] w fun e w' => e = .returned (.bool true) ∧ Below w.heap.size w w' := by
  obtain ⟨k, hk⟩ := Fixed15.rounds
  exact culletlaw15_fixed.calls k true w hk
end Go.Proofs.Ytklkcenffajfeaa.A
