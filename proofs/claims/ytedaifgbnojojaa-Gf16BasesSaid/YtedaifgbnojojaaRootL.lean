import Derived.Test.YtedaifgbnojojaaRoot
namespace Go.Proofs.Ytedaifgbnojojaa.A
open Go.RowKit Go.Deep Go.Proofs.YtedaifgbnojojaaW.PrintWords Go.Proofs.YtedaifgbnojojaaW.PrintLast Go.Proofs.YtedaifgbnojojaaW.PrintMore Go.Proofs.Ytedaifgbnojojaa.R GP
set_option linter.unusedVariables false
set_option linter.unusedSimpArgs false
/-! What the document's Root answers. -/
def lins (im fr : List Nat) (v y : Nat) : Nat → List Nat × List Nat
  | 0 => (im, fr)
  | h + 1 => if v.testBit h then (if im.getD h 0 = 0 then (im.set h v, fr.set h y) else lins im fr (v ^^^ im.getD h 0) (y ^^^ fr.getD h 0) h) else lins im fr v y h
def ltab : Nat → List Nat × List Nat
  | 0 => (List.replicate 16 0, List.replicate 16 0)
  | j + 1 => lins (ltab j).1 (ltab j).2 (syf (2 ^ (j + 1))) (2 ^ (j + 1)) 16
def IM : List Nat := [1, 3, 6, 12, 20, 61, 72, 228, 272, 692, 1056, 0, 4160, 15616, 16512, 37888]
def FR : List Nat := [44234, 26384, 2, 1576, 4, 272, 8, 2576, 16, 512, 32, 0, 64, 4096, 128, 8192]
theorem ltab15 : ltab 15 = (IM, FR) := by decide +kernel
theorem getD_set {l : List Nat} {h j v : Nat} (hh : h < l.length) : (l.set h v).getD j 0 = if j = h then v else l.getD j 0 := by
  rw [List.getD_eq_getElem?_getD, List.getElem?_set]
  by_cases e : j = h
  · subst e; simp [hh]
  · rw [if_neg (fun h' => e h'.symm), if_neg e, List.getD_eq_getElem?_getD]
theorem rins_eq {im fr : Nat → Nat} {li lf : List Nat} (h1 : ∀ j, im j = li.getD j 0) (h2 : ∀ j, fr j = lf.getD j 0) (l1 : li.length = 16) (l2 : lf.length = 16) : ∀ (h v y : Nat), h ≤ 16 →
    (∀ j, (rins im fr v y h).1 j = (lins li lf v y h).1.getD j 0) ∧ (∀ j, (rins im fr v y h).2 j = (lins li lf v y h).2.getD j 0) ∧ (lins li lf v y h).1.length = 16 ∧ (lins li lf v y h).2.length = 16 := by
  intro h
  induction h with
  | zero => intro v y _; exact ⟨h1, h2, l1, l2⟩
  | succ h ih =>
    intro v y hh
    unfold rins lins
    rw [← h1 h, ← h2 h]
    split
    · split
      · exact ⟨fun j => by dsimp only; rw [getD_set (by omega), h1 j], fun j => by dsimp only; rw [getD_set (by omega), h2 j], by simp [l1], by simp [l2]⟩
      · exact ih _ _ (by omega)
    · exact ih _ _ (by omega)
theorem rtab_eq : ∀ j, j ≤ 15 → (∀ i, (rtab j).1 i = (ltab j).1.getD i 0) ∧ (∀ i, (rtab j).2 i = (ltab j).2.getD i 0) ∧ (ltab j).1.length = 16 ∧ (ltab j).2.length = 16 := by
  intro j
  induction j with
  | zero => intro _; exact ⟨fun i => by show 0 = (List.replicate 16 0).getD i 0; rw [List.getD_eq_getElem?_getD, List.getElem?_replicate]; split <;> rfl, fun i => by show 0 = (List.replicate 16 0).getD i 0; rw [List.getD_eq_getElem?_getD, List.getElem?_replicate]; split <;> rfl, rfl, rfl⟩
  | succ j ih =>
    intro hj
    obtain ⟨a, b, c, d⟩ := ih (by omega)
    have e : m16 (2 ^ (j + 1)) (2 ^ (j + 1)) ^^^ 2 ^ (j + 1) = syf (2 ^ (j + 1)) := syf_eq (pow16 (by omega))
    have := rins_eq a b c d 16 (syf (2 ^ (j + 1))) (2 ^ (j + 1)) (Nat.le_refl _)
    unfold rtab ltab
    rw [e]
    exact this
theorem im_is (i : Nat) : (rtab 15).1 i = IM.getD i 0 := by rw [(rtab_eq 15 (by omega)).1, ltab15]
theorem fr_is (i : Nat) : (rtab 15).2 i = FR.getD i 0 := by rw [(rtab_eq 15 (by omega)).2.1, ltab15]
theorem tab_facts : ∀ i : Fin 16, syf (FR.getD i.val 0) = IM.getD i.val 0 ∧ FR.getD i.val 0 % 2 = 0 ∧ FR.getD i.val 0 < 65536 ∧ IM.getD i.val 0 < 2 ^ (i.val + 1) ∧ (IM.getD i.val 0 = 0 ↔ i.val = 11) ∧ (i.val ≠ 11 → (IM.getD i.val 0).testBit i.val = true) ∧ trf (IM.getD i.val 0) 16 = 0 := by decide +kernel
theorem tr_im {i : Nat} (h : i < 16) : tr (IM.getD i 0) = 0 := by
  have := (tab_facts ⟨i, h⟩).2.2.2.2.2.2
  have h2 := (tab_facts ⟨i, h⟩).2.2.2.1
  unfold tr
  rw [trf_eq 16 _ (show IM.getD i 0 < 2 ^ 16 from Nat.lt_of_lt_of_le h2 (Nat.pow_le_pow_right (by decide) (show i + 1 ≤ 16 by omega)))]
  exact this
theorem tr_add (a b : Nat) : tr (a ^^^ b) = tr a ^^^ tr b := trn_xor 16 a b
theorem clear_bit {c m q : Nat} (hc : c < 2 ^ (q + 1)) (hm : m < 2 ^ (q + 1)) (h1 : c.testBit q = true) (h2 : m.testBit q = true) : c ^^^ m < 2 ^ q := by
  apply Nat.lt_pow_two_of_testBit
  intro i hi
  rw [Nat.testBit_xor]
  by_cases e : i = q
  · subst e; rw [h1, h2]; rfl
  · have hb : 2 ^ (q + 1) ≤ 2 ^ i := Nat.pow_le_pow_right (by decide) (by omega)
    rw [Nat.testBit_lt_two_pow (Nat.lt_of_lt_of_le hc hb), Nat.testBit_lt_two_pow (Nat.lt_of_lt_of_le hm hb)]; rfl
theorem low_bit {c q : Nat} (hc : c < 2 ^ (q + 1)) (h1 : c.testBit q = false) : c < 2 ^ q := by
  apply Nat.lt_pow_two_of_testBit
  intro i hi
  by_cases e : i = q
  · subst e; exact h1
  · exact Nat.testBit_lt_two_pow (Nat.lt_of_lt_of_le hc (Nat.pow_le_pow_right (by decide) (by omega)))
theorem tr_low : ∀ q, q ≤ 11 → ∀ c, c < 2 ^ q → tr c = 0 := by
  intro q
  induction q with
  | zero => intro _ c hc; have : c = 0 := by omega
            subst this; decide +kernel
  | succ q ih =>
    intro hq c hc
    have hf := tab_facts ⟨q, by omega⟩
    cases hb : c.testBit q with
    | false => exact ih (by omega) c (low_bit hc hb)
    | true =>
      have hm := hf.2.2.2.2.2.1 (by show q ≠ _; omega)
      have := ih (by omega) (c ^^^ IM.getD q 0) (clear_bit hc hf.2.2.2.1 hb hm)
      rw [tr_add, tr_im (by omega), Nat.xor_zero] at this
      exact this
theorem rsol_is : ∀ (h b r : Nat), h ≤ 16 → b < 2 ^ h → r < 65536 → r % 2 = 0 →
    (∀ x, rsol (rtab 15).1 (rtab 15).2 b r h = some x → x < 65536 ∧ x % 2 = 0 ∧ sy x = sy r ^^^ b) ∧ (rsol (rtab 15).1 (rtab 15).2 b r h = none → tr b = 1) := by
  intro h
  induction h with
  | zero =>
    intro b r _ hb hr h2
    have : b = 0 := by omega
    subst this
    exact ⟨fun x hx => by
      have := Option.some.inj hx
      subst this
      exact ⟨hr, h2, (Nat.xor_zero _).symm⟩, fun hx => by simp [rsol] at hx⟩
  | succ h ih =>
    intro b r hh hb hr h2
    have hf := tab_facts ⟨h, by omega⟩
    unfold rsol
    rw [im_is, fr_is]
    cases hbt : b.testBit h with
    | false =>
      simp only [Bool.false_eq_true, if_false]
      exact ih b r (by omega) (low_bit hb hbt) hr h2
    | true =>
      simp only [if_true]
      by_cases h0 : IM.getD h 0 = 0
      · rw [if_pos h0]
        have e0 : h = 11 := hf.2.2.2.2.1.1 h0
        subst e0
        refine ⟨fun x hx => absurd hx (by simp), fun _ => ?_⟩
        have hl := tr_low 11 (Nat.le_refl _) (b ^^^ 2 ^ 11) (clear_bit hb (by decide) hbt (by decide))
        rw [tr_add] at hl
        have h1 : tr (2 ^ 11) = 1 := by unfold tr; rw [trf_eq 16 _ (by decide)]; decide +kernel
        rw [h1] at hl
        have : tr b ^^^ 1 ^^^ 1 = 0 ^^^ 1 := by rw [hl]
        rw [Nat.xor_assoc, Nat.xor_self, Nat.xor_zero, Nat.zero_xor] at this
        exact this
      · rw [if_neg h0]
        have hm := hf.2.2.2.2.2.1 (fun e => h0 (hf.2.2.2.2.1.2 e))
        have hx := ih (b ^^^ IM.getD h 0) (r ^^^ FR.getD h 0) (by omega) (clear_bit hb hf.2.2.2.1 hbt hm) (xor16 hr hf.2.2.1) (by
          have e1 : FR.getD h 0 % 2 = 0 := hf.2.1
          rw [xor_mod2, h2, e1]; rfl)
        have hs : sy (FR.getD h 0) = IM.getD h 0 := by rw [syf_eq hf.2.2.1]; exact hf.1
        refine ⟨fun x e => ?_, fun e => ?_⟩
        · obtain ⟨a1, a2, a3⟩ := hx.1 x e
          refine ⟨a1, a2, ?_⟩
          rw [a3, sy_xor, hs, Nat.xor_assoc, Nat.xor_comm b, ← Nat.xor_assoc (IM.getD h 0), Nat.xor_self, Nat.zero_xor]
        · have := hx.2 e
          rw [tr_add, tr_im (by omega), Nat.xor_zero] at this
          exact this
def evn (y : Nat) : Nat := y - y % 2
theorem evn_xor {y : Nat} (h : y % 2 = 1) : evn y = y ^^^ 1 := by
  unfold evn
  apply Nat.eq_of_testBit_eq
  intro i
  rw [Nat.testBit_xor]
  cases i with
  | zero => simp only [Nat.testBit_zero]; have : (y - y % 2) % 2 = 0 := by omega
            rw [this, h]; rfl
  | succ i => rw [Nat.testBit_succ, Nat.testBit_succ, Nat.testBit_succ, show (y - y % 2) / 2 = y / 2 by omega, show 1 / 2 = 0 from rfl, Nat.zero_testBit]; simp
theorem sy_one' : sy 1 = 0 := by rw [syf_eq (by decide)]; decide +kernel
theorem sy_evn (y : Nat) : sy (evn y) = sy y := by
  by_cases h : y % 2 = 1
  · rw [evn_xor h, sy_xor, sy_one', Nat.xor_zero]
  · have : evn y = y := by unfold evn; omega
    rw [this]
theorem evn_lt {y : Nat} (h : y < 65536) : evn y < 65536 := by unfold evn; omega
theorem wel_one' : wel 1 = 1 := by decide +kernel
theorem sy_inj {x y : Nat} (hx : x < 65536) (hy : y < 65536) (h2 : x % 2 = y % 2) (e : sy x = sy y) : x = y := by
  have h0 : sy (x ^^^ y) = 0 := by rw [sy_xor, e, Nat.xor_self]
  have h1 := wix_sy (xor16 hx hy)
  rw [h0] at h1
  have hz : wix 0 = 0 := by decide +kernel
  rw [hz] at h1
  have h3 : wix (x ^^^ y) < 2 := by omega
  have h4 := wel_wix (x ^^^ y) (xor16 hx hy)
  have h5 : (x ^^^ y) % 2 = 0 := by rw [xor_mod2, h2, Nat.xor_self]
  rcases (show wix (x ^^^ y) = 0 ∨ wix (x ^^^ y) = 1 by omega) with e1 | e1
  · rw [e1] at h4
    have : wel 0 = 0 := by decide +kernel
    rw [this] at h4
    exact xor_eq_zero.1 h4.symm
  · rw [e1, wel_one'] at h4
    rw [← h4] at h5; exact absurd h5 (by decide)
theorem rsol_root {a : Nat} (ha : a < 65536) : rsol (rtab 15).1 (rtab 15).2 a 0 16 = if wix a < 32768 then some (evn (wel (2 * wix a))) else none := by
  have h := rsol_is 16 a 0 (Nat.le_refl _) ha (by omega) rfl
  have htr := tr_eq ha
  cases hr : rsol (rtab 15).1 (rtab 15).2 a 0 16 with
  | none =>
    have := h.2 hr
    rw [this] at htr
    by_cases e : 32768 ≤ wix a
    · rw [if_neg (by omega)]
    · rw [if_neg e] at htr; omega
  | some x =>
    obtain ⟨h1, h2, h3⟩ := h.1 x hr
    have hz : sy 0 = 0 := by decide +kernel
    rw [hz, Nat.zero_xor] at h3
    have hw : wix a = wix x / 2 := by rw [← h3]; exact wix_sy h1
    have hlt : wix a < 32768 := by have := wix_lt x; omega
    rw [if_pos hlt]
    have h4 : sy (evn (wel (2 * wix a))) = a := by
      rw [sy_evn, sy_wel _ (by omega), show 2 * wix a / 2 = wix a by omega, wel_wix a ha]
    rw [sy_inj h1 (evn_lt (wel_lt _)) (by rw [h2]; unfold evn; omega) (h3.trans h4.symm)]
/-- Root. -/
def culletref03_Root.f (a0 : Int) : Option (Int × Int) := if 0 ≤ a0 ∧ a0 ≤ 65535 then (if wix a0.toNat < 32768 then some (((evn (wel (2 * wix a0.toNat)) : Nat) : Int), (0 : Int)) else some (0, 30)) else none
theorem culletref03_Root.calls (a0 : Int) (r1 r2 : Int) (w : World) (h : culletref03_Root.f a0 = some (r1, r2)) :
    Calls Try.prog 53 #[.int .u16 a0] w fun e w' => e = .returned (.tuple #[.int .u16 r1, .int .i64 r2]) ∧ Below w.heap.size w w' := by
  unfold culletref03_Root.f at h
  by_cases h0 : 0 ≤ a0 ∧ a0 ≤ 65535
  · rw [if_pos h0] at h
    obtain ⟨a, rfl⟩ := Int.eq_ofNat_of_zero_le h0.1
    have ha : a < 65536 := by omega
    rw [Int.toNat_natCast] at h
    refine (root_walk a ha w).mono ?_
    rintro e w' ⟨x, y, rfl, hr, hB⟩
    rw [rsol_root ha] at hr
    by_cases hw : wix a < 32768
    · rw [if_pos hw] at h hr
      obtain ⟨rfl, rfl⟩ := hr
      have := Option.some.inj h
      simp only [Prod.mk.injEq] at this
      obtain ⟨rfl, rfl⟩ := this
      exact ⟨rfl, hB⟩
    · rw [if_neg hw] at h hr
      obtain ⟨rfl, rfl⟩ := hr
      have := Option.some.inj h
      simp only [Prod.mk.injEq] at this
      obtain ⟨rfl, rfl⟩ := this
      exact ⟨rfl, hB⟩
  · rw [if_neg h0] at h; exact absurd h (by simp)
end Go.Proofs.Ytedaifgbnojojaa.A
