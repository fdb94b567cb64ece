/-
Gf16Traces: for every a and b of the field of 65536: squares of sums, the trace, and that a has a root of y*y + y = a just where its trace is 0. No condition.
-/
import Derived.Test.YtedaifgbnojojaaCantorFns
import Derived.Test.YtedaifgbnojojaaQx7
namespace Go.Proofs.Ytedaifgbnojojaa.Pure
open Go.RowKit Go.Proofs.Ytedaifgbnojojaa.Q Go.Proofs.YtedaifgbnojojaaW.PrintWords Go.Proofs.YtedaifgbnojojaaW.PrintLast Go.Proofs.YtedaifgbnojojaaW.PrintMore Go.Proofs.Ytedaifgbnojojaa.R GP
set_option linter.unusedVariables false
set_option linter.unusedSimpArgs false

theorem bits_and65534 {a : Nat} (ha : a < 65536) : Go.bits .and .u16 a 65534 = ((even a : Nat) : Int) := by
  have := bits_and16 (a := a) (b := 65534) ha (by decide)
  rw [show ((65534 : Nat) : Int) = 65534 from rfl] at this
  rw [this, ← bits_andNot1 ha]
  unfold Go.bits
  have e2 : (BitVec.ofInt 16 (1 : Int)) = BitVec.ofNat 16 1 := rfl
  show _ = IntKind.u16.wrap (((BitVec.ofInt 16 (a : Int) &&& ~~~ (BitVec.ofInt 16 1)).toNat : Nat) : Int)
  rw [BitVec.ofInt_natCast, e2, BitVec.toNat_and, BitVec.toNat_not, BitVec.toNat_ofNat, BitVec.toNat_ofNat, Nat.mod_eq_of_lt ha]
  exact (u16_id (show a &&& 65534 < 65536 from Nat.and_lt_two_pow (n := 16) a (by decide))).symm
theorem rooted {a : Nat} (ha : a < 65536) : Ev (fun k => culletlaw03_rooted.f k a) true := by
  have hw := wix_lt a
  have htr := tr_eq ha
  have hsq : Go.bits .xor .u16 ((m16 a a : Nat) : Int) a = ((sy a : Nat) : Int) := bits_xor16 (m16_lt a a) ha
  have hsyl := sy_lt ha
  have hwsy := wix_sy ha
  -- what Root tells of a*a + a
  have h2 : wel (2 * wix (sy a)) = wel (2 * (wix a / 2)) := by rw [hwsy]
  have h3 : even (wel (2 * (wix a / 2))) = even a := by
    rcases Nat.mod_two_eq_zero_or_one (wix a) with e | e
    · rw [show 2 * (wix a / 2) = wix a by omega, wel_wix a ha]
    · have e1 : 2 * (wix a / 2) = wix a ^^^ 1 := by
        have : even (wix a) = wix a ^^^ 1 := xor_one_even e
        unfold even at this
        omega
      have e2 : wel 1 = 1 := by decide +kernel
      rw [e1, wel_xor, e2, wel_wix a ha]
      have e3 : ∀ y, even (y ^^^ 1) = even y := by
        intro y
        unfold even
        have : (y ^^^ 1) / 2 = y / 2 := by rw [Nat.xor_div_two]; simp
        omega
      exact e3 a
  have hroot := Root_yes hsyl (by rw [hwsy]; omega)
  rw [h2, h3] at hroot
  have j0 : Ev (fun k => culletlaw03_rooted.j0 k a false) true := by
    refine Ev.step (fun k => culletlaw03_rooted.j0.eq_2 _ _ k) ?_
    simp only [Bool.false_eq_true, if_false]
    refine Ev.bind (Mul16 ha ha) ?_
    simp only [hsq, hroot, Option.bind_some, if_true, bits_and65534 ha, beq_self_eq_true]
    exact Ev.now _
  have j1 : Ev (fun k => culletlaw03_rooted.j1 k a false) true := by
    refine Ev.step (fun k => culletlaw03_rooted.j1.eq_2 _ _ k) ?_
    simp only [Bool.false_eq_true, if_false]
    refine Ev.bind (Mul16 ha ha) ?_
    simp only [hsq, hroot, Option.bind_some, if_true, bits_and65534 ha, beq_self_eq_true]
    exact Ev.now _
  unfold culletlaw03_rooted.f
  by_cases hlt : wix a < 32768
  · simp only [Root_yes ha hlt, Option.bind_some]
    refine Ev.bind (Trace16 ha) ?_
    rw [htr, if_neg (by omega)]
    have hel := even_lt (wel_lt (2 * wix a))
    have hmod : Int.tmod ((even (wel (2 * wix a)) : Nat) : Int) 2 = 0 := by
      rw [Int.tmod_eq_emod_of_nonneg (by omega)]
      unfold even; omega
    simp only [if_pos (show ((0 : Nat) : Int) = 0 from rfl), if_true, hmod]
    refine Ev.bind (Mul16 hel hel) ?_
    have e : Go.bits .xor .u16 ((m16 (even (wel (2 * wix a))) (even (wel (2 * wix a))) : Nat) : Int) ((even (wel (2 * wix a)) : Nat) : Int) = (a : Int) := by
      rw [bits_xor16 (m16_lt _ _) hel]
      have : m16 (even (wel (2 * wix a))) (even (wel (2 * wix a))) ^^^ even (wel (2 * wix a)) = sy (even (wel (2 * wix a))) := rfl
      rw [this, sy_even, sy_wel _ (by omega), show 2 * wix a / 2 = wix a by omega, wel_wix a ha]
    rw [e, bne_self_eq_false]
    exact j0
  · simp only [Root_no ha hlt, Option.bind_some]
    refine Ev.bind (Trace16 ha) ?_
    rw [htr, if_pos (by omega)]
    simp only [if_neg (show ¬ ((1 : Nat) : Int) = 0 by decide), if_true, bne_self_eq_false]
    exact j1
theorem Gf16Traces : culletlaw03_Gf16Traces.Pure := by
  intro x y hx hy
  obtain ⟨a, rfl, ha⟩ := of_u16 hx
  obtain ⟨b, rfl, hb⟩ := of_u16 hy
  apply Ev.rounds
  unfold culletlaw03_Gf16Traces.f
  refine Ev.bind fixed ?_
  simp only [if_true]
  have ht := Trace16 (a := 39198) (by decide)
  have hv : tr 39198 = 1 := by rw [tr_eq (by decide)]; decide +kernel
  rw [hv] at ht
  refine Ev.bind ht ?_
  simp only [if_pos (show ((1 : Nat) : Int) = 1 from rfl)]
  refine Ev.bind (rooted ha) ?_
  simp only [if_true]
  refine Ev.bind (rooted hb) ?_
  rw [show (!true) = false from rfl]
  refine Ev.step (fun k => culletlaw03_Gf16Traces.j0.eq_2 _ _ _ k) ?_
  simp only [Bool.false_eq_true, if_false]
  have hab := xor16 ha hb
  rw [bits_xor16 ha hb]
  refine Ev.bind (Mul16 ha ha) ?_
  refine Ev.bind (Mul16 hab hab) ?_
  refine Ev.bind (Mul16 hb hb) ?_
  rw [bits_xor16 (m16_lt a a) (m16_lt b b)]
  have hsq : m16 (a ^^^ b) (a ^^^ b) = m16 a a ^^^ m16 b b := sq_fm (by decide) a b
  rw [hsq]
  simp only [if_true]
  refine Ev.bind (Trace16 ha) ?_
  refine Ev.bind (Trace16 hb) ?_
  have hta : tr a = 0 ∨ tr a = 1 := by rw [tr_eq ha]; split <;> simp
  have htb : tr b = 0 ∨ tr b = 1 := by rw [tr_eq hb]; split <;> simp
  have h1 := Trace16 hab
  have hx2 : tr (a ^^^ b) = tr a ^^^ tr b := trn_xor 16 a b
  rw [hx2] at h1
  have h2 := Trace16 (m16_lt a a)
  have hs2 : tr (m16 a a) = tr a := tr_sq ha
  rw [hs2] at h2
  have hxi : Go.bits .xor .i64 ((tr a : Nat) : Int) ((tr b : Nat) : Int) = ((tr a ^^^ tr b : Nat) : Int) := by
    rcases hta with e | e <;> rcases htb with e' | e' <;> rw [e, e'] <;> exact bits_xori (by decide) (by decide)
  have fin : Ev (fun k => (gf16_Trace.f k ((a ^^^ b : Nat) : Int)).bind fun t => if t = Go.bits .xor .i64 ((tr a : Nat) : Int) ((tr b : Nat) : Int) then ((gf16_Trace.f k ((m16 a a : Nat) : Int)).bind fun t => (some (t == ((tr a : Nat) : Int)))) else (some false)) true := by
    refine Ev.bind h1 ?_
    rw [hxi]
    simp only [if_true]
    refine Ev.bind h2 ?_
    rw [beq_self_eq_true]
    exact Ev.now _
  rcases hta with e | e <;> rcases htb with e' | e' <;> rw [e, e'] at fin ⊢ <;> exact fin
end Go.Proofs.Ytedaifgbnojojaa.Pure
