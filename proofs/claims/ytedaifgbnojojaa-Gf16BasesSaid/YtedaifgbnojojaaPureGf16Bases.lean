/-
Gf16Bases: every Trace, Root, Basis, Element and Index, in every order, is the document's, and each list that Basis answers is new memory. No condition.
-/
import Derived.Test.YtedaifgbnojojaaCantorFns
import Derived.Test.YtedaifgbnojojaaRefBasis
import Derived.Test.YtedaifgbnojojaaElem
import Derived.Test.YtedaifgbnojojaaRowsI
import Derived.Test.YtedaifgbnojojaaQx2
import Derived.Test.YtedaifgbnojojaaQx1
import Derived.Test.YtedaifgbnojojaaGx1
namespace Go.Proofs.Ytedaifgbnojojaa.Pure
open Go.RowKit Go.Proofs.Ytedaifgbnojojaa.A Go.Proofs.Ytedaifgbnojojaa.F Go.Proofs.Ytedaifgbnojojaa.G Go.Proofs.Ytedaifgbnojojaa.A Go.Proofs.Ytedaifgbnojojaa.Q Go.Proofs.YtedaifgbnojojaaW.PrintWords Go.Proofs.YtedaifgbnojojaaW.PrintLast Go.Proofs.YtedaifgbnojojaaW.PrintMore Go.Proofs.Ytedaifgbnojojaa.R Go.Proofs.Ytedaifgbnojojaa.RI GP
set_option linter.unusedVariables false
set_option linter.unusedSimpArgs false
theorem RefTrace_l0 : ∀ (n i a s : Nat), 16 - i ≤ n → i ≤ 16 → a < 65536 → s < 65536 → Ev (fun k => culletref03_Trace.l0 k a s i) ((s ^^^ trn a (16 - i) : Nat) : Int) := by
  intro n
  induction n with
  | zero =>
    intro i a s h h2 ha hs
    have : i = 16 := by omega
    subst this
    refine Ev.step (fun k => culletref03_Trace.l0.eq_2 _ _ _ k) ?_
    simp only [if_neg (show ¬ ((16 : Nat) : Int) < 16 by omega)]
    rw [wrap64_id (by omega) (by omega), Nat.sub_self, trn, Nat.xor_zero]
    exact Ev.now _
  | succ n ih =>
    intro i a s h h2 ha hs
    by_cases hlt : i < 16
    · refine Ev.step (fun k => culletref03_Trace.l0.eq_2 _ _ _ k) ?_
      simp only [if_pos (show ((i : Nat) : Int) < 16 by omega)]
      refine Ev.bind (RefMul ha ha) ?_
      rw [bits_xor16 hs ha, wrap64_id (by omega) (by omega)]
      have := ih (i + 1) (m16 a a) (s ^^^ a) (by omega) (by omega) (m16_lt a a) (xor16 hs ha)
      rw [show 16 - i = (16 - (i + 1)) + 1 by omega, trn]
      have e : (s ^^^ a) ^^^ trn (m16 a a) (16 - (i + 1)) = s ^^^ (trn (f16 a a) (16 - (i + 1)) ^^^ a) := by
        have : m16 a a = f16 a a := rfl
        rw [this]; ac_rfl
      rw [e] at this
      exact this
    · have : i = 16 := by omega
      subst this
      refine Ev.step (fun k => culletref03_Trace.l0.eq_2 _ _ _ k) ?_
      simp only [if_neg (show ¬ ((16 : Nat) : Int) < 16 by omega)]
      rw [wrap64_id (by omega) (by omega), Nat.sub_self, trn, Nat.xor_zero]
      exact Ev.now _
theorem RefTrace {a : Nat} (ha : a < 65536) : Ev (fun k => culletref03_Trace.f k a) ((tr a : Nat) : Int) := by
  unfold culletref03_Trace.f
  have := RefTrace_l0 16 0 a 0 (by omega) (by omega) ha (by decide)
  rw [Nat.zero_xor] at this
  exact this
theorem shr_i {i n : Nat} (hn : n ≤ 60) : shr .i64 (i : Int) (n : Int) = (i : Int) / 2 ^ n := by
  unfold shr
  rw [show IntKind.i64.bits = 64 from rfl, Int.toNat_natCast, Nat.min_eq_left (by omega)]
theorem RefElement {i : Nat} (hi : i < 65536) : Ev (fun k => culletref03_Element.f k i) (((wel i : Nat) : Int), (0 : Int)) := by
  unfold culletref03_Element.f
  simp only [if_neg (show ¬ ((i : Nat) : Int) < 0 by omega), decide_eq_false (show ¬ ((i : Nat) : Int) > 65535 by omega)]
  refine Ev.step (fun k => culletref03_Element.j0.eq_2 _ _ k) ?_
  simp only [show ((false = true) ↔ False) by decide, if_false]
  refine Ev.bind RefBasis ?_
  rw [BI_len]
  have go : ∀ n, n ≤ 16 → Ev (fun k => culletref03_Element.l0 k i ((bsum BL i n : Nat) : Int) (BI 16) ((16 : Nat) : Int) (n : Int)) (((wel i : Nat) : Int), (0 : Int)) := by
    refine ev_up (L := fun k n => culletref03_Element.l0 k i ((bsum BL i n : Nat) : Int) (BI 16) ((16 : Nat) : Int) (n : Int)) ?_ ?_
    · refine Ev.step (fun k => culletref03_Element.l0.eq_2 _ _ _ _ _ k) ?_
      simp only [if_neg (show ¬ ((16 : Nat) : Int) < ((16 : Nat) : Int) by decide)]
      exact Ev.now _
    · intro n hn nx
      refine Ev.step (fun k => culletref03_Element.l0.eq_2 _ _ _ _ _ k) ?_
      have hw : IntKind.u64.wrap (n : Int) = (n : Int) := by simp [IntKind.wrap, IntKind.bits, IntKind.signed]; omega
      have hb := bsum_lt BL BL_lt i n
      have hbit : Go.bits .and .i64 (shr .i64 (i : Int) (n : Int)) 1 = (if i.testBit n then 1 else 0 : Int) := by rw [shr_i (by omega), bit_i hi]
      have hx : Go.bits .xor .u16 ((bsum BL i n : Nat) : Int) ((BL.getD n 0 : Nat) : Int) = ((bsum BL i n ^^^ BL.getD n 0 : Nat) : Int) := bits_xor16 hb (BL_lt n)
      simp only [BI_len, hw, hbit, if_pos (show ((n : Nat) : Int) < ((16 : Nat) : Int) by omega), if_pos (show (0 : Int) ≤ (n : Int) by omega), rd_nat, BI_getD hn, hx, wr_up (n := n) (by omega)]
      have hs : bsum BL i (n + 1) = if i.testBit n then bsum BL i n ^^^ BL.getD n 0 else bsum BL i n := rfl
      rw [hs] at nx
      cases hc : i.testBit n
      · rw [hc] at nx
        simp only [Bool.false_eq_true, if_false, show ¬ (0 : Int) = 1 by decide]
        simpa using nx
      · rw [hc] at nx
        simp only [if_true]
        simpa using nx
  exact go 0 (by omega)
theorem RefElement_none {i : Int} (h : i < 0 ∨ 65535 < i) : Ev (fun k => culletref03_Element.f k i) ((0 : Int), (31 : Int)) := by
  unfold culletref03_Element.f
  by_cases h0 : i < 0
  · simp only [if_pos h0]
    refine Ev.step (fun k => culletref03_Element.j0.eq_2 _ _ k) ?_
    simp only [if_true]
    exact Ev.now _
  · simp only [if_neg h0, decide_eq_true (show i > 65535 by omega)]
    refine Ev.step (fun k => culletref03_Element.j0.eq_2 _ _ k) ?_
    simp only [if_true]
    exact Ev.now _
theorem RefIndex {a : Nat} (ha : a < 65536) : Ev (fun k => culletref03_Index.f k a) ((wix a : Nat) : Int) := by
  unfold culletref03_Index.f
  have hE : culletref03_Elements.f = some ((List.range 65536).map fun i => ((wel i : Nat) : Int)) := by
    unfold culletref03_Elements.f culletref03_ElementsTo.f
    rw [if_pos (by decide)]
    rfl
  rw [hE]
  simp only [Option.bind_some]
  generalize hL : (List.range 65536).map (fun i : Nat => ((wel i : Nat) : Int)) = E
  have hl : E.length = 65536 := by rw [← hL]; simp
  have hg : ∀ i : Nat, i < 65536 → rd E (i : Int) = ((wel i : Nat) : Int) := fun i hi => by
    rw [rd_nat, ← hL, List.getD_eq_getElem?_getD, List.getElem?_map, List.getElem?_range hi]; rfl
  rw [hl]
  have hw := wix_lt a
  have go : ∀ n, n ≤ wix a → Ev (fun k => culletref03_Index.l0 k a E ((65536 : Nat) : Int) (n : Int)) ((wix a : Nat) : Int) := by
    refine ev_up (L := fun k n => culletref03_Index.l0 k a E ((65536 : Nat) : Int) (n : Int)) ?_ ?_
    · refine Ev.step (fun k => culletref03_Index.l0.eq_2 _ _ _ _ k) ?_
      simp only [hl, if_pos (show ((wix a : Nat) : Int) < ((65536 : Nat) : Int) by omega), if_pos (show (0 : Int) ≤ ((wix a : Nat) : Int) by omega), hg (wix a) hw, wel_wix a ha, if_true]
      exact Ev.now _
    · intro n hn nx
      refine Ev.step (fun k => culletref03_Index.l0.eq_2 _ _ _ _ k) ?_
      have hne : ¬ ((wel n : Nat) : Int) = (a : Int) := fun e => by
        have e2 : wel n = a := by omega
        have := wix_wel n (by omega)
        rw [e2] at this
        omega
      simp only [hl, if_pos (show ((n : Nat) : Int) < ((65536 : Nat) : Int) by omega), if_pos (show (0 : Int) ≤ ((n : Nat) : Int) by omega), hg n (by omega), if_neg hne, wr_up (n := n) (by omega)]
      exact nx
  exact go 0 (by omega)
theorem evn_even (y : Nat) : evn y = even y := by unfold evn even; omega
theorem root_eq {a : Nat} (ha : a < 65536) : gf16_Root.f a = culletref03_Root.f a ∧ ∃ r, culletref03_Root.f a = some r := by
  unfold culletref03_Root.f
  rw [if_pos (by omega), Int.toNat_natCast]
  by_cases h : wix a < 32768
  · rw [if_pos h, Root_yes ha h, evn_even]; exact ⟨rfl, _, rfl⟩
  · rw [if_neg h, Root_no ha h]; exact ⟨rfl, _, rfl⟩
theorem same03 (l : List Int) (hl : l.length < 2 ^ 62) : Ev (fun k => culletlaw03_same.f k l l) true := by
  unfold culletlaw03_same.f
  simp only [if_true]
  have go : ∀ n, n ≤ l.length → Ev (fun k => culletlaw03_same.l0 k l l (l.length : Int) (n : Int)) true := by
    refine ev_up (L := fun k n => culletlaw03_same.l0 k l l (l.length : Int) (n : Int)) ?_ ?_
    · refine Ev.step (fun k => culletlaw03_same.l0.eq_2 _ _ _ _ k) ?_
      simp only [if_neg (show ¬ ((l.length : Nat) : Int) < (l.length : Int) by omega)]
      exact Ev.now _
    · intro n hn nx
      refine Ev.step (fun k => culletlaw03_same.l0.eq_2 _ _ _ _ k) ?_
      simp only [if_pos (show ((n : Nat) : Int) < (l.length : Int) by omega), if_pos (show (0 : Int) ≤ ((n : Nat) : Int) by omega), if_true, wr_up (n := n) (by omega)]
      exact nx
  exact go 0 (Nat.zero_le _)
theorem same_pair' {f g : Nat → Option (Int × Int)} {p : Int × Int} (hf : Ev f p) (hg : Ev g p) : Ev (fun k => (f k).bind fun x => (g k).bind fun y => if x.1 = y.1 then some (x.2 == y.2) else some false) true := by
  refine Ev.bind hf (Ev.bind hg ?_)
  simp only [if_true, beq_self_eq_true]
  exact Ev.now _
theorem same_one' {f g : Nat → Option Int} {p : Int} (hf : Ev f p) (hg : Ev g p) : Ev (fun k => (f k).bind fun x => (g k).bind fun y => some (x == y)) true := by
  refine Ev.bind hf (Ev.bind hg ?_)
  rw [beq_self_eq_true]
  exact Ev.now _
theorem ev_some {α : Type} {o : Option α} {r : α} (h : o = some r) : Ev (fun _ => o) r := by rw [h]; exact Ev.now _
theorem based (o : S28) (ho : okT28 o) : Ev (fun k => culletlaw03_based.f k o.f0 o.f1 o.f2 o.f3) true := by
  obtain ⟨kind, x, y, n⟩ := o
  obtain ⟨_, hx, hy, _⟩ := ho
  obtain ⟨a, rfl, ha⟩ := of_u16 hx
  unfold culletlaw03_based.f
  show Ev (fun k => if kind = 0 then _ else _) true
  by_cases k0 : kind = 0
  · simp only [if_pos k0]
    exact same_one' (Trace16 ha) (RefTrace ha)
  simp only [if_neg k0]
  by_cases k1 : kind = 1
  · simp only [if_pos k1]
    obtain ⟨h1, r, h2⟩ := root_eq ha
    exact same_pair' (ev_some (h1.trans h2)) (ev_some h2)
  simp only [if_neg k1]
  by_cases k2 : kind = 2
  · simp only [if_pos k2]
    have hb : gf16_Basis.f = some (BI 16) := by decide +kernel
    rw [hb]
    simp only [Option.bind_some]
    refine Ev.bind RefBasis ?_
    refine Ev.bind (same03 _ (by decide)) ?_
    exact Ev.now _
  simp only [if_neg k2]
  by_cases k3 : kind = 3
  · simp only [if_pos k3]
    by_cases hr : n < 0 ∨ 65535 < n
    · exact same_pair' (ev_some (Element_none hr)) (RefElement_none hr)
    · obtain ⟨i, rfl⟩ := Int.eq_ofNat_of_zero_le (show 0 ≤ n by omega)
      exact same_pair' (ev_some (Element (i := i) (by omega))) (RefElement (by omega))
  simp only [if_neg k3]
  by_cases k4 : kind = 4
  · simp only [if_pos k4]
    exact same_one' (ev_some (index ha)) (RefIndex ha)
  · simp only [if_neg k4]
    exact Ev.now _
theorem bases_l0 (l : List S28) (hl : l.length * 24 ≤ 140737488351232) (hok : ∀ x ∈ l, okT28 x) : ∀ i, i ≤ l.length → Ev (fun k => culletlaw03_Gf16Bases.l0 k l (l.length : Int) i) true := by
  refine ev_up (L := fun k i => culletlaw03_Gf16Bases.l0 k l (l.length : Int) (i : Int)) ?_ ?_
  · refine Ev.step (fun k => culletlaw03_Gf16Bases.l0.eq_2 _ _ _ k) ?_
    simp only [if_neg (show ¬ ((l.length : Nat) : Int) < (l.length : Int) by omega)]
    exact Ev.now _
  · intro i hlt nx
    refine Ev.step (fun k => culletlaw03_Gf16Bases.l0.eq_2 _ _ _ k) ?_
    simp only [if_pos (show ((i : Nat) : Int) < (l.length : Int) by omega), if_pos (show (0 : Int) ≤ ((i : Nat) : Int) by omega)]
    have hm : okT28 (rd_T28 l i) := by
      unfold rd_T28
      rw [Int.toNat_natCast, List.getD_eq_getElem?_getD, List.getElem?_eq_getElem hlt]
      exact hok _ (List.getElem_mem hlt)
    refine Ev.bind (based _ hm) ?_
    simp only [if_true, wr_up (n := i) (by omega)]
    exact nx
theorem Gf16Bases : culletlaw03_Gf16Bases.Pure := by
  rintro l ⟨hl, hok⟩
  apply Ev.rounds
  unfold culletlaw03_Gf16Bases.f
  have h2 : gf16_Index.f 2 = some 18064 := by
    have := index (a := 2) (by decide)
    rw [show wix 2 = 18064 by decide +kernel] at this
    exact this
  rw [h2]
  simp only [Option.bind_some, if_true, show culletlaw03_fresh.f = some true from rfl, Bool.not_true]
  refine Ev.step (fun k => culletlaw03_Gf16Bases.j0.eq_2 _ _ k) ?_
  simp only [Bool.false_eq_true, if_false]
  exact bases_l0 l hl hok 0 (Nat.zero_le _)
end Go.Proofs.Ytedaifgbnojojaa.Pure
