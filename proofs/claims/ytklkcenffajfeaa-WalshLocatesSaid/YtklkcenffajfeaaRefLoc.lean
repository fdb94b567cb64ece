/- The document's powers and logarithms of 2, its lists of lost indices. -/
import Derived.Test.YtklkcenffajfeaaRefW0
import Derived.Test.YtklkcenffajfeaaElem
import Derived.Test.YtklkcenffajfeaaFx2
import Derived.Test.YtklkcenffajfeaaFx3
import Derived.Test.YtklkcenffajfeaaGx2

namespace Go.Proofs.Ytklkcenffajfeaa.R
open Go.RowKit Go.Proofs.YtklkcenffajfeaaW.PrintWords Go.Proofs.YtklkcenffajfeaaW.PrintLast Go.Proofs.YtklkcenffajfeaaW.PrintMore Go.Proofs.Ytklkcenffajfeaa.A Go.Proofs.Ytklkcenffajfeaa.F Go.Proofs.Ytklkcenffajfeaa.G Go.Proofs.Ytklkcenffajfeaa.RI WH
set_option linter.unusedVariables false
set_option linter.unusedSimpArgs false
def expL : List Int := lst 65535 (fun e => ((tab16.pw e : Nat) : Int))
theorem expL_len : expL.length = 65535 := lst_len _ _
theorem RefExps : Ev (fun k => culletref03_Exps.f k) expL := by
  unfold culletref03_Exps.f
  simp only [if_pos (show (65535 : Nat) ≤ 140737488355328 by omega)]
  rw [lst_zero 65535 (fun e => ((tab16.pw e : Nat) : Int))]
  have go := ev_up (L := fun k i => culletref03_Exps.l0 k (lst 65535 (fun j => if j < i then ((tab16.pw j : Nat) : Int) else 0)) ((tab16.pw i : Nat) : Int) ((i : Nat) : Int)) (r := expL) (n := 65535) ?_ ?_ 0 (Nat.zero_le _)
  · exact go
  · refine Ev.step (fun k => culletref03_Exps.l0.eq_2 _ _ _ k) ?_
    simp only [if_neg (show ¬ ((65535 : Nat) : Int) < 65535 by omega), lst_done]
    exact Ev.now _
  · intro i hi nx
    refine Ev.step (fun k => culletref03_Exps.l0.eq_2 _ _ _ k) ?_
    have hl := tab16.pw_lt i
    have hw : IntKind.u16.wrap ((tab16.pw i : Nat) : Int) = ((tab16.pw i : Nat) : Int) := u16_id hl
    have e2 : (((tab16.pw i : Nat) : Int) * 2) % 4294967296 = ((2 * tab16.pw i : Nat) : Int) := by omega
    have hs : tab16.pw (i + 1) = if 65535 < 2 * tab16.pw i then (2 * tab16.pw i) ^^^ 65581 else 2 * tab16.pw i := rfl
    simp only [if_pos (show ((i : Nat) : Int) < 65535 by omega), if_pos (show (0 : Int) ≤ (i : Int) by omega), lst_len, if_pos (show ((i : Nat) : Int) < ((65535 : Nat) : Int) by omega), Int.toNat_natCast, hw, lst_step (fun e => ((tab16.pw e : Nat) : Int)) rfl, Option.bind_some, e2, wr_up (n := i) (by omega)]
    by_cases hb : 65535 < 2 * tab16.pw i
    · rw [if_pos hb] at hs
      have hx : Go.bits .xor .u32 ((2 * tab16.pw i : Nat) : Int) 65581 = ((2 * tab16.pw i ^^^ 65581 : Nat) : Int) := by
        have := bits_xor32 (a := 2 * tab16.pw i) (b := 65581) (by omega) (by decide)
        exact this
      simp only [if_pos (show ((2 * tab16.pw i : Nat) : Int) > 65535 by omega), hx]
      rw [← hs]
      exact nx
    · rw [if_neg hb] at hs
      simp only [if_neg (show ¬ ((2 * tab16.pw i : Nat) : Int) > 65535 by omega)]
      rw [← hs]
      exact nx
theorem lgN_pw {e : Nat} (h : e < 65535) : lgN (tab16.pw e) = e := by
  unfold lgN
  rw [if_neg (pw16_ne e), lg16_pw 65535 (Nat.le_refl _) h]; rfl
theorem lgN_lt {a : Nat} (ha : a < 65536) : lgN a < 65535 := (log_ev ha).1
/-- The list of logarithms. -/
def logL : List Int := lst 65536 (fun a => if a = 0 then -1 else ((lgN a : Nat) : Int))
set_option maxRecDepth 400000 in
theorem RefLogs0 : Ev (fun k => culletref03_LogList.f k) logL := by
  unfold culletref03_LogList.f
  simp only [if_pos (show (65536 : Nat) ≤ 35184372088832 by omega), Option.bind_some, List.length_replicate, if_pos (show (0 : Int) < ((65536 : Nat) : Int) by omega)]
  refine Ev.bind RefExps ?_
  have e0 : (List.replicate 65536 (0 : Int)).set (0 : Int).toNat (-1) = lst 65536 (fun a => if a = 0 then -1 else if lgN a < 0 then ((lgN a : Nat) : Int) else 0) := by
    rw [lst_zero 65536 (fun _ => 0), lst_set]
    exact lst_congr (fun j _ => by
      by_cases e : j = 0
      · subst e; rfl
      · rw [if_neg e, if_neg (by omega), if_neg (by omega)]; simp [e])
  simp only [e0, expL_len]
  have go := ev_up (L := fun k e => culletref03_LogList.l0 k (lst 65536 (fun a => if a = 0 then -1 else if lgN a < e then ((lgN a : Nat) : Int) else 0)) expL ((65535 : Nat) : Int) ((e : Nat) : Int)) (r := logL) (n := 65535) ?_ ?_ 0 (Nat.zero_le _)
  · exact go
  · refine Ev.step (fun k => culletref03_LogList.l0.eq_2 _ _ _ _ k) ?_
    simp only [if_neg (show ¬ ((65535 : Nat) : Int) < ((65535 : Nat) : Int) by omega)]
    have : lst 65536 (fun a => if a = 0 then -1 else if lgN a < 65535 then ((lgN a : Nat) : Int) else 0) = logL := lst_congr (fun a ha => by
      by_cases e : a = 0
      · rw [if_pos e, if_pos e]
      · rw [if_neg e, if_neg e, if_pos (lgN_lt ha)])
    rw [this]
    exact Ev.now _
  · intro e he nx
    refine Ev.step (fun k => culletref03_LogList.l0.eq_2 _ _ _ _ k) ?_
    have hl := tab16.pw_lt e
    have hg : expL.getD e 0 = ((tab16.pw e : Nat) : Int) := lst_getD he _ _
    simp only [if_pos (show ((e : Nat) : Int) < ((65535 : Nat) : Int) by omega), if_pos (show (0 : Int) ≤ (e : Int) by omega), expL_len, rd_nat, hg, if_pos (show (0 : Int) ≤ ((tab16.pw e : Nat) : Int) by omega), lst_len, if_pos (show ((tab16.pw e : Nat) : Int) < ((65536 : Nat) : Int) by omega), Int.toNat_natCast, lst_set, wr_up (n := e) (by omega)]
    have : lst 65536 (fun a => if a = tab16.pw e then ((e : Nat) : Int) else if a = 0 then -1 else if lgN a < e then ((lgN a : Nat) : Int) else 0) = lst 65536 (fun a => if a = 0 then -1 else if lgN a < e + 1 then ((lgN a : Nat) : Int) else 0) := lst_congr (fun a ha => by
      by_cases h1 : a = tab16.pw e
      · rw [if_pos h1, h1, if_neg (pw16_ne e), lgN_pw he, if_pos (by omega)]
      · rw [if_neg h1]
        by_cases h0 : a = 0
        · rw [if_pos h0, if_pos h0]
        · rw [if_neg h0, if_neg h0]
          have hne : lgN a ≠ e := fun h2 => h1 (by rw [← h2, pw_lgN ha h0])
          have : lgN a < e ↔ lgN a < e + 1 := by omega
          simp only [this])
    rw [this]
    exact nx
theorem RefLogs {r : Nat} (hr : r ≤ 16) : Ev (fun k => culletref15_Logs.f k (r : Int)) (lst (2 ^ r) lgE, (0 : Int)) := by
  have h16 : 2 ^ r ≤ 65536 := show 2 ^ r ≤ 2 ^ 16 from Nat.pow_le_pow_right (by decide) hr
  unfold culletref15_Logs.f
  simp only [if_neg (show ¬ ((r : Nat) : Int) < 0 by omega), show decide (((r : Nat) : Int) > 16) = false from decide_eq_false (by omega)]
  refine Ev.step (fun k => culletref15_Logs.j0.eq_2 _ _ k) ?_
  simp only [Bool.false_eq_true, if_false]
  refine Ev.bind RefLogs0 ?_
  have he : culletref03_ElementsTo.f (r : Int) = some (lst (2 ^ r) (fun i => ((GP.wel i : Nat) : Int))) := by
    unfold culletref03_ElementsTo.f
    rw [if_pos ⟨by omega, by omega⟩, Int.toNat_natCast]; rfl
  simp only [he, Option.bind_some, lst_len]
  refine ev_up (L := fun k i => culletref15_Logs.l0 k logL (lst i lgE) (lst (2 ^ r) (fun i => ((GP.wel i : Nat) : Int))) ((2 ^ r : Nat) : Int) ((i : Nat) : Int)) (n := 2 ^ r) ?_ ?_ 0 (Nat.zero_le _)
  · refine Ev.step (fun k => culletref15_Logs.l0.eq_2 _ _ _ _ _ k) ?_
    simp only [if_neg (show ¬ ((2 ^ r : Nat) : Int) < ((2 ^ r : Nat) : Int) by omega)]
    exact Ev.now _
  · intro i hi nx
    refine Ev.step (fun k => culletref15_Logs.l0.eq_2 _ _ _ _ _ k) ?_
    have sn : ∀ v : Int, v = lgE i → lst i lgE ++ [v] = lst (i + 1) lgE := fun v hv => by rw [hv]; unfold lst; rw [List.range_succ, List.map_append]; rfl
    have hl := GP.wel_lt i
    have hlg : logL.length = 65536 := lst_len _ _
    simp only [if_pos (show ((i : Nat) : Int) < ((2 ^ r : Nat) : Int) by omega), if_pos (show (0 : Int) ≤ (i : Int) by omega), lst_len, if_pos (show i < 70368744177664 by omega), rd_nat, lst_getD hi, wr_up (n := i) (by omega)]
    by_cases h0 : ((i : Nat) : Int) = 0
    · simp only [if_pos h0]
      rw [sn 0 (by unfold lgE; rw [if_pos (by omega)])]
      exact nx
    · have hg : logL.getD (GP.wel i) 0 = lgE i := by
        unfold logL
        rw [lst_getD hl]
        unfold lgE
        rw [if_neg (wel_ne (by omega) (by omega)), if_neg (by omega)]
      have hb : 0 ≤ lgE i ∧ lgE i < 65535 := by
        unfold lgE
        rw [if_neg (by omega)]
        have := lgN_lt hl
        omega
      have hw : IntKind.u16.wrap (lgE i) = lgE i := by rw [u16_wrap]; omega
      simp only [if_neg h0, if_pos (show (0 : Int) ≤ ((GP.wel i : Nat) : Int) by omega), hlg, if_pos (show ((GP.wel i : Nat) : Int) < ((65536 : Nat) : Int) by omega), rd_nat, hg, hw]
      rw [sn _ rfl]
      exact nx
theorem RefLogs_no {r : Int} (h : ¬ (0 ≤ r ∧ r ≤ 16)) : Ev (fun k => culletref15_Logs.f k r) (([] : List Int), (7 : Int)) := by
  unfold culletref15_Logs.f
  have fin : Ev (fun k => culletref15_Logs.j0 k r true) (([] : List Int), (7 : Int)) := by
    refine Ev.step (fun k => culletref15_Logs.j0.eq_2 _ _ k) ?_
    simp only [if_true]
    exact Ev.now _
  by_cases h0 : r < 0
  · simp only [if_pos h0]; exact fin
  · simp only [if_neg h0, show decide (r > 16) = true from decide_eq_true (by omega)]; exact fin
theorem shl_two {r : Nat} (hr : r ≤ 16) : 0 ≤ IntKind.u64.wrap (r : Int) ∧ shl .i64 1 (IntKind.u64.wrap (r : Int)) = ((2 ^ r : Nat) : Int) := by
  have : ∀ r : Fin 17, 0 ≤ IntKind.u64.wrap (r.val : Int) ∧ shl .i64 1 (IntKind.u64.wrap (r.val : Int)) = ((2 ^ r.val : Nat) : Int) := by decide +kernel
  exact this ⟨r, by omega⟩
theorem RefLost {r : Nat} (hr : r ≤ 16) {l : List Int} (hl : l.length < 2 ^ 60) : Ev (fun k => culletref15_Lost.f k l (r : Int)) (losB (2 ^ r) l) := by
  obtain ⟨hs0, hs⟩ := shl_two hr
  unfold culletref15_Lost.f
  have step : ∀ i, i < l.length → (0 ≤ l.getD i 0 ∧ l.getD i 0 < ((2 ^ r : Nat) : Int) ∧ (i = 0 ∨ l.getD (i - 1) 0 < l.getD i 0)) → ∀ b, Ev (fun k => culletref15_Lost.l0 k l (r : Int) l (l.length : Int) ((i + 1 : Nat) : Int)) b → Ev (fun k => culletref15_Lost.l0 k l (r : Int) l (l.length : Int) ((i : Nat) : Int)) b := by
    intro i hi ⟨g1, g2, g3⟩ b nx
    refine Ev.step (fun k => culletref15_Lost.l0.eq_2 _ _ _ _ _ k) ?_
    simp only [if_pos (show ((i : Nat) : Int) < (l.length : Int) by omega), if_pos (show (0 : Int) ≤ (i : Int) by omega), rd_nat, if_neg (show ¬ l.getD i 0 < 0 by omega), if_pos hs0, hs, if_neg (show ¬ l.getD i 0 ≥ ((2 ^ r : Nat) : Int) by omega), wr_up (n := i) (by omega)]
    by_cases h0 : ((i : Nat) : Int) > 0
    · have e1 : wrap64 ((i : Int) - 1) = ((i - 1 : Nat) : Int) := by rw [w64 (by omega) (by omega)]; omega
      have g4 : l.getD (i - 1) 0 < l.getD i 0 := by rcases g3 with z | z; (· omega); (· exact z)
      simp only [if_pos h0, e1, if_pos (show (0 : Int) ≤ ((i - 1 : Nat) : Int) by omega), if_pos (show ((i - 1 : Nat) : Int) < (l.length : Int) by omega), rd_nat, if_neg (show ¬ l.getD (i - 1) 0 ≥ l.getD i 0 by omega)]
      exact nx
    · simp only [if_neg h0]
      exact nx
  have stop : ∀ i, i < l.length → ¬ (0 ≤ l.getD i 0 ∧ l.getD i 0 < ((2 ^ r : Nat) : Int) ∧ (i = 0 ∨ l.getD (i - 1) 0 < l.getD i 0)) → Ev (fun k => culletref15_Lost.l0 k l (r : Int) l (l.length : Int) ((i : Nat) : Int)) false := by
    intro i hi hb
    refine Ev.step (fun k => culletref15_Lost.l0.eq_2 _ _ _ _ _ k) ?_
    simp only [if_pos (show ((i : Nat) : Int) < (l.length : Int) by omega), if_pos (show (0 : Int) ≤ (i : Int) by omega), rd_nat, if_pos hs0, hs]
    by_cases c1 : l.getD i 0 < 0
    · simp only [if_pos c1]; exact Ev.now _
    · by_cases c2 : l.getD i 0 ≥ ((2 ^ r : Nat) : Int)
      · simp only [if_neg c1, if_pos c2]; exact Ev.now _
      · by_cases h0 : ((i : Nat) : Int) > 0
        · have e1 : wrap64 ((i : Int) - 1) = ((i - 1 : Nat) : Int) := by rw [w64 (by omega) (by omega)]; omega
          have c3 : l.getD (i - 1) 0 ≥ l.getD i 0 := by
            apply Classical.byContradiction; intro hc
            exact hb ⟨by omega, by omega, .inr (by omega)⟩
          simp only [if_neg c1, if_neg c2, if_pos h0, e1, if_pos (show (0 : Int) ≤ ((i - 1 : Nat) : Int) by omega), if_pos (show ((i - 1 : Nat) : Int) < (l.length : Int) by omega), rd_nat, if_pos c3]
          exact Ev.now _
        · exact absurd ⟨by omega, by omega, .inl (by omega)⟩ hb
  cases hlo : losB (2 ^ r) l with
  | true =>
    have hli := losB_iff.1 hlo
    refine ev_up (L := fun k i => culletref15_Lost.l0 k l (r : Int) l (l.length : Int) ((i : Nat) : Int)) (n := l.length) ?_ (fun i hi nx => step i hi (hli i hi) true nx) 0 (Nat.zero_le _)
    refine Ev.step (fun k => culletref15_Lost.l0.eq_2 _ _ _ _ _ k) ?_
    simp only [if_neg (show ¬ ((l.length : Nat) : Int) < (l.length : Int) by omega)]
    exact Ev.now _
  | false =>
    have hex : ∃ i, i < l.length ∧ ¬ (0 ≤ l.getD i 0 ∧ l.getD i 0 < ((2 ^ r : Nat) : Int) ∧ (i = 0 ∨ l.getD (i - 1) 0 < l.getD i 0)) := by
      apply Classical.byContradiction
      intro hn
      have : losB (2 ^ r) l = true := losB_iff.2 (fun i hi => Classical.byContradiction fun hc => hn ⟨i, hi, hc⟩)
      rw [this] at hlo; exact absurd hlo (by simp)
    obtain ⟨b, hb1, hb2⟩ := hex
    have go : ∀ d i : Nat, i + d = b → Ev (fun k => culletref15_Lost.l0 k l (r : Int) l (l.length : Int) ((i : Nat) : Int)) false := by
      intro d
      induction d with
      | zero => intro i hi; rw [Nat.add_zero] at hi; subst hi; exact stop i hb1 hb2
      | succ d ih =>
        intro i hi
        by_cases hg : 0 ≤ l.getD i 0 ∧ l.getD i 0 < ((2 ^ r : Nat) : Int) ∧ (i = 0 ∨ l.getD (i - 1) 0 < l.getD i 0)
        · exact step i (by omega) hg false (ih (i + 1) (by omega))
        · exact stop i (by omega) hg
    exact go b 0 (by omega)
end Go.Proofs.Ytklkcenffajfeaa.R
