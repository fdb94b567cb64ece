/-
RingTexts: every Text and Parse of the script is the document's. No condition.
-/
import Derived.Test.YthldahaimcdejaaDoorRingFns3
import Derived.Test.YthldahaimcdejaaDoorTx3

namespace Go.Proofs.YthldahaimcdejaaDoor.Pure
open Go.RowKit Go.Proofs.YthldahaimcdejaaDoor.T Go.Proofs.YthldahaimcdejaaDoor.A Go.Proofs.YthldahaimcdejaaDoorW.PrintWords Go.Proofs.YthldahaimcdejaaDoorW.PrintLast Go.Proofs.YthldahaimcdejaaDoorW.PrintMore Go.Proofs.YthldahaimcdejaaDoor.R GP
set_option linter.unusedVariables false
set_option linter.unusedSimpArgs false
theorem all_l0 {l : List S26} {lo hi : Int} (hl : l.length * 48 ≤ 140737488351232) (h : ∀ x ∈ l, lo ≤ x.f0 → x.f0 ≤ hi → Ev (fun k => culletlaw01_plays.f k x.f0 x.f1 x.f2 x.f3 x.f4) true) :
    ∀ m j : Nat, l.length - j = m → j ≤ l.length → Ev (fun k => culletlaw01_all.l0 k lo hi l (l.length : Int) j) true := by
  intro m
  induction m with
  | zero =>
    intro j hm hj
    refine Ev.step (fun k => culletlaw01_all.l0.eq_2 _ _ _ _ _ k) ?_
    simp only [if_neg (show ¬ ((j : Nat) : Int) < (l.length : Nat) by omega)]
    exact Ev.now _
  | succ m ih =>
    intro j hm hj
    have hjl : j < l.length := by omega
    have ihj := ih (j + 1) (by omega) (by omega)
    refine Ev.step (fun k => culletlaw01_all.l0.eq_2 _ _ _ _ _ k) ?_
    have hx : rd_T26 l (j : Nat) = l[j] := by unfold rd_T26; rw [Int.toNat_natCast, List.getD_eq_getElem?_getD, List.getElem?_eq_getElem hjl]; rfl
    simp only [if_pos (show ((j : Nat) : Int) < (l.length : Nat) by omega), if_pos (show (0 : Int) ≤ ((j : Nat) : Int) by omega), hx]
    rw [wrap64_id (by omega) (by omega), show (j : Int) + 1 = ((j + 1 : Nat) : Int) by omega]
    by_cases h1 : l[j].f0 ≥ lo
    · simp only [if_pos h1]
      by_cases h2 : l[j].f0 ≤ hi
      · simp only [if_pos h2]
        refine Ev.bind (h _ (List.getElem_mem hjl) h1 h2) ?_
        simp only [if_true]
        exact ihj
      · simp only [if_neg h2]
        exact ihj
    · simp only [if_neg h1]
      exact ihj
theorem all_ok {l : List S26} {lo hi : Int} (hl : l.length * 48 ≤ 140737488351232) (h : ∀ x ∈ l, lo ≤ x.f0 → x.f0 ≤ hi → Ev (fun k => culletlaw01_plays.f k x.f0 x.f1 x.f2 x.f3 x.f4) true) :
    Ev (fun k => culletlaw01_all.f k l lo hi) true := all_l0 hl h _ 0 rfl (Nat.zero_le _)
theorem text_f {a : Nat} (ha : a < 2 ^ 64) : ring_Text.f a = some (bs (RT.text a)) ∧ culletref01_Text.f a = some (bs (RT.text a)) := by
  unfold ring_Text.f culletref01_Text.f
  rw [if_pos (by omega), Int.toNat_natCast]
  exact ⟨rfl, rfl⟩
theorem texts_ok (kd : Int) {a : Nat} (b c : Int) (s : ByteArray) (ha : a < 2 ^ 64) (hs : s.size ≤ 140737488351232) : culletlaw01_texts.f kd a b c s = some true := by
  unfold culletlaw01_texts.f
  by_cases h1 : kd = 12
  · rw [if_pos h1, (text_f ha).1, (text_f ha).2, Option.bind_some, Option.bind_some, beq_self_eq_true]
  · rw [if_neg h1]
    unfold ring_Parse.f culletref01_Parse.f
    rw [if_pos hs, Option.bind_some, Option.bind_some, if_pos rfl, beq_self_eq_true]
theorem RingTexts : culletlaw01_RingTexts.Pure := by
  intro l h
  obtain ⟨hl, hok⟩ := h
  apply Ev.rounds
  unfold culletlaw01_RingTexts.f
  have h6 : (bs (RT.text 6)).toList = [120, 94, 50, 43, 120] := by
    rw [show bs (RT.text 6) = ⟨(RT.text 6).toArray⟩ from rfl, ByteArray.toList_mk]
    decide +kernel
  rw [show (ring_Text.f 6) = some (bs (RT.text 6)) from (text_f (a := 6) (by decide)).1]
  simp only [Option.bind_some, if_pos h6]
  refine Ev.bind (all_ok hl (fun x hx h1 h2 => ?_)) (Ev.now _)
  obtain ⟨w0, w1, w2, w3, w4⟩ := hok x hx
  obtain ⟨a, ea, ha⟩ := of_u64 w1
  rw [ea]
  have key := texts_ok x.f0 x.f2 x.f3 x.f4 ha w4
  have hk : x.f0 = 12 ∨ x.f0 = 13 := by omega
  have st3 : Ev (fun k => culletlaw01_plays.j3 k x.f0 false x.f0 a x.f2 x.f3 x.f4) true := by
    refine Ev.step (fun k => culletlaw01_plays.j3.eq_2 _ _ _ _ _ _ _ k) ?_
    rcases hk with e | e
    · rw [e] at key
      simp only [e, Bool.false_eq_true, if_false, if_true, key, Option.bind_some]
      exact Ev.now _
    · rw [e] at key
      simp only [e, Bool.false_eq_true, if_false, if_true, if_neg (show ¬ ((13 : Int) = 12) by omega), key, Option.bind_some]
      exact Ev.now _
  have st2 : Ev (fun k => culletlaw01_plays.j2 k x.f0 false x.f0 a x.f2 x.f3 x.f4) true := by
    refine Ev.step (fun k => culletlaw01_plays.j2.eq_2 _ _ _ _ _ _ _ k) ?_
    have e11 : (x.f0 == 11) = false := beq_eq_false_iff_ne.2 (by omega)
    simp only [Bool.false_eq_true, if_false, if_neg (show ¬ x.f0 = 9 by omega), if_neg (show ¬ x.f0 = 10 by omega), e11]
    exact st3
  have st1 : Ev (fun k => culletlaw01_plays.j1 k x.f0 false x.f0 a x.f2 x.f3 x.f4) true := by
    refine Ev.step (fun k => culletlaw01_plays.j1.eq_2 _ _ _ _ _ _ _ k) ?_
    have e8 : (x.f0 == 8) = false := beq_eq_false_iff_ne.2 (by omega)
    simp only [Bool.false_eq_true, if_false, if_neg (show ¬ x.f0 = 6 by omega), if_neg (show ¬ x.f0 = 7 by omega), e8]
    exact st2
  have st0 : Ev (fun k => culletlaw01_plays.j0 k x.f0 false x.f0 a x.f2 x.f3 x.f4) true := by
    refine Ev.step (fun k => culletlaw01_plays.j0.eq_2 _ _ _ _ _ _ _ k) ?_
    have e5 : (x.f0 == 5) = false := beq_eq_false_iff_ne.2 (by omega)
    simp only [Bool.false_eq_true, if_false, if_neg (show ¬ x.f0 = 4 by omega), e5]
    exact st1
  unfold culletlaw01_plays.f
  have e3 : (x.f0 == 3) = false := beq_eq_false_iff_ne.2 (by omega)
  simp only [if_neg (show ¬ x.f0 = 1 by omega), if_neg (show ¬ x.f0 = 2 by omega), e3]
  exact st0
end Go.Proofs.YthldahaimcdejaaDoor.Pure
