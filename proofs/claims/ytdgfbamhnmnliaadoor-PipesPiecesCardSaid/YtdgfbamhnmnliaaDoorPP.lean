/- Full over a source; source; steady. -/
import Derived.Test.YtdgfbamhnmnliaaDoorPO
namespace Go.Proofs.YtdgfbamhnmnliaaDoor.A
open Go.RowKit Go.Deep Go.Proofs.YtdgfbamhnmnliaaDoor.R Go.Proofs.YtdgfbamhnmnliaaDoorW.PrintWords Go.Proofs.YtdgfbamhnmnliaaDoorW.PrintLast Go.Proofs.YtdgfbamhnmnliaaDoorW.PrintMore
set_option linter.unusedVariables false
set_option linter.unusedSimpArgs false
set_option maxRecDepth 100000
set_option maxHeartbeats 1000000 in
theorem full_is (lo hi g bk : Nat) (vD vC : Value) (D C : List Int) (f code : Int) (pl tu : Nat) (gp n : Nat) (ae : Addr) (w : World) (hS : Src w lo hi g bk vD vC D C f code pl tu) (hn2 : n ≤ 1048576) (hpf : 0 ≤ f → (pl : Int) ≤ f) (hf2 : f ≤ 9223372036854775807) (hpl : pl ≤ D.length) (hD : D.length ≤ 140737488355328) (hCl : C.length ≤ 140737488355328) (htu : tu < 2 ^ 59)
    (hgp : w.heap[gp]? = some (.cells ((bufL D pl n 0).map (Value.int .u8)).toArray 5 (0, 0))) (hne : gp < lo ∨ hi ≤ gp) (hst : stC C) (hE : w.cell? ⟨0, 0, none⟩ = some (.iface 109 (.pointer (some ae)))) (hg0 : 0 < lo ∧ 0 < gp) :
    Calls Tryd.prog 17 #[.iface 27 (.pointer (some ⟨g, 0, none⟩)), .slice (some ⟨gp, 0, none⟩) n n] w fun e w' => e = .returned (.tuple #[.int .i64 ((flK D f pl n : Nat) : Int), errV (flE D f pl n) bk ae]) ∧
      ∃ tu' : Nat, Src w' lo hi g bk vD vC D C f code ((pl + flK D f pl n : Nat) : Int) tu' ∧ tu' ≤ tu + 50 * (flK D f pl n + 1) ∧ Fr (fun k => k = g ∨ k = gp) w w' ∧ w'.heap[gp]? = some (.cells ((bufL D pl n (flK D f pl n)).map (Value.int .u8)).toArray 5 (0, 0)) := by
  have T := Aside0.mk (through_is lo hi g bk vD vC D C f code pl tu gp n ae w hS hn2 hpf hf2 hpl hD hCl htu hgp hne hst hE hg0)
  clear hS hpf hf2 hpl hD hCl htu hgp hne hst hE hg0
  have hmf : ∀ (fn : Fn) (first cap : Array Value) (w : World), (Instr.makeFunc fn first cap).run Tryd.prog w = .ok (.func fn first cap) w := fun _ _ _ _ => rfl
  go_enter Tryd.func17, Tryd.ntmps17
  go_wp2_with fail
  (with_reducible refine T.out.mono ?_)
  clear T
  rintro e w' ⟨rfl, h⟩
  have H := Aside0.mk h
  clear h
  go_wp2_with fail
  go_ret2
  exact ⟨rfl, H.out⟩
/-- What steady says. -/
def stB (C : List Int) : Bool := decide (C.length < 50) && (C.any (fun x => decide (0 < x)) || C.isEmpty)
theorem stB_stC {C : List Int} (h : stB C = true) : stC C := by
  unfold stB at h
  simp only [Bool.and_eq_true, decide_eq_true_eq, Bool.or_eq_true, List.any_eq_true, List.isEmpty_iff] at h
  obtain ⟨h1, ⟨x, hx, h2⟩ | h2⟩ := h
  · obtain ⟨r, hr, rfl⟩ := List.getElem_of_mem hx
    exact .inr ⟨h1, r, hr, by rw [List.getD_eq_getElem?_getD, List.getElem?_eq_getElem hr]; exact h2⟩
  · exact .inl h2
theorem steady_l0 (C : List Int) (hC : C.length < 50) : ∀ m j : Nat, C.length - j = m → j ≤ C.length → Ev (fun k => culletlaw22_steady.l0 k C j) ((C.drop j).any (fun x => decide (0 < x)) || C.isEmpty) := by
  intro m
  induction m with
  | zero =>
    intro j hm hj
    refine Ev.step (fun k => culletlaw22_steady.l0.eq_2 _ _ k) ?_
    simp only [if_neg (show ¬ ((j : Nat) : Int) < (C.length : Nat) by omega)]
    rw [List.drop_eq_nil_of_le (by omega)]
    have : ((C.length : Int) == 0) = C.isEmpty := by cases C <;> simp <;> omega
    rw [this]
    exact Ev.now _
  | succ m ih =>
    intro j hm hj
    refine Ev.step (fun k => culletlaw22_steady.l0.eq_2 _ _ k) ?_
    simp only [if_pos (show ((j : Nat) : Int) < (C.length : Nat) by omega), if_pos (show (0 : Int) ≤ ((j : Nat) : Int) by omega)]
    have hjl : j < C.length := by omega
    have hrd : rd C (j : Int) = C[j] := by
      unfold rd
      rw [Int.toNat_natCast, List.getD_eq_getElem?_getD, List.getElem?_eq_getElem hjl]; rfl
    rw [List.drop_eq_getElem_cons hjl, List.any_cons, hrd]
    by_cases hp : 0 < C[j]
    · simp only [if_pos (show C[j] > 0 from hp), decide_eq_true hp, Bool.true_or]
      exact Ev.now _
    · simp only [if_neg (show ¬ C[j] > 0 from hp), decide_eq_false hp, Bool.false_or]
      have := ih (j + 1) (by omega) (by omega)
      rw [show wrap64 ((j : Int) + 1) = ((j + 1 : Nat) : Int) by unfold wrap64; omega]
      exact this
theorem steady_is (A : Option Addr) (c : Nat) (C : List Int) (w : World) (hr : Kd.C (Kd.int .i64) w A C.length C) (hc : C.length ≤ c) : Calls Tryd.prog 24 #[.slice A C.length c] w fun e w' => e = .returned (.bool (stB C)) ∧ Drawn0 w w' := by
  have hE : Ev (fun k => culletlaw22_steady.f k C) (stB C) := by
    unfold culletlaw22_steady.f stB
    by_cases h : C.length < 50
    · simp only [if_neg (show ¬ (C.length : Int) ≥ 50 by omega), decide_eq_true h, Bool.true_and]
      exact steady_l0 C h _ 0 rfl (Nat.zero_le _)
    · simp only [if_pos (show (C.length : Int) ≥ 50 by omega), decide_eq_false h, Bool.false_and]
      exact Ev.now _
  obtain ⟨k, hk⟩ := hE.rounds
  exact culletlaw22_steady.calls k A c C (stB C) w hr hc hk
end Go.Proofs.YtdgfbamhnmnliaaDoor.A
