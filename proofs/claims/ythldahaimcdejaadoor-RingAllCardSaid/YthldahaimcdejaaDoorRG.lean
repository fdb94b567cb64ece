/- Texts of polynomials: the document's digits and terms. -/
import Derived.Test.YthldahaimcdejaaDoorRingText
import Derived.Test.YthldahaimcdejaaDoorShelf
import Derived.Test.YthldahaimcdejaaDoorRB

namespace Go.Proofs.YthldahaimcdejaaDoor.A
open Go.RowKit Go.Deep Go.Proofs.YthldahaimcdejaaDoorW.PrintWords Go.Proofs.YthldahaimcdejaaDoorW.PrintLast Go.Proofs.YthldahaimcdejaaDoorW.PrintMore GP
set_option linter.unusedVariables false
set_option linter.unusedSimpArgs false
set_option maxRecDepth 100000
def bs (l : List UInt8) : ByteArray := ⟨l.toArray⟩
theorem ten_at : ∀ a : Fin 10, (⟨#[48, 49, 50, 51, 52, 53, 54, 55, 56, 57]⟩ : ByteArray).extract a.val (a.val + 1) = bs [(48 + a.val).toUInt8] := by decide +kernel
theorem bs_app (x y : List UInt8) : bs x ++ bs y = bs (x ++ y) := by unfold bs; rw [ByteArray.mk_append_mk]
set_option maxHeartbeats 1000000 in
theorem digits_walk (n : Nat) (h2 : 2 ≤ n) (h : n < 64) (w : World) : Calls Tryd.prog 72 #[.int .i64 (n : Int)] w fun e w' => e = .returned (.string (bs (RT.dig n))) ∧ Drawn0 w w' := by
  by_cases h10 : n < 10
  · have e0 : decide ((n : Int) < 10) = true := decide_eq_true (by omega)
    have e1 : IntKind.i64.wrap ((n : Int) + 1) = (n : Int) + 1 := by rw [IntKind.wrap_i64]; omega
    have e2 : (0 : Int) ≤ (n : Int) ∧ (n : Int) ≤ (n : Int) + 1 ∧ (n : Int) + 1 ≤ 10 := by omega
    go_enter Tryd.func72, Tryd.ntmps72
    go_wp2
    go_ret
    refine ⟨?_, Drawn0.refl _⟩
    show Ending.returned (Value.string _) = _
    rw [ten_at ⟨n, h10⟩]
    unfold RT.dig
    rw [if_pos h10]
  · have e0 : decide ((n : Int) < 10) = false := decide_eq_false (by omega)
    obtain ⟨a, ha⟩ : ∃ a, a = n / 10 := ⟨_, rfl⟩
    obtain ⟨b, hb⟩ : ∃ b, b = n % 10 := ⟨_, rfl⟩
    have e1 : Int.tdiv (n : Int) 10 = (a : Int) := by rw [ha, Int.tdiv_eq_ediv_of_nonneg (by omega)]; omega
    have e2 : Int.tmod (n : Int) 10 = (b : Int) := by rw [hb, Int.tmod_eq_emod_of_nonneg (by omega)]; omega
    have e1b : (n : Int) / 10 = (a : Int) := by omega
    have e2b : (n : Int) % 10 = (b : Int) := by omega
    have e3 : IntKind.i64.wrap (a : Int) = (a : Int) := by rw [IntKind.wrap_i64]; omega
    have e4 : IntKind.i64.wrap (b : Int) = (b : Int) := by rw [IntKind.wrap_i64]; omega
    have e5 : IntKind.i64.wrap ((a : Int) + 1) = (a : Int) + 1 := by rw [IntKind.wrap_i64]; omega
    have e6 : IntKind.i64.wrap ((b : Int) + 1) = (b : Int) + 1 := by rw [IntKind.wrap_i64]; omega
    have e7 : (0 : Int) ≤ (a : Int) ∧ (a : Int) ≤ (a : Int) + 1 ∧ (a : Int) + 1 ≤ 10 := by omega
    have e8 : (0 : Int) ≤ (b : Int) ∧ (b : Int) ≤ (b : Int) + 1 ∧ (b : Int) + 1 ≤ 10 := by omega
    have HAB := Aside0.mk (And.intro ha hb)
    have HAB2 := Aside0.mk (show a < 10 ∧ b < 10 by omega)
    clear ha hb
    go_enter Tryd.func72, Tryd.ntmps72
    go_wp2
    go_quiet (fail)
    go_wp2
    go_ret
    refine ⟨?_, ⟨⟨_, rfl⟩⟩⟩
    show Ending.returned (Value.string _) = _
    rw [ten_at ⟨a, HAB2.out.1⟩, ten_at ⟨b, HAB2.out.2⟩, bs_app]
    unfold RT.dig
    rw [if_neg h10, ← HAB.out.1, ← HAB.out.2]
    rfl
set_option maxHeartbeats 1000000 in
theorem term_walk (n : Nat) (h : n < 64) (w : World) : Calls Tryd.prog 64 #[.int .i64 (n : Int)] w fun e w' => e = .returned (.string (bs (RT.term n))) ∧ Drawn0 w w' := by
  by_cases h0 : n = 0
  · subst h0
    go_enter Tryd.func64, Tryd.ntmps64
    go_wp2
    go_ret
    exact ⟨rfl, Drawn0.refl _⟩
  by_cases h1 : n = 1
  · subst h1
    go_enter Tryd.func64, Tryd.ntmps64
    go_wp2
    go_ret
    exact ⟨rfl, Drawn0.refl _⟩
  have e0 : ((n : Int) == 0) = false := beq_eq_false_iff_ne.2 (by omega)
  have e1 : ((n : Int) == 1) = false := beq_eq_false_iff_ne.2 (by omega)
  have e0b : (n == 0) = false := beq_eq_false_iff_ne.2 h0
  have e1b : (n == 1) = false := beq_eq_false_iff_ne.2 h1
  have hd : (RT.dig n).length ≤ 2 := by unfold RT.dig; split <;> simp
  have hsz : (bs (RT.dig n)).size ≤ 2 := hd
  have D := Aside0.mk (digits_walk n (by omega) h w)
  have HT := Aside0.mk (show RT.term n = [120, 94] ++ RT.dig n by unfold RT.term; rw [if_neg h0, if_neg h1]; rfl)
  obtain ⟨dg, hdg⟩ : ∃ dg, dg = bs (RT.dig n) := ⟨_, rfl⟩
  rw [← hdg] at D hsz
  have HDG := Aside0.mk hdg
  clear hdg hd
  go_enter Tryd.func64, Tryd.ntmps64
  go_wp2_with fail
  (with_reducible refine D.out.mono ?_)
  clear D
  rintro e w' ⟨rfl, m, rfl⟩
  go_wp2_with fail
  go_ret
  refine ⟨?_, ⟨⟨m, rfl⟩⟩⟩
  show Ending.returned (Value.string _) = _
  rw [HDG.out, HT.out, ← bs_app]
  rfl
end Go.Proofs.YthldahaimcdejaaDoor.A
