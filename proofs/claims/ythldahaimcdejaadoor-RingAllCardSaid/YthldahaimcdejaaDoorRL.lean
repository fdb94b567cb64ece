/- Texts of polynomials: the contracts told to the printer. -/
import Derived.Test.YthldahaimcdejaaDoorRK

namespace Go.Proofs.YthldahaimcdejaaDoor.A
open Go.RowKit Go.Deep Go.Proofs.YthldahaimcdejaaDoorW.PrintWords Go.Proofs.YthldahaimcdejaaDoorW.PrintLast Go.Proofs.YthldahaimcdejaaDoorW.PrintMore GP
set_option linter.unusedVariables false
def ring_Text.f (a0 : Int) : Option ByteArray := if 0 ≤ a0 ∧ a0 < 18446744073709551616 then some (bs (RT.text a0.toNat)) else none
def culletref01_Text.f (a0 : Int) : Option ByteArray := if 0 ≤ a0 ∧ a0 < 18446744073709551616 then some (bs (RT.text a0.toNat)) else none
def ring_Parse.f (s : ByteArray) : Option (Int × Int) := if s.size ≤ 140737488351232 then some (parseR s.toList) else none
def culletref01_Parse.f (s : ByteArray) : Option (Int × Int) := if s.size ≤ 140737488351232 then some (parseR s.toList) else none
theorem ring_Text.calls (a0 : Int) (r : ByteArray) (w : World) (h : ring_Text.f a0 = some r) : Calls Tryd.prog 16 #[.int .u64 a0] w fun e w' => e = .returned (.string r) ∧ Below w.heap.size w w' := by
  unfold ring_Text.f at h
  by_cases hc : 0 ≤ a0 ∧ a0 < 18446744073709551616
  · rw [if_pos hc] at h
    obtain ⟨a, rfl⟩ := Int.eq_ofNat_of_zero_le hc.1
    have h' := Option.some.inj h
    rw [Int.toNat_natCast] at h'
    rw [← h']
    exact text_walk a (by omega) w
  · rw [if_neg hc] at h; cases h
theorem culletref01_Text.calls (a0 : Int) (r : ByteArray) (w : World) (h : culletref01_Text.f a0 = some r) : Calls Tryd.prog 57 #[.int .u64 a0] w fun e w' => e = .returned (.string r) ∧ Below w.heap.size w w' := by
  unfold culletref01_Text.f at h
  by_cases hc : 0 ≤ a0 ∧ a0 < 18446744073709551616
  · rw [if_pos hc] at h
    obtain ⟨a, rfl⟩ := Int.eq_ofNat_of_zero_le hc.1
    have h' := Option.some.inj h
    rw [Int.toNat_natCast] at h'
    rw [← h']
    exact reftext_walk a (by omega) w
  · rw [if_neg hc] at h; cases h
theorem bs_list (s : ByteArray) : s = bs s.toList ∧ s.toList.length = s.size := by
  obtain ⟨d⟩ := s
  rw [ByteArray.toList_mk]
  exact ⟨rfl, rfl⟩
theorem ring_Parse.calls (s : ByteArray) (r1 r2 : Int) (w : World) (h : ring_Parse.f s = some (r1, r2)) : Calls Tryd.prog 58 #[.string s] w fun e w' => e = .returned (.tuple #[.int .u64 r1, .int .i64 r2]) ∧ Below w.heap.size w w' := by
  unfold ring_Parse.f at h
  by_cases hc : s.size ≤ 140737488351232
  · rw [if_pos hc] at h
    have h' := Option.some.inj h
    have := parse_walk s s.toList (bs_list s).1 (by rw [(bs_list s).2]; exact hc) w
    rw [h'] at this
    exact this
  · rw [if_neg hc] at h; cases h
theorem culletref01_Parse.calls (s : ByteArray) (r1 r2 : Int) (w : World) (h : culletref01_Parse.f s = some (r1, r2)) : Calls Tryd.prog 59 #[.string s] w fun e w' => e = .returned (.tuple #[.int .u64 r1, .int .i64 r2]) ∧ Below w.heap.size w w' := by
  unfold culletref01_Parse.f at h
  by_cases hc : s.size ≤ 140737488351232
  · rw [if_pos hc] at h
    have h' := Option.some.inj h
    have := refparse_walk s s.toList (bs_list s).1 (by rw [(bs_list s).2]; exact hc) w
    rw [h'] at this
    exact this
  · rw [if_neg hc] at h; cases h
end Go.Proofs.YthldahaimcdejaaDoor.A
