/- Texts of polynomials: the document's Parse. -/
import Derived.Test.YthldahaimcdejaaDoorRI

namespace Go.Proofs.YthldahaimcdejaaDoor.A
open Go.RowKit Go.Deep Go.Proofs.YthldahaimcdejaaDoorW.PrintWords Go.Proofs.YthldahaimcdejaaDoorW.PrintLast Go.Proofs.YthldahaimcdejaaDoorW.PrintMore GP
set_option linter.unusedVariables false
set_option linter.unusedSimpArgs false
set_option maxRecDepth 100000
def parseR (l : List UInt8) : Int × Int := match RT.parse l with | some n => ((n : Int), 0) | none => (0, 13)
theorem seg_pre {rest t : List UInt8} (h : RT.seg rest = t) : rest.take t.length = t ∧ t.length ≤ rest.length ∧ (rest = t ∨ ∃ r, rest = t ++ 43 :: r) := by
  have hsplit : RT.seg rest ++ rest.dropWhile (· != 43) = rest := List.takeWhile_append_dropWhile ..
  rw [h] at hsplit
  refine ⟨by rw [← hsplit]; exact List.take_left, by rw [← hsplit, List.length_append]; omega, ?_⟩
  cases hd : rest.dropWhile (· != 43) with
  | nil => rw [hd, List.append_nil] at hsplit; exact .inl hsplit.symm
  | cons c r =>
    have hc : (c != 43) = false := by
      have := List.head?_dropWhile_not (fun c : UInt8 => c != 43) rest
      rw [hd] at this
      simpa using this
    have hc2 : c = 43 := by simpa using hc
    subst hc2
    rw [hd] at hsplit
    exact .inr ⟨r, hsplit.symm⟩
theorem pow_step (nn m x : Nat) : x + 2 * nn * 2 ^ m = x + nn * 2 ^ (m + 1) := by rw [Nat.pow_succ, Nat.mul_comm 2 nn, Nat.mul_assoc, Nat.mul_comm 2 (2 ^ m)]
theorem pow_step1 (nn m x : Nat) : x + (2 * nn + 1) * 2 ^ m = x + 2 ^ m + nn * 2 ^ (m + 1) := by
  have := pow_step nn m 0
  rw [Nat.add_mul, Nat.one_mul]
  omega
theorem next_no {l : List UInt8} {at' nn m : Nat} (htk : RT.take 64 l = (RT.take (m + 1) (l.drop at')).map (· + nn * 2 ^ (m + 1))) (h : RT.seg (l.drop at') ≠ RT.term m) : RT.take 64 l = (RT.take m (l.drop at')).map (· + 2 * nn * 2 ^ m) := by
  rw [htk, RT.take, if_neg h]
  cases RT.take m (l.drop at') with
  | none => rfl
  | some x => exact congrArg some (pow_step nn m x).symm
theorem next_all {l : List UInt8} {at' nn m : Nat} (hm : m < 64) (htk : RT.take 64 l = (RT.take (m + 1) (l.drop at')).map (· + nn * 2 ^ (m + 1))) (h : l.drop at' = RT.term m) : RT.take 64 l = (RT.take m []).map (· + (2 * nn + 1) * 2 ^ m) := by
  rw [htk, h, RT.take, if_pos (RT.seg_all (RT.term_no hm)).1, if_pos rfl]
  cases RT.take m [] with
  | none => rfl
  | some x => exact congrArg some (pow_step1 nn m x).symm
theorem next_plus {l r : List UInt8} {at' nn m : Nat} (hm : m < 64) (htk : RT.take 64 l = (RT.take (m + 1) (l.drop at')).map (· + nn * 2 ^ (m + 1))) (h : l.drop at' = RT.term m ++ 43 :: r) : (r = [] → RT.take 64 l = none) ∧ (r ≠ [] → RT.take 64 l = (RT.take m r).map (· + (2 * nn + 1) * 2 ^ m)) := by
  obtain ⟨s1, s2⟩ := RT.seg_app (t := RT.term m) (r := r) (RT.term_no hm)
  have hne : ¬ RT.term m ++ 43 :: r = RT.term m := fun e => by have := congrArg List.length e; simp at this
  refine ⟨fun hr => ?_, fun hr => ?_⟩
  · rw [htk, h, RT.take, if_pos s1, if_neg hne, s2, if_pos hr]; rfl
  · rw [htk, h, RT.take, if_pos s1, if_neg hne, s2, if_neg hr]
    cases RT.take m r with
    | none => rfl
    | some x => exact congrArg some (pow_step1 nn m x).symm
theorem parse_take {l : List UInt8} (h0 : ¬ l = [48]) (h1 : ¬ l = []) : RT.parse l = RT.take 64 l := by unfold RT.parse; rw [if_neg h0, if_neg h1]
theorem ext_list (l : List UInt8) (a b : Nat) : ((bs l).extract a (a + b)).toList = (l.drop a).take b := by
  rw [ByteArray.toList_eq]
  simp [bs, List.take_drop]
set_option maxHeartbeats 4000000 in
theorem refparse_walk (sx : ByteArray) (l : List UInt8) (hsl : sx = bs l) (hl : l.length ≤ 140737488351232) (w : World) : Calls Tryd.prog 59 #[.string sx] w fun e w' => e = .returned (.tuple #[.int .u64 (parseR l).1, .int .i64 (parseR l).2]) ∧ Below w.heap.size w w' := by
  have HS := Aside0.mk hsl
  have hsz : sx.size = l.length := by rw [hsl]; rfl
  have htl : sx.toList = l := by rw [hsl]; exact ByteArray.toList_mk l
  clear hsl
  by_cases h0 : l = [48]
  · have hq : (sx.toList == [48]) = true := by rw [htl, h0]; rfl
    clear htl hsz
    go_enter Tryd.func59, Tryd.ntmps59
    go_wp2
    go_ret2
    exact ⟨by rw [h0]; rfl, Below.refl _ _⟩
  by_cases h1 : l = []
  · have hq : (sx.toList == [48]) = false := by rw [htl, h1]; rfl
    have hq2 : sx.toList.isEmpty = true := by rw [htl, h1]; rfl
    clear htl hsz
    go_enter Tryd.func59, Tryd.ntmps59
    go_wp2
    go_ret2
    exact ⟨by rw [h1]; rfl, Below.refl _ _⟩
  have hq : (sx.toList == [48]) = false := by rw [htl]; exact beq_eq_false_iff_ne.2 h0
  have hq2 : sx.toList.isEmpty = false := by rw [htl]; cases l with
    | nil => exact absurd rfl h1
    | cons a b => rfl
  have HTL := Aside0.mk htl
  clear htl
  go_enter Tryd.func59, Tryd.ntmps59
  go_wp2
  go_loopg [4, 5, 6] 64 (fun k v4 v5 v6 wr => ∃ (q nn at' : Nat), v6 = .int .i64 ((q : Int) - 1) ∧ q = k ∧ q ≤ 64 ∧ v4 = .int .u64 (nn : Int) ∧ v5 = .int .i64 (at' : Int) ∧ at' ≤ l.length ∧ nn < 2 ^ (64 - q) ∧ RT.take 64 l = (RT.take q (l.drop at')).map (· + nn * 2 ^ q) ∧ Below w.heap.size w wr)
  case atStart => exact ⟨64, 0, 0, rfl, rfl, Nat.le_refl _, rfl, rfl, Nat.zero_le _, by decide, by rw [List.drop_zero, Nat.zero_mul]; cases RT.take 64 l <;> rfl, Below.refl _ _⟩
  case round =>
  obtain ⟨q, nn, at', rfl, rfl, hq64, rfl, rfl, hat, hnn, htk, hB⟩ := hrel
  have HR := Aside0.mk (And.intro htk hB)
  clear htk hB
  rcases q with _ | m
  · rw [show ((0 : Nat) : Int) - 1 = -1 from rfl]
    by_cases hend : at' = l.length
    · have hne : ((at' : Int) != (sx.size : Int)) = false := by rw [hsz, hend]; simp
      go_wp2
      go_ret2
      refine ⟨?_, HR.out.2⟩
      have : RT.parse l = some nn := by
        rw [parse_take h0 h1, HR.out.1, hend, List.drop_length]
        show some (0 + nn * 2 ^ 0) = _
        simp
      unfold parseR
      rw [this]; rfl
    · have hne : ((at' : Int) != (sx.size : Int)) = true := by rw [hsz]; simpa using fun e : (at' : Int) = (l.length : Int) => hend (by omega)
      go_wp2
      go_ret2
      refine ⟨?_, HR.out.2⟩
      have : RT.parse l = none := by
        rw [parse_take h0 h1, HR.out.1]
        have hd : ¬ l.drop at' = [] := fun e => by have := congrArg List.length e; rw [List.length_drop, List.length_nil] at this; omega
        rw [RT.take, if_neg hd]; rfl
      unfold parseR
      rw [this]; rfl
  rw [show (((m + 1 : Nat) : Int)) - 1 = (m : Int) by omega]
  have hms : m < 64 := by omega
  have hm0 : decide ((m : Int) ≥ 0) = true := decide_eq_true (by omega)
  have htl2 : (bs (RT.term m)).size ≤ 4 := RT.term_len ⟨m, hms⟩
  obtain ⟨tx, htx⟩ : ∃ tx, tx = bs (RT.term m) := ⟨_, rfl⟩
  have T := Aside0.mk (term_walk m hms wr)
  rw [← htx] at T htl2
  have HTX := Aside0.mk htx
  clear htx
  go_wp2_with fail
  (with_reducible refine T.out.mono ?_)
  clear T
  rintro e w' ⟨rfl, m2, rfl⟩
  obtain ⟨tl, htz⟩ : ∃ tl : Nat, tx.size = tl := ⟨_, rfl⟩
  rw [htz] at htl2
  have ee : IntKind.i64.wrap ((at' : Int) + (tl : Int)) = (at' : Int) + (tl : Int) := by rw [IntKind.wrap_i64]; omega
  have HTL2 := Aside0.mk (show tl = (RT.term m).length by rw [← htz, HTX.out]; rfl)
  have h2n : 2 * nn < 2 ^ (64 - m) := by
    have h2 : 2 ^ (64 - (m + 1)) * 2 = 2 ^ (64 - m) := by rw [← Nat.pow_succ]; congr 1; omega
    omega
  have en : IntKind.u64.wrap (2 * (nn : Int)) = 2 * (nn : Int) := by
    have : 2 * nn < 2 ^ 64 := by
      have h2 : 2 ^ (64 - (m + 1)) * 2 ≤ 2 ^ 64 := by rw [← Nat.pow_succ]; exact Nat.pow_le_pow_right (by decide) (by omega)
      omega
    rw [IntKind.wrap_u64]; omega
  by_cases hfit : at' + tl ≤ l.length
  case neg =>
    have hgt : decide ((l.length : Int) < (at' : Int) + (tl : Int)) = true := decide_eq_true (by omega)
    go_wp2
    go_roundg m
    case measure => omega
    case rel => exact ⟨m, 2 * nn, at', rfl, rfl, by omega, by rw [Int.natCast_mul]; rfl, rfl, hat, h2n, next_no HR.out.1 (fun e => by have := (seg_pre e).2.1; rw [List.length_drop, ← HTL2.out] at this; omega), pw_below_drewN HR.out.2 m2⟩
  have hgt : decide ((l.length : Int) < (at' : Int) + (tl : Int)) = false := decide_eq_false (by omega)
  have hbd : (0 : Int) ≤ (at' : Int) ∧ (at' : Int) ≤ (at' : Int) + (tl : Int) ∧ (at' : Int) + (tl : Int) ≤ (l.length : Int) := by omega
  have hexl : (sx.extract at' (at' + tl)).toList = (l.drop at').take tl := by rw [HS.out]; exact ext_list l at' tl
  have htxl : tx.toList = RT.term m := by rw [HTX.out]; exact ByteArray.toList_mk _
  by_cases hpre : (l.drop at').take tl = RT.term m
  case neg =>
    have hbq : ((sx.extract at' (at' + tl)).toList == tx.toList) = false := by rw [hexl, htxl]; exact beq_eq_false_iff_ne.2 hpre
    clear hexl htxl
    go_wp2
    go_roundg m
    case measure => omega
    case rel => exact ⟨m, 2 * nn, at', rfl, rfl, by omega, by rw [Int.natCast_mul]; rfl, rfl, hat, h2n, next_no HR.out.1 (fun e => hpre (by have := (seg_pre e).1; rw [← HTL2.out] at this; exact this)), pw_below_drewN HR.out.2 m2⟩
  have hbq : ((sx.extract at' (at' + tl)).toList == tx.toList) = true := by rw [hexl, htxl, hpre]; exact beq_self_eq_true _
  have hrest : l.drop at' = RT.term m ++ l.drop (at' + tl) := by
    have := List.take_append_drop tl (l.drop at')
    rw [hpre, List.drop_drop] at this
    exact this.symm
  have HRS := Aside0.mk hrest
  clear hexl htxl hpre hrest
  have e1w : IntKind.u64.wrap (2 * (nn : Int) + 1) = 2 * (nn : Int) + 1 := by
    have h3 : 2 ^ (64 - m) ≤ 2 ^ 64 := Nat.pow_le_pow_right (by decide) (by omega)
    rw [IntKind.wrap_u64]; omega
  have h2n1 : 2 * nn + 1 < 2 ^ (64 - m) := by
    have h2 : 2 ^ (64 - (m + 1)) * 2 = 2 ^ (64 - m) := by rw [← Nat.pow_succ]; congr 1; omega
    omega
  by_cases hend : at' + tl < l.length
  case neg =>
    have hlt0 : decide ((at' : Int) + (tl : Int) < (l.length : Int)) = false := decide_eq_false (by omega)
    go_wp2
    go_roundg m
    case measure => omega
    case rel => exact ⟨m, 2 * nn + 1, at' + tl, rfl, rfl, by omega, by rw [Int.natCast_add, Int.natCast_mul]; rfl, by rw [Int.natCast_add], by omega, h2n1, by
      have hd : l.drop (at' + tl) = [] := List.drop_eq_nil_of_le (by omega)
      rw [hd]
      exact next_all hms HR.out.1 (by rw [HRS.out, hd, List.append_nil]), pw_below_drewN HR.out.2 m2⟩
  have hlt0 : decide ((at' : Int) + (tl : Int) < (l.length : Int)) = true := decide_eq_true (by omega)
  have hbd2 : (0 : Int) ≤ (at' : Int) + (tl : Int) ∧ (at' : Int) + (tl : Int) < (l.length : Int) := by omega
  have hlz : at' + tl < sx.size := by omega
  have hcs : sx[at' + tl]'hlz = l[at' + tl]'hend := by
    have e := HS.out
    subst e
    rfl
  have hdc : l.drop (at' + tl) = l[at' + tl]'hend :: l.drop (at' + tl + 1) := List.drop_eq_getElem_cons hend
  obtain ⟨c, hc⟩ : ∃ c, c = l[at' + tl]'hend := ⟨_, rfl⟩
  rw [← hc] at hcs hdc
  have HC := Aside0.mk (And.intro hcs hdc)
  by_cases hc4 : c = 43
  case neg =>
    have hq4 : (((sx[at' + tl]'hlz).toNat : Int) != 43) = true := by
      rw [hcs]
      have : ¬ (c.toNat : Int) = 43 := fun e => hc4 (by apply UInt8.toNat_inj.1; show c.toNat = 43; omega)
      simpa using this
    clear hcs hdc hc
    go_wp2
    go_roundg m
    case measure => omega
    case rel => exact ⟨m, 2 * nn, at', rfl, rfl, by omega, by rw [Int.natCast_mul]; rfl, rfl, hat, h2n, next_no HR.out.1 (fun e => by
      rcases (seg_pre e).2.2 with h | ⟨r, h⟩
      · have h2 := HRS.out
        rw [h, HC.out.2] at h2
        have := congrArg List.length h2
        simp at this
      · have h2 := HRS.out
        rw [h, HC.out.2] at h2
        have h3 := List.append_cancel_left h2
        exact hc4 (List.cons.inj h3).1.symm), pw_below_drewN HR.out.2 m2⟩
  have hq4 : (((sx[at' + tl]'hlz).toNat : Int) != 43) = false := by
    rw [hcs, hc4]; rfl
  have hpl : l.drop at' = RT.term m ++ 43 :: l.drop (at' + tl + 1) := by rw [HRS.out, HC.out.2, hc4]
  have HPL := Aside0.mk (next_plus hms HR.out.1 hpl)
  have ew1 : IntKind.i64.wrap ((at' : Int) + (tl : Int) + 1) = (at' : Int) + (tl : Int) + 1 := by rw [IntKind.wrap_i64]; omega
  clear hcs hdc hc hpl
  by_cases hE : at' + tl + 1 = l.length
  · have hEq : (((at' : Int) + (tl : Int) + 1) == (l.length : Int)) = true := by
      have : (at' : Int) + (tl : Int) + 1 = (l.length : Int) := by omega
      rw [this]; simp
    go_wp2
    go_ret2
    refine ⟨?_, pw_below_drewN HR.out.2 m2⟩
    have : RT.parse l = none := by
      rw [parse_take h0 h1]
      exact HPL.out.1 (List.drop_eq_nil_of_le (by omega))
    unfold parseR
    rw [this]; rfl
  · have hEq : (((at' : Int) + (tl : Int) + 1) == (l.length : Int)) = false := by
      have : ¬ (at' : Int) + (tl : Int) + 1 = (l.length : Int) := by omega
      simpa using this
    go_wp2
    go_roundg m
    case measure => omega
    case rel => exact ⟨m, 2 * nn + 1, at' + tl + 1, rfl, rfl, by omega, by rw [Int.natCast_add, Int.natCast_mul]; rfl, by rw [Int.natCast_add, Int.natCast_add]; rfl, by omega, h2n1, HPL.out.2 (fun e => by have := congrArg List.length e; rw [List.length_drop, List.length_nil] at this; omega), pw_below_drewN HR.out.2 m2⟩
end Go.Proofs.YthldahaimcdejaaDoor.A
