/- The document's Words, walked by hand: it answers what the layer's Words answers. -/
import Derived.Test.YtkdoilmfchlpdaaWordsRef
import Derived.Test.YtkdoilmfchlpdaaQuietTail
import Derived.Outline
import Derived.BigQuiet
import Derived.Deep.QuietTactic

namespace Go.Proofs.Ytkdoilmfchlpdaa.A
open Go.RowKit Go.Deep Go.Proofs.YtkdoilmfchlpdaaW.PrintWords Go.Proofs.YtkdoilmfchlpdaaW.PrintLast Go.Proofs.YtkdoilmfchlpdaaW.PrintMore Go.Proofs.Ytkdoilmfchlpdaa.R Go.Proofs.Ytkdoilmfchlpdaa.RI GP
set_option linter.unusedVariables false
set_option linter.unusedSimpArgs false
theorem info42w : (Try.prog.info? 42).map (fun i => (i.zero, i.size, i.bytes)) = some (some (.int .u16 0), 1, 2) := by kernel_rfl
set_option maxHeartbeats 1000000 in
theorem elements62 (w : World) : Calls Try.prog 62 #[] w fun e w' => ∃ g, e = .returned (.slice (some ⟨g, 0, none⟩) 65536 65536) ∧ w'.rowIs g 42 65536 (fun j => .int .u16 ((wel j : Nat) : Int)) ∧ w.heap.size ≤ g ∧ Below w.heap.size w w' := by
  go_enter Try.func62, Try.ntmps62
  go_wp2_with fail
  refine (elements_row 16 (by omega) w).mono ?_
  rintro e w1 ⟨g, rfl, hR, hg, hb⟩
  go_wp2_with fail
  go_ret
  exact ⟨g, rfl, hR, hg, hb⟩
theorem wr_small {x : Int} {d : Nat} (h : x = (d : Int)) (hd : d < 65536) : wrap64 x = (d : Int) ∧ IntKind.i64.wrap x = (d : Int) := by
  subst h
  refine ⟨w64 (by omega) (by omega), ?_⟩
  rw [IntKind.wrap_i64]; omega
theorem quo_nat {x y : Int} {p q d : Nat} (hx : x = (q : Int)) (hy : y = (p : Int)) (hd : d = q / p) : Int.tdiv x y = (d : Int) ∧ x / y = (d : Int) := by
  subst hx hy hd
  exact ⟨rfl, rfl⟩
def culletref11_Words.f (k m j : Int) : Option (List Int × Int) := gener_Words.f k m j
set_option maxHeartbeats 4000000 in
set_option maxRecDepth 100000 in
theorem culletref11_Words.calls (a0 a1 a2 : Int) (r1 : List Int) (r2 : Int) (w : World) (b0 : a0 ≤ 9223372036854775807) (h : culletref11_Words.f a0 a1 a2 = some (r1, r2)) :
    Calls Try.prog 37 #[.int .i64 a0, .int .i64 a1, .int .i64 a2] w fun e w' => ∃ v0_ : Value, e = .returned (.tuple #[v0_, .int .i64 r2]) ∧ Kd.R (Kd.int .u16) 42 w' w.heap.size (fun _ => True) v0_ r1 ∧ Below w.heap.size w w' := by
  unfold culletref11_Words.f gener_Words.f at h
  have two : ∀ {x y : List Int × Int}, some x = some y → x.1 = y.1 ∧ x.2 = y.2 := fun e => by rw [Option.some.inj e]; exact ⟨rfl, rfl⟩
  by_cases hp : 1 ≤ a0 ∧ 1 ≤ a1 ∧ a0 ≤ 65536 ∧ a1 ≤ 65536
  rotate_left
  · rw [if_neg hp] at h
    obtain ⟨e1, e2⟩ := two h
    obtain rfl : r1 = [] := e1.symm
    obtain rfl : r2 = 4 := e2.symm
    have HP := Aside0.mk hp
    clear h two e1 e2 hp
    go_enter Try.func37, Try.ntmps37
    go_wp2_with fail
    all_goals first
      | (go_ret2; exact ⟨_, rfl, Kd.R_nil _ _ _ _ _, Below.refl _ _⟩)
      | (exfalso; apply HP.out; refine ⟨?_, ?_, ?_, ?_⟩ <;> omega)
  rw [if_pos hp] at h
  obtain ⟨k, rfl⟩ := Int.eq_ofNat_of_zero_le (show 0 ≤ a0 by omega)
  obtain ⟨m, rfl⟩ := Int.eq_ofNat_of_zero_le (show 0 ≤ a1 by omega)
  obtain ⟨p1, p2, p3, p4⟩ := hp
  obtain ⟨kp, hkp⟩ := (Pow2_of (m := m) (by omega) (by omega)).rounds
  obtain ⟨hu16, hmp⟩ := lgw_le (m := m) (by omega) (by omega)
  obtain ⟨u, hu⟩ : ∃ u, u = lgw (m : Int) := ⟨_, rfl⟩
  rw [← hu] at h hu16 hmp hkp
  obtain ⟨p, hpp⟩ : ∃ p, p = 2 ^ u := ⟨_, rfl⟩
  have hp0 : 1 ≤ p := by rw [hpp]; exact Nat.two_pow_pos _
  have hp6 : p ≤ 65536 := by rw [hpp]; exact (show 2 ^ u ≤ 2 ^ 16 from Nat.pow_le_pow_right (by decide) hu16)
  rw [← hpp] at h hmp hkp
  have HKP := Aside0.mk (fun w => culletref11_Pow2.calls kp (m : Int) _ w hkp)
  have HPP := Aside0.mk hpp
  have hsum : (k : Int) + (p : Int) = ((p + k : Nat) : Int) := by omega
  clear hu hpp hkp
  by_cases hq : (p : Int) + (k : Int) ≤ 65536
  rotate_left
  · rw [if_neg hq] at h
    obtain ⟨e1, e2⟩ := two h
    obtain rfl : r1 = [] := e1.symm
    obtain rfl : r2 = 4 := e2.symm
    clear h two e1 e2
    have d1 : decide ((65536 : Int) < (k : Int) + (p : Int)) = true := decide_eq_true (by omega)
    go_enter Try.func37, Try.ntmps37
    go_wp2_with fail
    refine (HKP.out _).mono ?_
    rintro e w1 ⟨rfl, hD⟩
    obtain ⟨n1, rfl⟩ := hD.out
    go_wp2_with fail
    go_ret2
    exact ⟨_, rfl, Kd.R_nil _ _ _ _ _, pw_below_drewN (Below.refl _ _) n1⟩
  rw [if_pos hq] at h
  have d1 : decide ((65536 : Int) < (k : Int) + (p : Int)) = false := decide_eq_false (by omega)
  by_cases hj : 0 ≤ a2 ∧ a2 < (m : Int)
  rotate_left
  · rw [if_neg hj] at h
    obtain ⟨e1, e2⟩ := two h
    obtain rfl : r1 = [] := e1.symm
    obtain rfl : r2 = 7 := e2.symm
    have HJ := Aside0.mk hj
    clear h two e1 e2 hj
    go_enter Try.func37, Try.ntmps37
    go_wp2_with fail
    refine (HKP.out _).mono ?_
    rintro e w1 ⟨rfl, hD⟩
    obtain ⟨n1, rfl⟩ := hD.out
    go_wp2_with fail
    all_goals first
      | (go_ret2; exact ⟨_, rfl, Kd.R_nil _ _ _ _ _, pw_below_drewN (Below.refl _ _) n1⟩)
      | (exfalso; apply HJ.out; constructor <;> omega)
  rw [if_pos hj] at h
  obtain ⟨j, rfl⟩ := Int.eq_ofNat_of_zero_le hj.1
  obtain ⟨e1, e2⟩ := two h
  obtain rfl := e1.symm
  obtain rfl : r2 = 0 := e2.symm
  have hjm : j < m := by omega
  rw [Int.toNat_natCast, Int.toNat_natCast]
  obtain ⟨F, hF⟩ : ∃ F : Nat → Nat, F = wfac u j := ⟨_, rfl⟩
  rw [← hF]
  have HF := Aside0.mk hF
  obtain ⟨i42, hi42, hz42, hs42, hb42⟩ := info_parts info42w
  have D42 := Aside0.mk (And.intro hi42 (And.intro hz42 (And.intro hs42 hb42)))
  have q1 : decide ((k : Int) < 1) = false := decide_eq_false (by omega)
  have q2 : decide ((m : Int) < 1) = false := decide_eq_false (by omega)
  have q3 : decide ((65536 : Int) < (m : Int)) = false := decide_eq_false (by omega)
  have q4 : decide ((65536 : Int) < (k : Int)) = false := decide_eq_false (by omega)
  have q5 : decide ((j : Int) < 0) = false := decide_eq_false (by omega)
  have q6 : decide ((65536 : Int) < (p : Int) + (k : Int)) = false := decide_eq_false (by omega)
  clear h two e1 e2 hF hj hi42 hz42 hs42 hb42
  go_enter Try.func37, Try.ntmps37
  go_wp2_with fail
  refine (HKP.out _).mono ?_
  rintro e w1 ⟨rfl, hD⟩
  obtain ⟨n1, rfl⟩ := hD.out
  go_wp2_with fail
  refine (HKP.out _).mono ?_
  rintro e w2 ⟨rfl, hD2⟩
  obtain ⟨n2, rfl⟩ := hD2.out
  go_wp2_with fail
  refine (elements62 _).mono ?_
  rintro e w3 ⟨g, rfl, hR, hgw, hb⟩
  have B0 := Aside0.mk ((pw_below_drewN (Below.refl w.heap.size w) (n1 + n2)).trans hb)
  have R0 := Aside0.mk hR
  clear hD hD2 hR hb hsum d1 q1 q2 q3 q4 q5 q6
  go_wp2_with fail
  go_loopg [8, 11, 12, 13] k (fun kq v8 v11 v12 v13 wr => ∃ (i : Nat) (pv : Value), kq = k - i ∧ i ≤ k ∧ v11 = .int .i64 (i : Int) ∧ pv = v8 ∧ wr.ownsRow w3.heap.size 42 1 pv i ((List.range i).map fun a => Value.int .u16 ((F a : Nat) : Int)) ∧ Below w3.heap.size w3 wr)
  case atStart => exact ⟨0, _, rfl, Nat.zero_le _, rfl, rfl, own_nil _ _ _ _, Below.refl _ _⟩
  case round =>
    obtain ⟨i, pv, rfl, hi, rfl, rfl, hO, hB⟩ := hrel
    have O1 := Aside0.mk hO
    have B1 := Aside0.mk hB
    clear hO hB
    by_cases hlt : i < k
    · have RW := Aside0.mk (R0.out.of_block (B1.out.block g R0.out.lt))
      obtain ⟨d, hd⟩ : ∃ d, d = (p + i) / p := ⟨_, rfl⟩
      have hd6 : d < 65536 := by rw [hd]; exact Nat.lt_of_le_of_lt (Nat.div_le_self _ _) (by omega)
      have HD := Aside0.mk hd
      clear hd
      obtain ⟨q, hq2⟩ : ∃ q, q = p + i := ⟨_, rfl⟩
      have hq6 : q < 65536 := by omega
      have hqs : (p : Int) + (i : Int) = (q : Int) := by omega
      have hjq : j ≠ q := by omega
      have hqq : IntKind.i64.wrap (q : Int) = (q : Int) := (wr_small rfl hq6).2
      have hqw : IntKind.i64.wrap ((p : Int) + (i : Int)) = (q : Int) := by rw [hqs]; exact hqq
      have cd := RW.out.cell hd6
      have cq := RW.out.cell hq6
      have cj := RW.out.cell (show j < 65536 by omega)
      obtain ⟨wd, hwd⟩ : ∃ x, x = wel d := ⟨_, rfl⟩
      obtain ⟨wq, hwq⟩ : ∃ x, x = wel q := ⟨_, rfl⟩
      obtain ⟨wj, hwj⟩ : ∃ x, x = wel j := ⟨_, rfl⟩
      have hwd6 : wd < 65536 := by rw [hwd]; exact wel_lt d
      have hwq6 : wq < 65536 := by rw [hwq]; exact wel_lt q
      have hwj6 : wj < 65536 := by rw [hwj]; exact wel_lt j
      rw [← hwd] at cd
      rw [← hwq] at cq
      rw [← hwj] at cj
      have hxr : Go.bits .xor .u16 (wj : Int) (wq : Int) = ((wj ^^^ wq : Nat) : Int) := bits_xor16 hwj6 hwq6
      obtain ⟨x, hx⟩ : ∃ x, x = wj ^^^ wq := ⟨_, rfl⟩
      have hx6 : x < 65536 := by rw [hx]; exact xor16 hwj6 hwq6
      have hjql : j ^^^ q < 65536 := xor16 (by omega) hq6
      have hx0 : x ≠ 0 := by
        rw [hx, hwj, hwq, ← wel_xor]
        exact wel_ne0 hjql (fun e => hjq (xor_eq_zero.1 e))
      rw [← hx] at hxr
      obtain ⟨y, hy⟩ : ∃ y, y = m16 wd (i16 x) := ⟨_, rfl⟩
      have HY : Aside0 (y = F i) := ⟨by rw [hy, HF.out]; unfold wfac; rw [hwd, hx, hwj, hwq, HD.out, hq2, ← HPP.out, wel_xor]⟩
      obtain ⟨kd, hkd⟩ := (RefDiv hwd6 hx6 hx0).rounds
      rw [← hy] at hkd
      have HDV := Aside0.mk (fun w => culletref03_Div.calls kd _ _ _ _ w hkd)
      have hd7 : ((d : Int) < 65536) = True := eq_true (by omega)
      have hq7 : ((q : Int) < 65536) = True := eq_true (by omega)
      have hj7 : ((j : Int) < 65536) = True := eq_true (by omega)
      have pz1 : ((p : Int) == 0) = false := beq_eq_false_iff_ne.2 (by omega)
      have pz2 : ((p : Int) = 0) = False := eq_false (by omega)
      have pz3 : (p = 0) = False := eq_false (by omega)
      have hdw2 := (wr_small (quo_nat (x := (q : Int)) (y := (p : Int)) rfl rfl (show d = q / p by rw [HD.out, hq2])).1 hd6).2
      have hdw4 := (wr_small (quo_nat (x := (q : Int)) (y := (p : Int)) rfl rfl (show d = q / p by rw [HD.out, hq2])).2 hd6).2
      clear hwd hwq hwj hx hy hkd hjql hjq hx0 hx6 hwd6 hwq6 hwj6 hq2
      go_wp2_with fail
      go_quiet ((go_at_call 63; exact quiet_drawn (HDV.out _)))
      have O1' : Aside0 ((wr.drewN nq).ownsRow w3.heap.size 42 1 pv i ((List.range i).map fun a => Value.int .u16 ((F a : Nat) : Int))) := ⟨own_move O1.out (fun _ _ => rfl)⟩
      clear cd cq cj hxr RW
      clear hd7 hq7 hj7 hdw2 hdw4 hqq pz1 pz2 pz3 hqw
      go_wp2_with (at_builtin; refine wpList_append_own _ rfl _ _ 41 rfl w3.heap.size 42 i42 (.int .u16 0) 1 2 Try.underlying41 D42.out.1 D42.out.2.1 D42.out.2.2.1 D42.out.2.2.2 rfl (by decide) _ _ _ rfl (O1'.out.alloc _) ⟨wr.heap.size, 0, none⟩ 1 1 [.int .u16 (y : Int)] rfl rfl ?c1 ?c2 ?c3 ?c4 ?c5 ?_)
      case c1 =>
        intro a u ha
        match a, ha with
        | 0, ha =>
          simp at ha; subst ha
          show ((wr.drewN nq).alloc (.cells #[.int .u16 (y : Int)] 42)).cell? ⟨(wr.drewN nq).heap.size, 0, none⟩ = _
          rw [blk_cell (heap_alloc_new _ _) 0]; rfl
      case c2 => intro u hu; simp at hu; subst hu; rfl
      case c3 => unfold maxLen; omega
      case c4 => omega
      case c5 => have := B1.out.size; simp; omega
      intro v' w5 hown hgrow _
      have O2 : Aside0 (w5.ownsRow w3.heap.size 42 1 v' (i + 1) ((List.range (i + 1)).map fun a => Value.int .u16 ((F a : Nat) : Int))) := ⟨by
        have e : (List.range (i + 1)).map (fun a => Value.int .u16 ((F a : Nat) : Int)) = (List.range i).map (fun a => Value.int .u16 ((F a : Nat) : Int)) ++ [.int .u16 (y : Int)] := by
          rw [List.range_succ, List.map_append, HY.out]; rfl
        rw [e]; exact hown⟩
      have B2 := Aside0.mk (((pw_below_drewN B1.out nq).alloc (by simpa using B1.out.size) (.cells #[.int .u16 (y : Int)] 42)).grown hgrow (by have := B1.out.size; simp; omega) (fun b hb => own_base O1.out b hb))
      clear hown hgrow O1 O1' B1
      go_wp2_with fail
      go_roundg (k - (i + 1))
      case measure => omega
      case rel => exact ⟨i + 1, v', rfl, by omega, by go_num, rfl, O2.out, B2.out⟩
    · obtain rfl : i = k := by omega
      go_wp2_with fail
      go_ret2
      refine ⟨_, rfl, Kd.R_of_own ?_ (fun _ _ => trivial), B0.out.trans (B1.out.mono B0.out.size)⟩
      have e : encs (Value.int .u16) ((List.range i).map fun a => ((F a : Nat) : Int)) = (List.range i).map fun a => Value.int .u16 ((F a : Nat) : Int) := by unfold encs; rw [List.map_map]; rfl
      rw [e, List.length_map, List.length_range]
      exact own_weaken O1.out B0.out.size
end Go.Proofs.Ytkdoilmfchlpdaa.A
