/- Texts of polynomials: both sides' Text. -/
import Derived.Test.YthldahaimcdejaaDoorRG
import Derived.Test.YthldahaimcdejaaDoorRF
import Derived.Test.YthldahaimcdejaaDoorRingFns

namespace Go.Proofs.YthldahaimcdejaaDoor.A
open Go.RowKit Go.Deep Go.Proofs.YthldahaimcdejaaDoorW.PrintWords Go.Proofs.YthldahaimcdejaaDoorW.PrintLast Go.Proofs.YthldahaimcdejaaDoorW.PrintMore GP
set_option linter.unusedVariables false
set_option linter.unusedSimpArgs false
set_option maxRecDepth 100000
theorem inf9 : (Tryd.prog.info? 9).map (fun i => (i.zero, i.size, i.bytes)) = some (some (.string ⟨#[]⟩), 1, 16) := by kernel_rfl
theorem itoa_dig : ∀ i : Fin 64, Lib.decDigits i.val = RT.dig i.val := by decide +kernel
theorem dig_len (i : Nat) : (RT.dig i).length ≤ 2 := by unfold RT.dig; split <;> simp
theorem join_plus : ∀ l : List (List UInt8), Lib.join l [43] = RT.plus l
  | [] => rfl
  | [t] => by rw [Lib.join_one]; rfl
  | t :: u :: r => by
    have := join_plus (u :: r)
    unfold Lib.join at this ⊢
    rw [show RT.plus (t :: u :: r) = t ++ 43 :: RT.plus (u :: r) from rfl, ← this]
    simp [List.intercalate, List.intersperse]
theorem blk_one {W : World} {b : Nat} {x : ByteArray} (h : W.heap[b]? = some (.cells #[.string x] 9 (0, 0))) : Kd.C (Kd.scalar Value.string (fun _ => rfl)) W (some ⟨b, 0, none⟩) 1 [x] := by
  refine ⟨rfl, by simp, fun _ => ⟨_, rfl, fun j p hj => ⟨[.string p], rfl, rfl, fun i u hi => ?_⟩⟩⟩
  obtain rfl : j = 0 := by
    rcases j with _ | j
    · rfl
    · simp at hj
  obtain rfl : x = p := by simpa using hj
  obtain rfl : i = 0 := by
    rcases i with _ | i
    · rfl
    · simp at hi
  have hu : u = .string x := by simpa using hi.symm
  subst hu
  have := blk_cell h 0
  simpa [Addr.add] using this
theorem bit64m {n m : Nat} (hn : n < 2 ^ 64) : bits .and .u64 ((n / 2 ^ m : Nat) : Int) 1 = (if n.testBit m then 1 else 0 : Int) := by
  have h1 : n / 2 ^ m < 2 ^ 64 := Nat.lt_of_le_of_lt (Nat.div_le_self _ _) hn
  have := R.bits_and64 (a := n / 2 ^ m) (b := 1) h1 (by decide)
  rw [show ((1 : Nat) : Int) = 1 from rfl] at this
  rw [this, Nat.and_one_is_mod, Nat.testBit_eq_decide_div_mod_eq]
  rcases Nat.mod_two_eq_zero_or_one (n / 2 ^ m) with e | e <;> rw [e] <;> simp
set_option maxHeartbeats 4000000 in
theorem text_walk (n : Nat) (hn : n < 2 ^ 64) (w : World) : Calls Tryd.prog 16 #[.int .u64 (n : Int)] w fun e w' => e = .returned (.string (bs (RT.text n))) ∧ Below w.heap.size w w' := by
  have HN := Aside0.mk hn
  clear hn
  by_cases h0 : n = 0
  · subst h0
    go_enter Tryd.func16, Tryd.ntmps16
    go_wp2
    go_ret
    exact ⟨rfl, Below.refl _ _⟩
  have e0 : ((n : Int) == 0) = false := beq_eq_false_iff_ne.2 (by omega)
  have e0b : (n == 0) = false := beq_eq_false_iff_ne.2 h0
  go_enter Tryd.func16, Tryd.ntmps16
  go_wp2
  go_loopg [3, 4] 64 (fun k v3 v4 wr => ∃ (q : Nat) (L : List (List UInt8)), v4 = .int .i64 ((q : Int) - 1) ∧ q = k ∧ q ≤ 64 ∧ L ++ RT.terms n q = RT.terms n 64 ∧ (Kd.scalar Value.string (fun _ => rfl)).R 9 wr w.heap.size (fun _ => True) v3 (L.map bs) ∧ Below w.heap.size w wr)
  case atStart => exact ⟨64, [], rfl, rfl, Nat.le_refl _, rfl, Kd.R_nil _ _ _ _ _, Below.refl _ _⟩
  case round =>
  obtain ⟨q, L, rfl, rfl, hk, hL, hR, hB⟩ := hrel
  have HR := Aside0.mk (And.intro hL (And.intro hR hB))
  clear hL hR hB
  rcases q with _ | m
  · rw [show ((0 : Nat) : Int) - 1 = -1 from rfl]
    have hLL : L = RT.terms n 64 := by have := HR.out.1; rw [show RT.terms n 0 = [] from rfl, List.append_nil] at this; exact this
    have hne : 0 < (L.map bs).length := by
      rw [List.length_map, hLL]
      rcases Nat.eq_zero_or_pos (RT.terms n 64).length with h | h
      · exfalso
        have h1 := RT.take_text 64 (Nat.le_refl _) n HN.out
        rw [List.eq_nil_of_length_eq_zero h] at h1
        have : some 0 = some n := h1
        exact h0 (Option.some.inj this).symm
      · exact h
    obtain ⟨g, c, hv, hg1, hg2, -⟩ := Kd.R_form HR.out.2.1 hne
    obtain ⟨-, hcap, -⟩ := Kd.R_reads' (show (Kd.scalar Value.string (fun _ => rfl)).R 9 wr w.heap.size (fun _ => True) (.slice (some ⟨g, 0, none⟩) (L.map bs).length c) (L.map bs) from hv ▸ HR.out.2.1)
    have J := Aside0.mk (Tryd.strings_Join g 0 c (L.map bs) ⟨#[43]⟩ wr (fun j x hx => by
      have hj := (List.getElem?_eq_some_iff.1 hx).1
      have := (Kd.R_celln (enc := Value.string) (h1 := fun _ => rfl) ByteArray.empty (show (Kd.scalar Value.string (fun _ => rfl)).R 9 wr w.heap.size (fun _ => True) (.slice (some ⟨g, 0, none⟩) (L.map bs).length c) (L.map bs) from hv ▸ HR.out.2.1) (j : Int) (by omega) (by omega)).1
      rw [Int.toNat_natCast] at this
      rw [Nat.zero_add, this]
      unfold rdOf
      rw [Int.toNat_natCast, List.getD_eq_getElem?_getD, hx]; rfl) hg2 (by rw [List.length_map, hLL]; have := RT.terms_len n 64; omega) hcap (by
        rw [List.map_map, show ((fun x : ByteArray => x.data.toList) ∘ bs) = id by funext l; rfl, List.map_id, show (⟨#[43]⟩ : ByteArray).data.toList = [43] from rfl, join_plus, hLL]
        have h1 := RT.text_len n
        unfold RT.text at h1
        rw [if_neg h0] at h1
        omega))
    rw [List.length_map] at J
    have HV := Aside0.mk hLL
    have HB := Aside0.mk HR.out.2.2
    subst hv
    clear hLL hne hg1 hg2 hcap HR
    go_wp2_with fail
    (with_reducible refine J.out.mono ?_)
    clear J
    rintro e w' ⟨rfl, hB⟩
    go_wp2_with fail
    go_ret
    refine ⟨?_, HB.out.trans (hB.mono HB.out.size)⟩
    show Ending.returned (Value.string _) = _
    rw [show ((fun x : ByteArray => x.data.toList) ∘ bs) = id by funext l; rfl, List.map_id, join_plus, HV.out]
    unfold RT.text
    rw [if_neg h0]; rfl
  · rw [show (((m + 1 : Nat) : Int)) - 1 = (m : Int) by omega]
    have hm0 : decide ((m : Int) ≥ 0) = true := decide_eq_true (by omega)
    obtain ⟨x, hx⟩ : ∃ x, x = n / 2 ^ m := ⟨_, rfl⟩
    have hx64 : x < 2 ^ 64 := by rw [hx]; exact Nat.lt_of_le_of_lt (Nat.div_le_self _ _) HN.out
    have ex : (n : Int) / 2 ^ m = (x : Int) := by rw [hx]; simp
    have hms : m < 64 := by omega
    have hs1 : (0 : Int) ≤ (m : Int) := by omega
    have hs2 : (m : Int) ≤ 64 := by omega
    have hs3 : m ≤ 64 := by omega
    have ex2 : n / 2 ^ m = x := hx.symm
    have HX := Aside0.mk hx
    clear hx
    have ewm : IntKind.i64.wrap ((m : Int) - 1) = (m : Int) - 1 := by rw [IntKind.wrap_i64]; omega
    have hbit := bit64m (m := m) HN.out
    rw [← HX.out] at hbit
    have hlL : L.length ≤ 64 := by have := congrArg List.length HR.out.1; have h2 := RT.terms_len n 64; rw [List.length_append] at this; omega
    by_cases hb : n.testBit m = true
    case neg =>
      rw [if_neg hb] at hbit
      go_wp2
      go_roundg m
      case measure => omega
      case rel => exact ⟨m, L, rfl, rfl, by omega, by have := HR.out.1; rw [RT.terms, if_neg hb] at this; exact this, HR.out.2.1, HR.out.2.2⟩
    rw [if_pos hb] at hbit
    have hLm : (L ++ [RT.term m]) ++ RT.terms n m = RT.terms n 64 := by have := HR.out.1; rw [RT.terms, if_pos hb] at this; rw [List.append_assoc]; exact this
    obtain ⟨A3, c3, hv3⟩ := Kd.R_slice HR.out.2.1
    rw [List.length_map] at hv3
    have HV3 := Aside0.mk HR.out.2.1
    subst hv3
    by_cases hm0' : m = 0
    · have hbitn : bits .and .u64 (n : Int) 1 = 1 := by have hx0 := HX.out; rw [hm0', Nat.pow_zero, Nat.div_one] at hx0; rw [← hx0]; exact hbit
      subst hm0'
      have HA := Aside0.mk (And.intro (Kd.R_alloc (show (Kd.scalar Value.string (fun _ => rfl)).R 9 wr w.heap.size (fun _ => True) (.slice A3 L.length c3) (L.map bs) from HV3.out) (.cells #[.string ⟨#[49]⟩] 9)) (And.intro (blk_one (blk_new wr (.cells #[.string ⟨#[49]⟩] 9 (0, 0)))) (And.intro (show w.heap.size ≤ (wr.alloc (.cells #[.string ⟨#[49]⟩] 9)).heap.size by have := HR.out.2.2.size; simp; omega) (below_alloc (Below.refl wr.heap.size wr) (.cells #[.string ⟨#[49]⟩] 9)))))
      go_wp2_with (first
        | (refine Kd.R_append_row (w0 := wr.alloc (.cells #[.string ⟨#[49]⟩] 9)) Value.string ByteArray.empty w.heap.size rfl (.tmp 25) (.tmp 26) 58 9 (.string ⟨#[]⟩) 16 rfl Tryd.underlying58 inf9 rfl (by decide) (.slice A3 L.length c3) (L.map bs) [⟨#[49]⟩] (some ⟨wr.heap.size, 0, none⟩) 1 1 (fun _ => True) rfl rfl (fun _ _ => trivial) HA.out.1 HA.out.2.1 (Below.refl _ _) HA.out.2.2.1 (by rw [List.length_map]; omega) ?_
           intro v1 w1 hR hb hg hat
           have HW := Aside0.mk (And.intro hR hb)
           clear hR hb hg hat))
      go_roundg 0
      case measure => omega
      case rel => exact ⟨0, L ++ [RT.term 0], by rfl, rfl, by omega, hLm, by rw [List.map_append]; exact HW.out.1, (HR.out.2.2.trans (HA.out.2.2.2.mono HR.out.2.2.size)).trans HW.out.2⟩
    by_cases hm1' : m = 1
    · have hx1 : (n : Int) / 2 = (x : Int) := by have hx0 := HX.out; rw [hm1', Nat.pow_one] at hx0; rw [hx0]; rfl
      subst hm1'
      have HA := Aside0.mk (And.intro (Kd.R_alloc (show (Kd.scalar Value.string (fun _ => rfl)).R 9 wr w.heap.size (fun _ => True) (.slice A3 L.length c3) (L.map bs) from HV3.out) (.cells #[.string ⟨#[120]⟩] 9)) (And.intro (blk_one (blk_new wr (.cells #[.string ⟨#[120]⟩] 9 (0, 0)))) (And.intro (show w.heap.size ≤ (wr.alloc (.cells #[.string ⟨#[120]⟩] 9)).heap.size by have := HR.out.2.2.size; simp; omega) (below_alloc (Below.refl wr.heap.size wr) (.cells #[.string ⟨#[120]⟩] 9)))))
      go_wp2_with (first
        | (refine Kd.R_append_row (w0 := wr.alloc (.cells #[.string ⟨#[120]⟩] 9)) Value.string ByteArray.empty w.heap.size rfl (.tmp 30) (.tmp 31) 58 9 (.string ⟨#[]⟩) 16 rfl Tryd.underlying58 inf9 rfl (by decide) (.slice A3 L.length c3) (L.map bs) [⟨#[120]⟩] (some ⟨wr.heap.size, 0, none⟩) 1 1 (fun _ => True) rfl rfl (fun _ _ => trivial) HA.out.1 HA.out.2.1 (Below.refl _ _) HA.out.2.2.1 (by rw [List.length_map]; omega) ?_
           intro v1 w1 hR hb hg hat
           have HW := Aside0.mk (And.intro hR hb)
           clear hR hb hg hat))
      go_roundg 1
      case measure => omega
      case rel => exact ⟨1, L ++ [RT.term 1], by rfl, rfl, by omega, hLm, by rw [List.map_append]; exact HW.out.1, (HR.out.2.2.trans (HA.out.2.2.2.mono HR.out.2.2.size)).trans HW.out.2⟩
    have z0 : ((m : Int) == 0) = false := beq_eq_false_iff_ne.2 (by omega)
    have z1 : ((m : Int) == 1) = false := beq_eq_false_iff_ne.2 (by omega)
    have z0b : (m == 0) = false := beq_eq_false_iff_ne.2 hm0'
    have z1b : (m == 1) = false := beq_eq_false_iff_ne.2 hm1'
    have D := Aside0.mk (Tryd.strconv_Itoa_small m (by omega) wr)
    have hdd : Lib.decDigits m = RT.dig m := itoa_dig ⟨m, hms⟩
    rw [hdd] at D
    have hd2 := dig_len m
    have hsz : (⟨(RT.dig m).toArray⟩ : ByteArray).size ≤ 2 := hd2
    obtain ⟨dg, hdg⟩ : ∃ dg : ByteArray, dg = ⟨(RT.dig m).toArray⟩ := ⟨_, rfl⟩
    rw [← hdg] at D hsz
    have HDG := Aside0.mk hdg
    clear hdg hdd hd2
    go_wp2_with fail
    (with_reducible refine D.out.mono ?_)
    clear D
    rintro e w' ⟨rfl, hw⟩
    rw [hw]
    clear hw w'
    have HA := Aside0.mk (And.intro (Kd.R_alloc (show (Kd.scalar Value.string (fun _ => rfl)).R 9 wr w.heap.size (fun _ => True) (.slice A3 L.length c3) (L.map bs) from HV3.out) (.cells #[.string (⟨#[120, 94]⟩ ++ dg)] 9)) (And.intro (blk_one (blk_new wr (.cells #[.string (⟨#[120, 94]⟩ ++ dg)] 9 (0, 0)))) (And.intro (show w.heap.size ≤ (wr.alloc (.cells #[.string (⟨#[120, 94]⟩ ++ dg)] 9)).heap.size by have := HR.out.2.2.size; simp; omega) (below_alloc (Below.refl wr.heap.size wr) (.cells #[.string (⟨#[120, 94]⟩ ++ dg)] 9)))))
    go_wp2_with (first
      | (refine Kd.R_append_row (w0 := wr.alloc (.cells #[.string (⟨#[120, 94]⟩ ++ dg)] 9)) Value.string ByteArray.empty w.heap.size rfl (.tmp 17) (.tmp 21) 58 9 (.string ⟨#[]⟩) 16 rfl Tryd.underlying58 inf9 rfl (by decide) (.slice A3 L.length c3) (L.map bs) [(⟨#[120, 94]⟩ ++ dg)] (some ⟨wr.heap.size, 0, none⟩) 1 1 (fun _ => True) rfl rfl (fun _ _ => trivial) HA.out.1 HA.out.2.1 (Below.refl _ _) HA.out.2.2.1 (by rw [List.length_map]; omega) ?_
         intro v1 w1 hR hb hg hat
         have HW := Aside0.mk (And.intro hR hb)
         clear hR hb hg hat))
    go_roundg m
    case measure => omega
    case rel => exact ⟨m, L ++ [RT.term m], by rfl, rfl, by omega, hLm, by rw [List.map_append, show [RT.term m].map bs = [(⟨#[120, 94]⟩ : ByteArray) ++ dg] by rw [HDG.out, show RT.term m = [120, 94] ++ RT.dig m by unfold RT.term; rw [if_neg hm0', if_neg hm1']; rfl]; exact congrArg (fun q => [q]) (bs_app [120, 94] (RT.dig m)).symm]; exact HW.out.1, (HR.out.2.2.trans (HA.out.2.2.2.mono HR.out.2.2.size)).trans HW.out.2⟩
end Go.Proofs.YthldahaimcdejaaDoor.A
