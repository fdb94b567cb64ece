/- Full over a source: the walk. -/
import Derived.Test.YtdgfbamhnmnliaaDoorPN
namespace Go.Proofs.YtdgfbamhnmnliaaDoor.A
open Go.RowKit Go.Deep Go.Proofs.YtdgfbamhnmnliaaDoor.R Go.Proofs.YtdgfbamhnmnliaaDoorW.PrintWords Go.Proofs.YtdgfbamhnmnliaaDoorW.PrintLast Go.Proofs.YtdgfbamhnmnliaaDoorW.PrintMore
set_option linter.unusedVariables false
set_option linter.unusedSimpArgs false
set_option maxRecDepth 100000
/-- What lies in the buffer when k bytes are there. -/
def bufL (D : List Int) (pl n k : Nat) : List Int := (D.drop pl).take k ++ List.replicate (n - k) 0
theorem buf_len {D : List Int} {pl n k : Nat} (hk : k ≤ n) (hD : pl + k ≤ D.length) : (bufL D pl n k).length = n := by
  unfold bufL
  rw [List.length_append, List.length_take, List.length_drop, List.length_replicate]
  omega
theorem buf_more {D : List Int} {pl n k m : Nat} (hD : pl + k + m ≤ D.length) : splice ((bufL D pl n k).map (Value.int .u8)) k (((D.drop (pl + k)).take m).map (Value.int .u8)) = (bufL D pl n (k + m)).map (Value.int .u8) := by
  have h1 : ((D.drop pl).take k).length = k := by rw [List.length_take, List.length_drop]; omega
  have h2 : ((D.drop (pl + k)).take m).length = m := by rw [List.length_take, List.length_drop]; omega
  have h3 : (bufL D pl n k).take k = (D.drop pl).take k := by
    unfold bufL; rw [List.take_left' h1]
  have h4 : (bufL D pl n k).drop (k + m) = List.replicate (n - (k + m)) 0 := by
    unfold bufL; rw [← List.drop_drop, List.drop_left' h1, List.drop_replicate, Nat.sub_sub]
  have h5 : bufL D pl n (k + m) = (D.drop pl).take k ++ ((D.drop (pl + k)).take m ++ List.replicate (n - (k + m)) 0) := by
    unfold bufL; rw [List.take_add, List.drop_drop, List.append_assoc]
  unfold splice
  rw [List.length_map, h2, ← List.map_take, ← List.map_drop, h3, h4, h5, List.map_append, List.map_append]
set_option maxHeartbeats 4000000 in
theorem through_is (lo hi g bk : Nat) (vD vC : Value) (D C : List Int) (f code : Int) (pl tu : Nat) (gp n : Nat) (ae : Addr) (w : World) (hS : Src w lo hi g bk vD vC D C f code pl tu) (hn2 : n ≤ 1048576) (hpf : 0 ≤ f → (pl : Int) ≤ f) (hf2 : f ≤ 9223372036854775807) (hpl : pl ≤ D.length) (hD : D.length ≤ 140737488355328) (hCl : C.length ≤ 140737488355328) (htu : tu < 2 ^ 59)
    (hgp : w.heap[gp]? = some (.cells ((bufL D pl n 0).map (Value.int .u8)).toArray 5 (0, 0))) (hne : gp < lo ∨ hi ≤ gp) (hst : stC C) (hE : w.cell? ⟨0, 0, none⟩ = some (.iface 109 (.pointer (some ae)))) (hg0 : 0 < lo ∧ 0 < gp) :
    Calls Tryd.prog 30 #[.slice (some ⟨gp, 0, none⟩) n n, .func (.method "Read") #[.iface 27 (.pointer (some ⟨g, 0, none⟩))] #[]] w fun e w' => e = .returned (.tuple #[.int .i64 ((flK D f pl n : Nat) : Int), errV (flE D f pl n) bk ae]) ∧
      ∃ tu' : Nat, Src w' lo hi g bk vD vC D C f code ((pl + flK D f pl n : Nat) : Int) tu' ∧ tu' ≤ tu + 50 * (flK D f pl n + 1) ∧ Fr (fun k => k = g ∨ k = gp) w w' ∧ w'.heap[gp]? = some (.cells ((bufL D pl n (flK D f pl n)).map (Value.int .u8)).toArray 5 (0, 0)) := by
  have HS := Aside0.mk hS
  have HG := Aside0.mk (And.intro hgp (And.intro hne (And.intro hE hg0)))
  have HP := Aside0.mk (And.intro hpf (And.intro hpl (And.intro hst (And.intro hf2 (And.intro hCl htu)))))
  clear hS hgp hne hE hpf hpl hst hf2 hCl htu hg0
  have mR := methR
  go_enter Tryd.func30, Tryd.ntmps30
  go_wp2
  go_loopg [6, 7] (50 * n + 49) (fun q v6 v7 wr => ∃ (k idle tq : Nat), v6 = .int .i64 (k : Int) ∧ v7 = .int .i64 (idle : Int) ∧ k ≤ n ∧ idle < 50 ∧ q = 50 * (n - k) + (49 - idle) ∧ idleC C tq idle ∧ tq ≤ tu + 50 * k + idle ∧ Src wr lo hi g bk vD vC D C f code ((pl + k : Nat) : Int) (tq : Int) ∧ pl + k ≤ D.length ∧ (0 ≤ f → ((pl + k : Nat) : Int) ≤ f) ∧ wr.heap[gp]? = some (.cells ((bufL D pl n k).map (Value.int .u8)).toArray 5 (0, 0)) ∧ Fr (fun k => k = g ∨ k = gp) w wr)
  case atStart => exact ⟨0, 0, tu, rfl, rfl, Nat.zero_le _, by omega, by omega, ⟨Nat.zero_le _, fun h => absurd h (Nat.lt_irrefl _), fun x h1 h2 => by omega⟩, by omega, HS.out, HP.out.2.1, HP.out.1, HG.out.1, Fr.refl _ _⟩
  case round =>
  obtain ⟨k, idle, tq, rfl, rfl, hk, hi50, rfl, hidle, htq, hS, hplk, hpfk, hb, hF⟩ := hrel
  have HSk := Aside0.mk hS
  have HI := Aside0.mk (And.intro hidle (And.intro htq (And.intro hplk (And.intro hpfk (And.intro hb hF)))))
  clear hS hidle htq hplk hpfk hb hF
  by_cases hkn : k < n
  case neg =>
    obtain rfl : k = n := by omega
    have hk0 : decide ((k : Int) < (k : Int)) = false := decide_eq_false (by omega)
    obtain ⟨e1, e2⟩ := fl_all (D := D) (f := f) HI.out.2.2.1 HI.out.2.2.2.1
    have HEE := Aside0.mk (And.intro e1 e2)
    clear e1 e2
    go_wp2
    go_ret2
    rw [HEE.out.1, HEE.out.2]
    exact ⟨by rfl, tq, HSk.out, by have := HI.out.2.1; omega, HI.out.2.2.2.2.2, HI.out.2.2.2.2.1⟩
  have hk0 : decide ((k : Int) < (n : Int)) = true := decide_eq_true (by omega)
  have hkk1 : (0 : Int) ≤ (k : Int) ∧ (k : Int) ≤ (n : Int) := by omega
  go_wp2_with fail
  have R1 := readU lo hi g bk vD vC D C f code (pl + k) tq gp k (n - k) (n - k) ((bufL D pl n k).map (Value.int .u8)) ae wr HSk.out (by omega) HI.out.2.2.2.1 HP.out.2.2.2.1 HI.out.2.2.1 hD HP.out.2.2.2.2.1 (by have := HI.out.2.1; have := HP.out.2.2.2.2.2; omega) HI.out.2.2.2.2.1 (by rw [List.length_map, buf_len hk HI.out.2.2.1]; omega) HG.out.2.1 (by
    have h0 := HG.out.2.2.1
    have h1 := HI.out.2.2.2.2.2.block 0 (World.block_lt_of_cell? w _ h0) (fun e => by have := HG.out.2.2.2; have := HS.out.g1; omega)
    simpa [World.cell?, h1] using h0)
  have hle := rdK_le D C f (pl + k) tq (n - k) HI.out.2.2.1
  have hE3 : rdE D C f (pl + k) tq (n - k) = 0 ∨ (rdE D C f (pl + k) tq (n - k) = 2 ∧ rdK D C f (pl + k) tq (n - k) = 0 ∧ rdT D C f (pl + k) tq (n - k) = tq ∧ flK D f pl n = k ∧ flE D f pl n = 2) ∨ (rdE D C f (pl + k) tq (n - k) = 1 ∧ rdK D C f (pl + k) tq (n - k) = 0 ∧ rdT D C f (pl + k) tq (n - k) = tq ∧ flK D f pl n = k ∧ flE D f pl n = 1) := by
    unfold rdE rdK rdT
    rw [if_neg (show ¬ n - k = 0 by omega), if_neg (show ¬ n - k = 0 by omega), if_neg (show ¬ n - k = 0 by omega)]
    by_cases h1 : 0 ≤ f ∧ ((pl + k : Nat) : Int) = f
    · rw [if_pos h1, if_pos h1, if_pos h1]
      exact .inr (.inl ⟨rfl, rfl, rfl, fl_fail hkn HI.out.2.2.1 h1.1 h1.2⟩)
    · rw [if_neg h1, if_neg h1, if_neg h1]
      by_cases h2 : pl + k = D.length
      · rw [if_pos h2, if_pos h2, if_pos h2]
        exact .inr (.inr ⟨rfl, rfl, rfl, fl_end hkn h2 HI.out.2.2.2.1 h1⟩)
      · rw [if_neg h2]; exact .inl rfl
  have hT := rdT_le D C f (pl + k) tq (n - k)
  have hID : rdE D C f (pl + k) tq (n - k) = 0 → rdK D C f (pl + k) tq (n - k) = 0 → rdT D C f (pl + k) tq (n - k) = tq + 1 ∧ idleC C (tq + 1) (idle + 1) := fun h1 h2 => idle_next (by omega) HI.out.2.2.1 HI.out.2.2.2.1 h1 h2 HI.out.1
  generalize rdK D C f (pl + k) tq (n - k) = m at R1 hle hE3 hID
  generalize rdT D C f (pl + k) tq (n - k) = t' at R1 hE3 hT hID
  generalize rdE D C f (pl + k) tq (n - k) = ee at R1 hE3 hID
  have HX := Aside0.mk (And.intro hle (And.intro hE3 (And.intro hT hID)))
  clear hE3 hT hID
  have hmm := hle.1
  clear hle
  (with_reducible refine R1.mono ?_)
  clear R1
  rintro e w5 ⟨rfl, hS5, hF5, hb5⟩
  have H5 := Aside0.mk (And.intro hS5 (And.intro (HI.out.2.2.2.2.2.trans hF5 (fun _ _ h => h)) hb5))
  clear hS5 hF5 hb5
  have hm0 : decide ((m : Int) < 0) = false := decide_eq_false (by omega)
  have en : IntKind.i64.wrap ((n : Int) - (k : Int)) = (n : Int) - (k : Int) := by rw [IntKind.wrap_i64]; omega
  have hmn : decide ((m : Int) > (n : Int) - (k : Int)) = false := decide_eq_false (by omega)
  rcases HX.out.2.1 with h0 | ⟨h0, hm, ht, e1, e2⟩ | ⟨h0, hm, ht, e1, e2⟩
  · subst h0
    rw [show errV 0 bk ae = .nilIface from rfl]
    by_cases hfull : k + m = n
    · subst hfull
      have heq : ((k : Int) + (m : Int) == ((k + m : Nat) : Int)) = true := beq_iff_eq.2 (by omega)
      have HEE := Aside0.mk (fl_all (D := D) (f := f) (pl := pl) (n := k + m) (by have := HX.out.1.2.1; omega) (fun h => by have := HX.out.1.2.2 h (HI.out.2.2.2.1 h); omega))
      go_wp2
      go_ret2
      rw [HEE.out.1, HEE.out.2]
      exact ⟨by rfl, t', by have := H5.out.1; rw [Nat.add_assoc] at this; exact this, by have := HX.out.2.2.1; have := HI.out.2.1; omega, H5.out.2.1, by rw [← buf_more (by have := HX.out.1.2.1; omega)]; exact H5.out.2.2⟩
    have heq : ((k : Int) + (m : Int) == (n : Int)) = false := beq_eq_false_iff_ne.2 (by omega)
    by_cases hm1 : 0 < m
    · have hp : decide ((m : Int) > 0) = true := decide_eq_true (by omega)
      go_wp2
      go_roundg (50 * (n - (k + m)) + (49 - 0))
      case measure => omega
      case rel => exact ⟨k + m, 0, t', rfl, rfl, by omega, by omega, rfl, ⟨Nat.zero_le _, fun h => absurd h (Nat.lt_irrefl _), fun x h1 h2 => by omega⟩, by have := HX.out.2.2.1; have := HI.out.2.1; omega, by have := H5.out.1; rw [Nat.add_assoc] at this; exact this, by have := HX.out.1.2.1; omega, fun h => by have := HX.out.1.2.2 h (HI.out.2.2.2.1 h); omega, by rw [← buf_more (by have := HX.out.1.2.1; omega)]; exact H5.out.2.2, H5.out.2.1⟩
    · obtain rfl : m = 0 := by omega
      have hp : decide (((0 : Nat) : Int) > 0) = false := decide_eq_false (by omega)
      have HN := HX.out.2.2.2 rfl rfl
      have hlt := idle_lt HP.out.2.2.1 HN.2
      have HNN := Aside0.mk HN
      have hq : ((idle : Int) + 1 == 100) = false := beq_eq_false_iff_ne.2 (by omega)
      clear HN
      go_wp2
      go_roundg (50 * (n - k) + (49 - (idle + 1)))
      case measure => omega
      case rel => exact ⟨k, idle + 1, t', by simp, rfl, by omega, hlt, rfl, by rw [HNN.out.1]; exact HNN.out.2, by have := HX.out.2.2.1; have := HI.out.2.1; omega, H5.out.1, HI.out.2.2.1, HI.out.2.2.2.1, by rw [show k = k + 0 from rfl, ← buf_more (by have := HX.out.1.2.1; omega)]; exact H5.out.2.2, H5.out.2.1⟩
  · subst h0 hm
    have HEE := Aside0.mk (And.intro ht (And.intro e1 e2))
    clear ht e1 e2
    rw [show errV 2 bk ae = .iface 59 (.pointer (some ⟨bk, 0, none⟩)) from rfl]
    have heq : ((k : Int) + ((0 : Nat) : Int) == (n : Int)) = false := beq_eq_false_iff_ne.2 (by omega)
    have heq2 : ((k : Int) == (n : Int)) = false := beq_eq_false_iff_ne.2 (by omega)
    go_wp2
    go_ret2
    rw [HEE.out.2.1, HEE.out.2.2]
    exact ⟨by first | rfl | simp [errV], t', H5.out.1, by have := HX.out.2.2.1; have := HI.out.2.1; omega, H5.out.2.1, by rw [show k = k + 0 from rfl, ← buf_more (by have := HX.out.1.2.1; omega)]; exact H5.out.2.2⟩
  · subst h0 hm
    have HEE := Aside0.mk (And.intro ht (And.intro e1 e2))
    clear ht e1 e2
    rw [show errV 1 bk ae = .iface 109 (.pointer (some ae)) from rfl]
    have heq : ((k : Int) + ((0 : Nat) : Int) == (n : Int)) = false := beq_eq_false_iff_ne.2 (by omega)
    have heq2 : ((k : Int) == (n : Int)) = false := beq_eq_false_iff_ne.2 (by omega)
    go_wp2
    go_ret2
    rw [HEE.out.2.1, HEE.out.2.2]
    exact ⟨by first | rfl | simp [errV], t', H5.out.1, by have := HX.out.2.2.1; have := HI.out.2.1; omega, H5.out.2.1, by rw [show k = k + 0 from rfl, ← buf_more (by have := HX.out.1.2.1; omega)]; exact H5.out.2.2⟩
end Go.Proofs.YtdgfbamhnmnliaaDoor.A
