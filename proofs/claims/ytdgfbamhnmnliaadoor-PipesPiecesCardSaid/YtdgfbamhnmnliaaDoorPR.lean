/- PipesPieces: the walk. -/
import Derived.Test.YtdgfbamhnmnliaaDoorPQ
namespace Go.Proofs.YtdgfbamhnmnliaaDoor.A
open Go.RowKit Go.Deep Go.Proofs.YtdgfbamhnmnliaaDoor.R Go.Proofs.YtdgfbamhnmnliaaDoorW.PrintWords Go.Proofs.YtdgfbamhnmnliaaDoorW.PrintLast Go.Proofs.YtdgfbamhnmnliaaDoorW.PrintMore
set_option linter.unusedVariables false
set_option linter.unusedSimpArgs false
set_option maxRecDepth 100000
theorem bufL0 (D : List Int) (pl n : Nat) : (bufL D pl n 0).map (Value.int .u8) = List.replicate n (Value.int .u8 0) := by simp [bufL]
theorem lastB_le (D : List Int) (f : Int) : lastB D f ≤ D.length := by unfold lastB; split <;> omega
theorem flK_le {D : List Int} {f : Int} {pl n : Nat} (hpl : pl ≤ D.length) (hpf : 0 ≤ f → (pl : Int) ≤ f) : flK D f pl n ≤ n ∧ pl + flK D f pl n ≤ D.length ∧ (0 ≤ f → ((pl + flK D f pl n : Nat) : Int) ≤ f) ∧ ((pl + flK D f pl n : Nat) : Int) ≤ lastB D f ∧ (flK D f pl n ≠ n → ((pl + flK D f pl n : Nat) : Int) = lastB D f) := by
  have hl := lastB_le D f
  have hp : (pl : Int) ≤ lastB D f := by
    unfold lastB
    split
    · rename_i h; exact hpf h.1
    · omega
  have h2 : 0 ≤ f → lastB D f ≤ f := by unfold lastB; split <;> omega
  unfold flK
  split
  · refine ⟨Nat.le_refl _, by omega, fun h => by have := h2 h; omega, by omega, fun h => absurd rfl h⟩
  · have h3 : (((lastB D f - pl).toNat : Nat) : Int) = lastB D f - pl := Int.toNat_of_nonneg (by omega)
    refine ⟨by omega, by omega, fun h => by have := h2 h; omega, by omega, fun h => by omega⟩
theorem flE_is (D : List Int) (f : Int) (pl n : Nat) : (flE D f pl n = 0 ∧ flK D f pl n = n) ∨ (flE D f pl n = 2 ∧ flK D f pl n ≠ n ∧ 0 ≤ f ∧ f ≤ D.length) ∨ (flE D f pl n = 1 ∧ flK D f pl n ≠ n ∧ ¬ (0 ≤ f ∧ f ≤ D.length)) := by
  unfold flE
  by_cases h : flK D f pl n = n
  · rw [if_pos h]; exact .inl ⟨rfl, h⟩
  · rw [if_neg h]
    by_cases h2 : 0 ≤ f ∧ f ≤ D.length
    · rw [if_pos h2]; exact .inr (.inl ⟨rfl, h, h2⟩)
    · rw [if_neg h2]; exact .inr (.inr ⟨rfl, h, h2⟩)
theorem quiet_drawn {P : Program} {f : FuncId} {args : Array Value} {w : World} {n : Nat} {v : Value}
    (h : Calls P f args (w.drewN n) fun e w' => e = .returned v ∧ Drawn0 (w.drewN n) w') : Calls P f args (w.drewN n) fun e w'' => e = .returned v ∧ ∃ m, w'' = w.drewN m :=
  Calls.quiet_of (h.mono fun _ _ ⟨he, hd⟩ => ⟨he, hd.out⟩)
set_option maxHeartbeats 4000000 in
theorem piecesLaw (AD AC AE AS : Option Addr) (cD cC cE cS : Nat) (D C E S : List Int) (f code : Int) (ae : Addr) (w : World) (hD : Kd.C (Kd.int .u8) w AD D.length D) (hC : Kd.C (Kd.int .i64) w AC C.length C) (hEc : Kd.C (Kd.int .i64) w AE E.length E) (hS : Kd.C (Kd.int .i64) w AS S.length S)
    (hcD : D.length ≤ cD) (hcC : C.length ≤ cC) (hcE : E.length ≤ cE) (hlD : D.length ≤ 140737488351232) (hlC : C.length ≤ 17592186043904) (hlE : E.length ≤ 17592186043904) (hlS : S.length ≤ 17592186043904) (hf1 : -9223372036854775808 ≤ f) (hf2 : f ≤ 9223372036854775807) (hE : w.cell? ⟨0, 0, none⟩ = some (.iface 109 (.pointer (some ae)))) :
    Calls Tryd.prog 6 #[.agg #[.slice AD D.length cD, .slice AC C.length cC, .int .i64 f, .int .i64 code], .slice AE E.length cE, .slice AS S.length cS] w fun e w' => e = .returned (.bool true) ∧ Below w.heap.size w w' := by
  have HD := Aside0.mk hD
  have HC := Aside0.mk hC
  have HEc := Aside0.mk hEc
  have HS := Aside0.mk hS
  have HL := Aside0.mk (And.intro hcD (And.intro hcC (And.intro hcE (And.intro hlD (And.intro hlC (And.intro hlE (And.intro hlS (And.intro hf1 hf2))))))))
  have HE := Aside0.mk hE
  clear hD hC hEc hS hcD hcC hcE hlD hlC hlE hlS hf1 hf2 hE
  go_enter Tryd.func6, Tryd.ntmps6
  go_wp2_with fail
  have hb := blk_new w (.cells #[.slice AD D.length cD, .slice AC C.length cC, .int .i64 f, .int .i64 code] 25 (0, 0))
  have hB0 := below_alloc (Below.refl w.heap.size w) (.cells #[.slice AD D.length cD, .slice AC C.length cC, .int .i64 f, .int .i64 code] 25 (0, 0))
  generalize w.alloc (.cells #[.slice AD D.length cD, .slice AC C.length cC, .int .i64 f, .int .i64 code] 25 (0, 0)) = w0 at hb hB0 ⊢
  have HB0 := Aside0.mk (And.intro hb hB0)
  clear hb hB0
  (with_reducible refine (awake w0).mono ?_)
  rintro e w1 ⟨rfl, hB⟩
  have HB1 := Aside0.mk (HB0.out.2.trans (hB.mono HB0.out.2.size))
  have HX1 := Aside0.mk (blk_below HB0.out.1 hB)
  have k1 : w1.cell? ⟨w.heap.size, 1, none⟩ = some (.slice AC C.length cC) := cell_of_row _ _ 1 _ 25 (0, 0) HX1.out
  clear hB
  go_wp2_with fail
  (with_reducible refine (steady_is AC cC C w1 (Kd.C_below HC.out HB1.out) HL.out.2.1).mono ?_)
  rintro e w1' ⟨rfl, m1, rfl⟩
  clear k1
  by_cases hs1 : stB C = true
  case neg =>
    have hs1' : stB C = false := by cases h : stB C <;> simp_all
    have HW := Aside0.mk (pw_below_drewN HB1.out m1)
    rw [hs1']
    clear hs1 hs1'
    go_wp2_with fail
    go_ret
    exact ⟨rfl, HW.out⟩
  rw [hs1]
  have HS1 := Aside0.mk (stB_stC hs1)
  clear hs1
  have HB2 := Aside0.mk (pw_below_drewN HB1.out m1)
  have HX2 := Aside0.mk (blk_drewN HX1.out m1)
  generalize w1.drewN m1 = w2 at HB2 HX2 ⊢
  go_wp2_with fail
  (with_reducible refine (steady_is AE cE E w2 (Kd.C_below HEc.out HB2.out) HL.out.2.2.1).mono ?_)
  rintro e w2' ⟨rfl, m2, rfl⟩
  by_cases hs2 : stB E = true
  case neg =>
    have hs2' : stB E = false := by cases h : stB E <;> simp_all
    have HW := Aside0.mk (pw_below_drewN HB2.out m2)
    rw [hs2']
    clear hs2 hs2'
    go_wp2_with fail
    go_ret
    exact ⟨rfl, HW.out⟩
  rw [hs2]
  have HS2 := Aside0.mk (stB_stC hs2)
  clear hs2
  have HB3 := Aside0.mk (pw_below_drewN HB2.out m2)
  have HX3 := Aside0.mk (blk_drewN HX2.out m2)
  generalize w2.drewN m2 = w3 at HB3 HX3 ⊢
  have k0 : w3.cell? ⟨w.heap.size, 0, none⟩ = some (.slice AD D.length cD) := cell_of_row _ _ 0 _ 25 (0, 0) HX3.out
  have k1 : w3.cell? ⟨w.heap.size, 1, none⟩ = some (.slice AC C.length cC) := cell_of_row _ _ 1 _ 25 (0, 0) HX3.out
  have k2 : w3.cell? ⟨w.heap.size, 2, none⟩ = some (.int .i64 f) := cell_of_row _ _ 2 _ 25 (0, 0) HX3.out
  have k3 : w3.cell? ⟨w.heap.size, 3, none⟩ = some (.int .i64 code) := cell_of_row _ _ 3 _ 25 (0, 0) HX3.out
  go_wp2_with fail
  (with_reducible refine (source_is AD AC cD cC D C f code w3 (Kd.C_below HD.out HB3.out) (Kd.C_below HC.out HB3.out) (by have := HL.out; omega) (by have := HL.out; omega)).mono ?_)
  clear k0 k1 k2 k3
  rintro e w4 ⟨lo1, g1, b1, vD1, vC1, rfl, hlo1, hSr1, hB4⟩
  have H4 := Aside0.mk (And.intro hlo1 (And.intro hSr1 hB4))
  have HB4 := Aside0.mk (HB3.out.trans (hB4.mono HB3.out.size))
  have HX4 := Aside0.mk (blk_below HX3.out hB4)
  clear hlo1 hSr1 hB4
  have k0 : w4.cell? ⟨w.heap.size, 0, none⟩ = some (.slice AD D.length cD) := cell_of_row _ _ 0 _ 25 (0, 0) HX4.out
  have k2 : w4.cell? ⟨w.heap.size, 2, none⟩ = some (.int .i64 f) := cell_of_row _ _ 2 _ 25 (0, 0) HX4.out
  have k3 : w4.cell? ⟨w.heap.size, 3, none⟩ = some (.int .i64 code) := cell_of_row _ _ 3 _ 25 (0, 0) HX4.out
  go_wp2_with fail
  (with_reducible refine (source_is AD AE cD cE D E f code w4 (Kd.C_below HD.out HB4.out) (Kd.C_below HEc.out HB4.out) (by have := HL.out; omega) (by have := HL.out; omega)).mono ?_)
  clear k0 k2 k3
  rintro e w5 ⟨lo2, g2, b2, vD2, vC2, rfl, hlo2, hSr2, hB5⟩
  have H5 := Aside0.mk (And.intro hlo2 (And.intro hSr2 hB5))
  have HB5 := Aside0.mk (HB4.out.trans (hB5.mono HB4.out.size))
  have HX5 := Aside0.mk (blk_below HX4.out hB5)
  clear hlo2 hSr2 hB5
  have k0 : w5.cell? ⟨w.heap.size, 0, none⟩ = some (.slice AD D.length cD) := cell_of_row _ _ 0 _ 25 (0, 0) HX5.out
  have k2 : w5.cell? ⟨w.heap.size, 2, none⟩ = some (.int .i64 f) := cell_of_row _ _ 2 _ 25 (0, 0) HX5.out
  go_upto_region 8 with fail
  go_cut [53] (fun v53 wx => v53 = .bool (decide (0 ≤ f) && decide (f < (D.length : Int))) ∧ w5 = wx)
  case first =>
    by_cases hf : 0 ≤ f
    · have hf0 : decide (0 ≤ f) = true := decide_eq_true hf
      go_wp2
      go_meet
      exact ⟨by rw [hf0, Bool.true_and], rfl⟩
    · have hf0 : decide (0 ≤ f) = false := decide_eq_false hf
      go_wp2
      go_meet
      exact ⟨by rw [hf0, Bool.false_and], rfl⟩
  case rest =>
  obtain ⟨rfl, rfl⟩ := hcut
  go_upto_if 53 with fail
  go_cut [9] (fun v9 wx => v9 = .int .i64 (lastB D f) ∧ w5 = wx)
  case first =>
    by_cases hf : 0 ≤ f ∧ f < (D.length : Int)
    · rw [show (decide (0 ≤ f) && decide (f < (D.length : Int))) = true by rw [decide_eq_true hf.1, decide_eq_true hf.2]; rfl]
      go_wp2
      go_meet
      exact ⟨congrArg (Value.int .i64) (if_pos hf).symm, rfl⟩
    · rw [show (decide (0 ≤ f) && decide (f < (D.length : Int))) = false by
        rcases Classical.em (0 ≤ f) with h | h
        · rw [decide_eq_false (fun e => hf ⟨h, e⟩), Bool.and_false]
        · rw [decide_eq_false h]; rfl]
      go_wp2
      go_meet
      exact ⟨congrArg (Value.int .i64) (if_neg hf).symm, rfl⟩
  case rest =>
  obtain ⟨rfl, rfl⟩ := hcut
  clear k0 k2
  go_wp2
  have S1 := Aside0.mk (H4.out.2.1.keep H5.out.2.2.size (fun k _ h2 => H5.out.2.2.block k h2))
  have hlS : S.length ≤ 17592186043904 := HL.out.2.2.2.2.2.2.1
  go_loopg [10, 58] S.length (fun k v10 v58 wr => ∃ (i q t1 t2 : Nat), v10 = .int .i64 (q : Int) ∧ v58 = .int .i64 (i : Int) ∧ i ≤ S.length ∧ k = S.length - i ∧ Src wr lo1 w4.heap.size g1 b1 vD1 vC1 D C f code q t1 ∧ Src wr lo2 w5.heap.size g2 b2 vD2 vC2 D E f code q t2 ∧ q ≤ D.length ∧ (0 ≤ f → (q : Int) ≤ f) ∧ t1 ≤ 50 * (q + i) ∧ t2 ≤ 50 * (q + i) ∧ Below w.heap.size w wr ∧ wr.heap[w.heap.size]? = some (.cells #[.slice AD D.length cD, .slice AC C.length cC, .int .i64 f, .int .i64 code] 25 (0, 0)))
  case atStart => exact ⟨0, 0, 0, 0, rfl, rfl, Nat.zero_le _, rfl, S1.out, H5.out.2.1, Nat.zero_le _, fun h => h, Nat.zero_le _, Nat.zero_le _, HB5.out, HX5.out⟩
  case round =>
  obtain ⟨i, q, t1, t2, rfl, rfl, hi, rfl, hS1, hS2, hq, hqf, ht1, ht2, hB, hX⟩ := hrel
  have T1 := Aside0.mk hS1
  have T2 := Aside0.mk hS2
  have HR := Aside0.mk (And.intro hq (And.intro hqf (And.intro ht1 (And.intro ht2 (And.intro hB hX)))))
  clear hS1 hS2 hq hqf ht1 ht2 hB hX
  by_cases hlt : i < S.length
  case neg =>
    have hlt0 : decide ((i : Int) < (S.length : Int)) = false := decide_eq_false (by omega)
    go_wp2_with fail
    (with_reducible refine (taken_is _ _ _ _ _ _ _ _ _ _ _ _ _ T1.out).mono ?_)
    rintro e w' ⟨rfl, rfl⟩
    go_wp2_with fail
    (with_reducible refine (taken_is _ _ _ _ _ _ _ _ _ _ _ _ _ T2.out).mono ?_)
    rintro e w' ⟨rfl, rfl⟩
    go_wp2_with fail
    go_ret
    exact ⟨rfl, HR.out.2.2.2.2.1⟩
  have hlt0 : decide ((i : Int) < (S.length : Int)) = true := decide_eq_true (by omega)
  obtain ⟨sa, hAS, hcell⟩ := Kd.at_int (Kd.C_below HS.out HR.out.2.2.2.2.1) (i : Int) (by omega) (by omega)
  subst hAS
  rw [Int.toNat_natCast] at hcell
  obtain ⟨z, hz⟩ : ∃ z, z = rd S (i : Int) := ⟨_, rfl⟩
  rw [← hz] at hcell
  obtain ⟨n, hn⟩ : ∃ n : Nat, bits .and .i64 z 1023 = (n : Int) := ⟨(z % 1024).toNat, by rw [and1023]; omega⟩
  have hn1 : n ≤ 1023 := by have := and1023 z; omega
  have hmk := make_bytes wr n (by omega)
  clear hz
  have hrep : (List.replicate n (Value.int .u8 0)).toArray = Array.replicate n (Value.int .u8 0) := by simp
  go_upto_region 16 with fail
  have hb6 := blk_new wr (.cells (Array.replicate n (Value.int .u8 0)) 5 (0, 0))
  have hB6 := below_alloc (Below.refl wr.heap.size wr) (.cells (Array.replicate n (Value.int .u8 0)) 5 (0, 0))
  generalize wr.alloc (.cells (Array.replicate n (Value.int .u8 0)) 5 (0, 0)) = w6 at hb6 hB6 ⊢
  rw [← hrep] at hb6
  have HA6 := Aside0.mk (And.intro hb6 hB6)
  clear hb6 hB6 hmk hcell
  have hmk := make_bytes w6 n (by omega)
  go_upto_region 17 with fail
  have hb7 := blk_new w6 (.cells (Array.replicate n (Value.int .u8 0)) 5 (0, 0))
  have hB7 := below_alloc (Below.refl w6.heap.size w6) (.cells (Array.replicate n (Value.int .u8 0)) 5 (0, 0))
  generalize w6.alloc (.cells (Array.replicate n (Value.int .u8 0)) 5 (0, 0)) = w7 at hb7 hB7 ⊢
  rw [← hrep] at hb7
  have HA7 := Aside0.mk (And.intro hb7 hB7)
  clear hb7 hB7 hmk hrep
  have hsz : w.heap.size < w3.heap.size ∧ w3.heap.size ≤ w4.heap.size ∧ w4.heap.size ≤ w5.heap.size ∧ w5.heap.size ≤ wr.heap.size ∧ wr.heap.size < w6.heap.size ∧ w6.heap.size < w7.heap.size := ⟨blk_lt HX3.out, H4.out.2.2.size, H5.out.2.2.size, T2.out.top, blk_lt HA6.out.1, blk_lt HA7.out.1⟩
  have HSZ := Aside0.mk (And.intro hsz (And.intro H4.out.1 (And.intro H5.out.1 (And.intro T1.out.g1 (And.intro T1.out.g2 (And.intro T1.out.b1 (And.intro T1.out.b2 (And.intro T2.out.g1 (And.intro T2.out.g2 (And.intro T2.out.b1 T2.out.b2))))))))))
  clear hsz
  have T1b := Aside0.mk ((T1.out.keep HA6.out.2.size (fun k _ h2 => HA6.out.2.block k (by have := HSZ.out; omega))).keep HA7.out.2.size (fun k _ h2 => HA7.out.2.block k (by have := HSZ.out; omega)))
  have T2b := Aside0.mk ((T2.out.keep HA6.out.2.size (fun k _ h2 => HA6.out.2.block k (by have := HSZ.out; omega))).keep HA7.out.2.size (fun k _ h2 => HA7.out.2.block k (by have := HSZ.out; omega)))
  have HW7 := Aside0.mk ((HR.out.2.2.2.2.1.trans (HA6.out.2.mono (by have := HSZ.out; omega))).trans (HA7.out.2.mono (by have := HSZ.out; omega)))
  have HP7 := Aside0.mk ((HA7.out.2.block _ (blk_lt HA6.out.1)).trans HA6.out.1)
  clear T1 T2
  go_wp2_with fail
  (with_reducible refine (taken_is _ _ _ _ _ _ _ _ _ _ _ _ _ T2b.out).mono ?_)
  rintro e w' ⟨rfl, rfl⟩
  have h00 : 0 < w.heap.size := World.block_lt_of_cell? w _ HE.out
  have hq : q ≤ D.length := HR.out.1
  have F1 := full_is lo1 w4.heap.size g1 b1 vD1 vC1 D C f code q t1 wr.heap.size n ae w7 T1b.out (by omega) HR.out.2.1 (by have := HL.out; omega) HR.out.1 (by have := HL.out; omega) (by have := HL.out; omega) (by have := HR.out; have := HL.out; omega) (by rw [bufL0]; exact HP7.out) (.inr (by have := HSZ.out; omega)) HS1.out (pw_cell_below HW7.out HE.out) (by have := HSZ.out; omega)
  have K1 := Aside0.mk (flK_le (n := n) HR.out.1 HR.out.2.1)
  have E1 := Aside0.mk (flE_is D f q n)
  obtain ⟨kk, hkk⟩ : ∃ kk, kk = flK D f q n := ⟨_, rfl⟩
  obtain ⟨ee, hee⟩ : ∃ ee, ee = flE D f q n := ⟨_, rfl⟩
  rw [← hkk, ← hee] at F1
  rw [← hkk] at K1
  rw [← hkk, ← hee] at E1
  have HEQ := Aside0.mk (And.intro hkk hee)
  clear hkk hee
  go_wp2_with fail
  (with_reducible refine F1.mono ?_)
  clear F1
  rintro e w8 ⟨rfl, u1, hS, hu, hF, hb⟩
  have T1c := Aside0.mk hS
  have HU1 := Aside0.mk hu
  have HF8 := Aside0.mk hF
  have HP8 := Aside0.mk hb
  clear hS hu hF hb
  have T2c := Aside0.mk (T2b.out.keep HF8.out.size (fun k h1 h2 => HF8.out.block k (by have := HSZ.out; omega) (fun e => by have := HSZ.out; omega)))
  have HW8 := Aside0.mk (HW7.out.trans (HF8.out.below (B := w.heap.size) (by have := HSZ.out; omega) (fun k hk => by have := HSZ.out; omega)))
  have HQ8 := Aside0.mk ((HF8.out.block w6.heap.size (by have := HSZ.out; omega) (fun e => by have := HSZ.out; omega)).trans HA7.out.1)
  have F2 := full_is lo2 w5.heap.size g2 b2 vD2 vC2 D E f code q t2 w6.heap.size n ae w8 T2c.out (by omega) HR.out.2.1 (by have := HL.out; omega) HR.out.1 (by have := HL.out; omega) (by have := HL.out; omega) (by have := HR.out; have := HL.out; omega) (by rw [bufL0]; exact HQ8.out) (.inr (by have := HSZ.out; omega)) HS2.out (pw_cell_below HW8.out HE.out) (by have := HSZ.out; omega)
  rw [← HEQ.out.1, ← HEQ.out.2] at F2
  go_wp2_with fail
  (with_reducible refine F2.mono ?_)
  clear F2
  rintro e w9 ⟨rfl, u2, hS, hu, hF, hb⟩
  have T2d := Aside0.mk hS
  have HU2 := Aside0.mk hu
  have HF9 := Aside0.mk hF
  have HQ9 := Aside0.mk hb
  clear hS hu hF hb
  have hz8 : w7.heap.size ≤ w8.heap.size := HF8.out.size
  have T1d := Aside0.mk (T1c.out.keep HF9.out.size (fun k h1 h2 => HF9.out.block k (by have := HSZ.out; omega) (fun e => by have := HSZ.out; omega)))
  have HW9 := Aside0.mk (HW8.out.trans (HF9.out.below (B := w.heap.size) (by have := HSZ.out; omega) (fun k hk => by have := HSZ.out; omega)))
  have HP9 := Aside0.mk ((HF9.out.block wr.heap.size (by have := HSZ.out; omega) (fun e => by have := HSZ.out; omega)).trans HP8.out)
  have HX9 := Aside0.mk ((HF9.out.block w.heap.size (by have := HSZ.out; omega) (fun e => by have := HSZ.out; omega)).trans ((HF8.out.block w.heap.size (by have := HSZ.out; omega) (fun e => by have := HSZ.out; omega)).trans ((HA7.out.2.block w.heap.size (by have := HSZ.out; omega)).trans ((HA6.out.2.block w.heap.size (by have := HSZ.out; omega)).trans HR.out.2.2.2.2.2))))
  have hk1 : kk ≤ n := K1.out.1
  have hk2 : q + kk ≤ D.length := K1.out.2.1
  have hlD : D.length ≤ 140737488351232 := HL.out.2.2.2.1
  have hll : ((D.drop q).take kk).length = kk := by rw [List.length_take, List.length_drop]; have := K1.out; omega
  have hcc : Kd.C (Kd.int .u8) w9 AD D.length D := Kd.C_below HD.out HW9.out
  have SY1 := Aside0.mk (fun m => same_yes (some ⟨wr.heap.size, 0, none⟩) (some ⟨w6.heap.size, 0, none⟩) n n ((D.drop q).take kk) (w9.drewN m) (by rw [hll]; omega) (Kd.C_drewN (blk_C_pre HP9.out (by rw [hll]; omega)) m) (by rw [hll]; exact K1.out.1) (Kd.C_drewN (blk_C_pre HQ9.out (by rw [hll]; omega)) m) (by rw [hll]; exact K1.out.1))
  obtain ⟨i5, hi5, h5⟩ := Option.map_eq_some_iff.1 inf5
  simp only [Prod.mk.injEq] at h5
  have hcm := Kd.C_mid (c := cD) hcc (Nat.le_add_right q kk) K1.out.2.1 HL.out.1
  have hcutD := cut_mid (P := Tryd.prog) 22 5 .i64 .i64 Tryd.underlying22 hi5 1 h5.2.1 AD D.length cD (q : Int) ((q + kk : Nat) : Int) (by omega) (by omega) (by have := K1.out; omega) HL.out.1
  rw [Int.toNat_natCast, Int.toNat_natCast, Nat.add_sub_cancel_left, Nat.mul_one] at hcutD
  rw [show (Kd.int IntKind.u8).sz = 1 from rfl, Nat.mul_one] at hcm
  rw [Int.natCast_add] at hcutD
  obtain ⟨A2, hA2⟩ : ∃ A2, A2 = (if cD = q then AD else AD.map (·.add q)) := ⟨_, rfl⟩
  rw [← hA2] at hcutD hcm
  have htd : (D.take (q + kk)).drop q = (D.drop q).take kk := by rw [List.take_drop]
  rw [htd] at hcm
  have SY2 := Aside0.mk (fun m => same_yes (some ⟨wr.heap.size, 0, none⟩) A2 n (cD - q) ((D.drop q).take kk) (w9.drewN m) (by rw [hll]; omega) (Kd.C_drewN (blk_C_pre HP9.out (by rw [hll]; omega)) m) (by rw [hll]; exact K1.out.1) (Kd.C_drewN hcm m) (by rw [hll]; have := K1.out; have := HL.out; omega))
  rw [hll] at SY1 SY2
  clear hcm hA2 htd hi5 h5 hcc hll
  have k0 : w9.cell? ⟨w.heap.size, 0, none⟩ = some (.slice AD D.length cD) := cell_of_row _ _ 0 _ 25 (0, 0) HX9.out
  have k2 : w9.cell? ⟨w.heap.size, 2, none⟩ = some (.int .i64 f) := cell_of_row _ _ 2 _ 25 (0, 0) HX9.out
  have p1 : decide ((kk : Int) < 0) = false := decide_eq_false (by omega)
  have p2 : decide (n < kk) = false := decide_eq_false (by omega)
  have p3b : decide ((q : Int) + (kk : Int) > lastB D f) = false := decide_eq_false (by have := K1.out; omega)
  have p4b : IntKind.i64.wrap ((q : Int) + (kk : Int)) = (q : Int) + (kk : Int) := by rw [IntKind.wrap_i64]; omega
  go_upto_region 21 with fail
  go_quiet (first | (go_at_call 16; with_reducible exact quiet_drawn (SY1.out _)) | (go_at_call 16; with_reducible exact quiet_drawn (SY2.out _)))
  have T1e := Aside0.mk (T1d.out.keep (W' := w9.drewN nq) (Nat.le_refl _) (fun _ _ _ => rfl))
  have T2e := Aside0.mk (T2d.out.keep (W' := w9.drewN nq) (Nat.le_refl _) (fun _ _ _ => rfl))
  have HWe := Aside0.mk (pw_below_drewN HW9.out nq)
  have HXe := Aside0.mk (blk_drewN HX9.out nq)
  clear k0 k2 hcutD
  generalize w9.drewN nq = wz at T1e T2e HWe HXe ⊢
  have k0 : wz.cell? ⟨w.heap.size, 0, none⟩ = some (.slice AD D.length cD) := cell_of_row _ _ 0 _ 25 (0, 0) HXe.out
  have k2 : wz.cell? ⟨w.heap.size, 2, none⟩ = some (.int .i64 f) := cell_of_row _ _ 2 _ 25 (0, 0) HXe.out
  have kE : wz.cell? ⟨0, 0, none⟩ = some (.iface 109 (.pointer (some ae))) := pw_cell_below HWe.out HE.out
  have HEND : Aside0 (∃ (i' q' t1' t2' : Nat), Value.int .i64 ((q : Int) + (kk : Int)) = .int .i64 (q' : Int) ∧ Value.int .i64 ((i : Int) + 1) = .int .i64 (i' : Int) ∧ i' ≤ S.length ∧ S.length - (i + 1) = S.length - i' ∧ Src wz lo1 w4.heap.size g1 b1 vD1 vC1 D C f code q' t1' ∧ Src wz lo2 w5.heap.size g2 b2 vD2 vC2 D E f code q' t2' ∧ q' ≤ D.length ∧ (0 ≤ f → (q' : Int) ≤ f) ∧ t1' ≤ 50 * (q' + i') ∧ t2' ≤ 50 * (q' + i') ∧ Below w.heap.size w wz ∧ wz.heap[w.heap.size]? = some (.cells #[.slice AD D.length cD, .slice AC C.length cC, .int .i64 f, .int .i64 code] 25 (0, 0))) :=
    Aside0.mk ⟨i + 1, q + kk, u1, u2, by rw [Int.natCast_add], by rw [Int.natCast_add]; rfl, by omega, rfl, T1e.out, T2e.out, K1.out.2.1, K1.out.2.2.1, by have := HU1.out; have := HR.out; omega, by have := HU2.out; have := HR.out; omega, HWe.out, HXe.out⟩
  rcases E1.out with ⟨h0, hkn⟩ | ⟨h0, hkn, hf1, hf2⟩ | ⟨h0, hkn, hf⟩
  · subst h0
    obtain rfl : kk = n := hkn
    rw [show errV 0 b1 ae = .nilIface from rfl, show errV 0 b2 ae = .nilIface from rfl]
    go_wp2_with fail
    go_roundg (S.length - (i + 1))
    case measure => omega
    case rel => exact HEND.out
  · subst h0
    rw [show errV 2 b1 ae = .iface 59 (.pointer (some ⟨b1, 0, none⟩)) from rfl, show errV 2 b2 ae = .iface 59 (.pointer (some ⟨b2, 0, none⟩)) from rfl]
    have hnb : (⟨b1, 0, none⟩ : Addr) ≠ ⟨b2, 0, none⟩ := by intro e; injection e with e; have := HSZ.out; omega
    have x1 : (kk == n) = false := beq_eq_false_iff_ne.2 hkn
    have x2 : ((kk : Int) == (n : Int)) = false := beq_eq_false_iff_ne.2 (by omega)
    have x3 : decide (0 ≤ f) = true := decide_eq_true hf1
    have x4 : decide (f ≤ (D.length : Int)) = true := decide_eq_true hf2
    have x5 : ((q : Int) + (kk : Int) != lastB D f) = false := by have := K1.out.2.2.2.2 hkn; rw [Int.natCast_add] at this; rw [this]; simp
    clear hkn hf2
    go_wp2_with fail
    (with_reducible refine (fail_is _ _ _ _ _ _ _ _ _ _ _ _ wz T1e.out hf1).mono ?_)
    rintro e w' ⟨rfl, rfl⟩
    go_wp2_with fail
    (with_reducible refine (own_same _ _).mono ?_)
    rintro e w' ⟨rfl, rfl⟩
    go_wp2_with fail
    (with_reducible refine (fail_is _ _ _ _ _ _ _ _ _ _ _ _ _ T2e.out hf1).mono ?_)
    rintro e w' ⟨rfl, rfl⟩
    go_wp2_with fail
    (with_reducible refine (own_same _ _).mono ?_)
    rintro e w' ⟨rfl, rfl⟩
    go_wp2_with fail
    (with_reducible refine (own_other ⟨b1, 0, none⟩ ⟨b2, 0, none⟩ _ _ _ _ _ hnb T1e.out.brk T2e.out.brk).mono ?_)
    rintro e w' ⟨rfl, rfl⟩
    go_wp2_with fail
    go_roundg (S.length - (i + 1))
    case measure => omega
    case rel => exact HEND.out
  · subst h0
    rw [show errV 1 b1 ae = .iface 109 (.pointer (some ae)) from rfl, show errV 1 b2 ae = .iface 109 (.pointer (some ae)) from rfl]
    have x1 : (kk == n) = false := beq_eq_false_iff_ne.2 hkn
    have x2 : ((kk : Int) == (n : Int)) = false := beq_eq_false_iff_ne.2 (by omega)
    have x5 : ((q : Int) + (kk : Int) != lastB D f) = false := by have := K1.out.2.2.2.2 hkn; rw [Int.natCast_add] at this; rw [this]; simp
    have HF := Aside0.mk hf
    clear hkn hf
    go_upto_region 29 with fail
    go_cut [157] (fun v157 wx => v157 = .bool false ∧ wz = wx)
    case first =>
      by_cases hf : 0 ≤ f
      · have hf0 : decide (0 ≤ f) = true := decide_eq_true hf
        have hf1 : decide (f ≤ (D.length : Int)) = false := decide_eq_false (fun h => HF.out ⟨hf, h⟩)
        go_wp2
        go_meet
        exact ⟨rfl, rfl⟩
      · have hf0 : decide (0 ≤ f) = false := decide_eq_false hf
        go_wp2
        go_meet
        exact ⟨rfl, rfl⟩
    case rest =>
    obtain ⟨rfl, rfl⟩ := hcut
    go_wp2_with fail
    (with_reducible refine (is_same109 _ _).mono ?_)
    rintro e w' ⟨rfl, rfl⟩
    go_wp2_with fail
    (with_reducible refine (is_same109 _ _).mono ?_)
    rintro e w' ⟨rfl, rfl⟩
    go_wp2_with fail
    go_roundg (S.length - (i + 1))
    case measure => omega
    case rel => exact HEND.out
end Go.Proofs.YtdgfbamhnmnliaaDoor.A
