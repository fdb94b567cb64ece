/- PipesCopies: the walk. -/
import Derived.Test.YtdgfbamhnmnliaaDoorPH
import Derived.Laws.Bits128
import Derived.Laws.OwnMore
namespace Go.Proofs.YtdgfbamhnmnliaaDoor.A
open Go.RowKit Go.Deep Go.Proofs.YtdgfbamhnmnliaaDoor.R Go.Proofs.YtdgfbamhnmnliaaDoorW.PrintWords Go.Proofs.YtdgfbamhnmnliaaDoorW.PrintLast Go.Proofs.YtdgfbamhnmnliaaDoorW.PrintMore
set_option linter.unusedVariables false
set_option linter.unusedSimpArgs false
set_option maxRecDepth 100000
theorem and1023 (n : Int) : bits .and .i64 n 1023 = n % 1024 := by
  have h127 : (BitVec.ofInt 64 1023).toNat = 2 ^ 10 - 1 := by decide
  have key : (BitVec.ofInt 64 n &&& BitVec.ofInt 64 1023).toNat = (n % ((2 ^ 64 : Nat) : Int)).toNat % 2 ^ 10 := by
    rw [BitVec.toNat_and, BitVec.toNat_ofInt, h127, Nat.and_two_pow_sub_one_eq_mod]
  show IntKind.i64.wrap ((BitVec.ofInt 64 n &&& BitVec.ofInt 64 1023).toNat : Nat) = n % 1024
  rw [key, IntKind.wrap_i64]
  omega
theorem make_bytes (w : World) (n : Nat) (hn : n ≤ 140737488355328) : (Instr.makeSlice 22 (.int .i64 (n : Int)) (.int .i64 (n : Int))).run Tryd.prog w = .ok (.slice (some ⟨w.heap.size, 0, none⟩) n n) (w.alloc (.cells (List.replicate n (Value.int .u8 0)).toArray 5)) := by
  obtain ⟨i, hi, h⟩ := Option.map_eq_some_iff.1 inf5
  simp only [Prod.mk.injEq] at h
  have := run_make (P := Tryd.prog) w 22 5 i (.int .u8 0) Tryd.underlying22 hi h.1 .i64 .i64 n n (by omega) (Int.le_refl _) (by rw [h.2.2]; omega) (by omega)
  rw [this, h.2.1, Int.toNat_natCast, Nat.mul_one]
  have e : madeCells (Value.int .u8 0).cells n = (List.replicate n (Value.int .u8 0)).toArray := by
    rw [← toList_madeCells_one]
    rfl
  rw [e]
theorem blk_C_pre {W : World} {b : Nat} {t : TypeId} {k : IntKind} {D R : List Int} (h : W.heap[b]? = some (.cells ((D ++ R).map (Value.int k)).toArray t (0, 0))) (hl : D.length ≤ 9223372036854775807) : Kd.C (Kd.int k) W (some ⟨b, 0, none⟩) D.length D := by
  refine ⟨rfl, hl, fun _ => ⟨_, rfl, fun j p hj => ⟨[.int k p], rfl, rfl, fun i u hi => ?_⟩⟩⟩
  have hi0 : i = 0 := by
    rcases i with _ | i
    · rfl
    · simp at hi
  subst hi0
  have hu : u = .int k p := by simpa using hi.symm
  subst hu
  have hjl : j < D.length := by
    rcases Nat.lt_or_ge j D.length with h | h
    · exact h
    · rw [List.getElem?_eq_none h] at hj; cases hj
  rw [show j * (Kd.int k).sz + 0 = j from by show j * 1 + 0 = j; omega, add_plain, blk_cell h]
  rw [List.getElem?_toArray, List.getElem?_map, List.getElem?_append_left hjl, hj]
  rfl
theorem splice_zero (n : Nat) (l : List Int) (hl : l.length ≤ n) : splice (List.replicate n (Value.int .u8 0)) 0 (l.map (Value.int .u8)) = (l ++ List.replicate (n - l.length) 0).map (Value.int .u8) := by
  simp [splice, List.map_append, List.drop_replicate]
set_option maxHeartbeats 4000000 in
theorem copiesLaw (AD AC AS : Option Addr) (cD cC cS : Nat) (D C S : List Int) (f code : Int) (ae : Addr) (w : World) (hD : Kd.C (Kd.int .u8) w AD D.length D) (hC : Kd.C (Kd.int .i64) w AC C.length C) (hS : Kd.C (Kd.int .i64) w AS S.length S)
    (hcD : D.length ≤ cD) (hlD : D.length ≤ 140737488351232) (hlC : C.length ≤ 17592186043904) (hlS : S.length ≤ 17592186043904) (hf2 : f ≤ 9223372036854775807) (hE : w.cell? ⟨0, 0, none⟩ = some (.iface 109 (.pointer (some ae)))) :
    Calls Tryd.prog 3 #[.agg #[.slice AD D.length cD, .slice AC C.length cC, .int .i64 f, .int .i64 code], .slice AS S.length cS] w fun e w' => e = .returned (.bool true) ∧ Below w.heap.size w w' := by
  have HD := Aside0.mk hD
  have HC := Aside0.mk hC
  have HS := Aside0.mk hS
  have HL := Aside0.mk (And.intro hcD (And.intro hlD (And.intro hlC (And.intro hlS hf2))))
  have HE := Aside0.mk hE
  clear hD hC hS hcD hlD hlC hlS hf2 hE
  go_enter Tryd.func3, Tryd.ntmps3
  go_wp2_with fail
  have hb := blk_new w (.cells #[.slice AD D.length cD, .slice AC C.length cC, .int .i64 f, .int .i64 code] 25 (0, 0))
  have hB0 := below_alloc (Below.refl w.heap.size w) (.cells #[.slice AD D.length cD, .slice AC C.length cC, .int .i64 f, .int .i64 code] 25 (0, 0))
  generalize w.alloc (.cells #[.slice AD D.length cD, .slice AC C.length cC, .int .i64 f, .int .i64 code] 25 (0, 0)) = w0 at hb hB0 ⊢
  have HB0 := Aside0.mk (And.intro hb hB0)
  clear hb hB0
  (with_reducible refine (awake w0).mono ?_)
  rintro e w1 ⟨rfl, hB⟩
  have HB1 := Aside0.mk (HB0.out.2.trans (hB.mono HB0.out.2.size))
  have hb := blk_below HB0.out.1 hB
  have HX1 := Aside0.mk hb
  have k0 : (w1.alloc (.cells #[] 5)).cell? ⟨w.heap.size, 0, none⟩ = some (.slice AD D.length cD) := cell_of_row _ _ 0 _ 25 (0, 0) (blk_alloc hb _)
  clear hb hB
  go_wp2_with (first
    | (refine Kd.R_append_row (w0 := w1.alloc (.cells #[] 5)) (Value.int .u8) 0 w1.heap.size rfl (.tmp 22) (.tmp 24) 22 5 (.int .u8 0) 1 rfl Tryd.underlying22 inf5 rfl (by decide) (.slice (some ⟨w1.heap.size, 0, none⟩) 0 0) [] D AD D.length cD (fun _ => True) rfl rfl (fun _ _ => trivial) (empty_R .u8 5 w1 (Nat.le_refl _) trivial) (Kd.C_alloc (Kd.C_below HD.out HB1.out) _) (Below.refl _ _) (by simp) (by show (0 + D.length) * 1 ≤ _; have := HL.out; omega) ?_
       intro v1 w2 hR hb hg hat
       rw [List.nil_append] at hR
       obtain ⟨A1, c1, rfl⟩ := Kd.R_slice hR
       have HR1 := Aside0.mk hR
       have HB2 := Aside0.mk ((below_alloc (Below.refl w1.heap.size w1) _).trans (hb.mono (Nat.le_refl _)))
       have k1 : (w2.alloc (.cells #[] 3)).cell? ⟨w.heap.size, 1, none⟩ = some (.slice AC C.length cC) := cell_of_row _ _ 1 _ 25 (0, 0) (blk_alloc (blk_below HX1.out HB2.out) _)
       clear hR hb hg hat k0)
    | (refine Kd.R_append_row (w0 := w2.alloc (.cells #[] 3)) (Value.int .i64) 0 w2.heap.size rfl (.tmp 26) (.tmp 28) 23 3 (.int .i64 0) 8 rfl Tryd.underlying23 inf3 rfl (by decide) (.slice (some ⟨w2.heap.size, 0, none⟩) 0 0) [] C AC C.length cC (fun _ => True) rfl rfl (fun _ _ => trivial) (empty_R .i64 3 w2 (Nat.le_refl _) trivial) (Kd.C_alloc (Kd.C_below (Kd.C_below HC.out HB1.out) HB2.out) _) (Below.refl _ _) (by simp) (by show (0 + C.length) * 8 ≤ _; have := HL.out; omega) ?_
       intro v2 w3 hR hb hg hat
       rw [List.nil_append] at hR
       obtain ⟨A2, c2, rfl⟩ := Kd.R_slice hR
       have HR2 := Aside0.mk hR
       have HB3 := Aside0.mk ((below_alloc (Below.refl w2.heap.size w2) _).trans (hb.mono (Nat.le_refl _)))
       have HX3 := Aside0.mk (blk_below (blk_below HX1.out HB2.out) HB3.out)
       have k2 : w3.cell? ⟨w.heap.size, 2, none⟩ = some (.int .i64 f) := cell_of_row _ _ 2 _ 25 (0, 0) HX3.out
       have k3 : w3.cell? ⟨w.heap.size, 3, none⟩ = some (.int .i64 code) := cell_of_row _ _ 3 _ 25 (0, 0) HX3.out
       clear hR hb hg hat k1))
  have N := Aside0.mk (newSource A1 A2 c1 c2 D C f code w3 (Kd.C_below (Kd.R_reads' HR1.out).2.2 HB3.out) (Kd.R_reads' HR2.out).2.2 (by have := HL.out; omega) (by have := HL.out; omega))
  (with_reducible refine N.out.mono ?_)
  clear N k2 k3
  rintro e w4 ⟨g, bk, vD, vC, rfl, hS, hB⟩
  have HS4 := Aside0.mk hS
  have HB4 := Aside0.mk hB
  have hx := blk_below HX3.out hB
  have HX4 := Aside0.mk hx
  have k0 : w4.cell? ⟨w.heap.size, 0, none⟩ = some (.slice AD D.length cD) := cell_of_row _ _ 0 _ 25 (0, 0) hx
  have k1 : w4.cell? ⟨w.heap.size, 1, none⟩ = some (.slice AC C.length cC) := cell_of_row _ _ 1 _ 25 (0, 0) hx
  have k2 : w4.cell? ⟨w.heap.size, 2, none⟩ = some (.int .i64 f) := cell_of_row _ _ 2 _ 25 (0, 0) hx
  have k3 : w4.cell? ⟨w.heap.size, 3, none⟩ = some (.int .i64 code) := cell_of_row _ _ 3 _ 25 (0, 0) hx
  clear hS hB hx
  go_wp2_with fail
  (with_reducible refine (model (.slice AD D.length cD) (.slice AC C.length cC) f code AD AC D.length C.length cD cC rfl rfl w4).mono ?_)
  clear k0 k1 k2 k3
  rintro e w5 ⟨h, rfl, hM, hh, hB⟩
  have HS5 := Aside0.mk (HS4.out.keep hB.size (fun k _ h2 => hB.block k h2))
  have HM5 := Aside0.mk hM
  have HH := Aside0.mk hh
  have HB5 := Aside0.mk hB
  clear hM hh hB
  go_upto_region 15 with fail
  have hlD : D.length ≤ 140737488351232 := HL.out.2.1
  have hlC : C.length ≤ 17592186043904 := HL.out.2.2.1
  have hlS : S.length ≤ 17592186043904 := HL.out.2.2.2.1
  go_loopg [9] D.length (fun k v9 wr => ∃ (i : Nat) (xs : List Int), v9 = .int .i64 (i : Int) ∧ i ≤ D.length ∧ k = D.length - i ∧ Kd.R (Kd.int .u8) 5 wr w1.heap.size (fun _ => True) (.slice A1 D.length c1) xs ∧ Fr (fun k => w1.heap.size ≤ k ∧ k < w2.heap.size) w5 wr)
  case atStart => exact ⟨0, D, rfl, Nat.zero_le _, rfl, Kd.R_below (Kd.R_below (Kd.R_below HR1.out HB3.out) HB4.out) HB5.out, Fr.refl _ _⟩
  case round =>
  obtain ⟨i, xs, rfl, hi, rfl, hR, hF⟩ := hrel
  have HR := Aside0.mk hR
  have HF := Aside0.mk hF
  clear hR hF
  by_cases hlt : i < D.length
  · obtain ⟨gb, cb, hA, hg1, hg2, -⟩ := Kd.R_form HR1.out (by omega)
    obtain ⟨rfl, -, rfl⟩ := Value.slice.inj hA
    have hlt0 : decide ((i : Int) < (D.length : Int)) = true := decide_eq_true (by omega)
    have h' : (Kd.scalar (Value.int .u8) (fun _ => rfl)).R 5 wr w1.heap.size (fun _ => True) (.slice (some ⟨gb, 0, none⟩) D.length c1) xs := HR.out
    have HP := Aside0.mk (fun x => Kd.R_putn h' (i : Int) x)
    obtain ⟨hc, hf⟩ := Kd.R_celln 0 h' (i : Int) (by omega) (by omega)
    rw [Int.toNat_natCast] at hc hf HP
    obtain ⟨z, hz⟩ : ∃ z, z = rdOf 0 xs (i : Int) := ⟨_, rfl⟩
    rw [← hz] at hc
    clear hz h' hA
    go_wp2
    go_roundg (D.length - (i + 1))
    case measure => omega
    case rel => exact ⟨i + 1, _, rfl, by omega, rfl, HP.out _, HF.out.setCell (p := ⟨gb, i, none⟩) ⟨hg1, hg2⟩ _⟩
  have hlt0 : decide ((i : Int) < (D.length : Int)) = false := decide_eq_false (by omega)
  go_wp2
  have HR2b := Aside0.mk (show Kd.R (Kd.int .i64) 3 wr w2.heap.size (fun _ => True) (.slice A2 C.length c2) C from Kd.R_mono (Kd.R_step (Kd.R_bound (Kd.R_below (Kd.R_below HR2.out HB4.out) HB5.out)) (fun k hk hk2 => HF.out.block k hk2 (fun e => by have := hk.2.1; omega))) (fun _ _ => trivial))
  clear hlt0 hlt
  clear HR
  generalize wr = w6 at HR2b HF ⊢
  go_loopg [10] C.length (fun k v10 wr => ∃ (i : Nat) (xs : List Int), v10 = .int .i64 (i : Int) ∧ i ≤ C.length ∧ k = C.length - i ∧ Kd.R (Kd.int .i64) 3 wr w2.heap.size (fun _ => True) (.slice A2 C.length c2) xs ∧ Fr (fun k => w1.heap.size ≤ k ∧ k < w3.heap.size) w5 wr)
  case atStart => exact ⟨0, C, rfl, Nat.zero_le _, rfl, HR2b.out, ⟨HF.out.os, HF.out.tape, HF.out.output, HF.out.size, fun k hk hn => HF.out.block k hk (fun e => hn ⟨e.1, by have := HB3.out.size; omega⟩)⟩⟩
  case round =>
  clear HF HR2b
  obtain ⟨j, ys, rfl, hj, rfl, hR, hF⟩ := hrel
  have HR := Aside0.mk hR
  have HF := Aside0.mk hF
  clear hR hF
  by_cases hlt : j < C.length
  · obtain ⟨gb, cb, hA, hg1, hg2, -⟩ := Kd.R_form HR2.out (by omega)
    obtain ⟨rfl, -, rfl⟩ := Value.slice.inj hA
    have hlt0 : decide ((j : Int) < (C.length : Int)) = true := decide_eq_true (by omega)
    have h' : (Kd.scalar (Value.int .i64) (fun _ => rfl)).R 3 wr w2.heap.size (fun _ => True) (.slice (some ⟨gb, 0, none⟩) C.length c2) ys := HR.out
    have HP := Aside0.mk (fun x => Kd.R_putn h' (j : Int) x)
    obtain ⟨hc, hf⟩ := Kd.R_celln 0 h' (j : Int) (by omega) (by omega)
    rw [Int.toNat_natCast] at hc hf HP
    obtain ⟨z, hz⟩ : ∃ z, z = rdOf 0 ys (j : Int) := ⟨_, rfl⟩
    rw [← hz] at hc
    clear hz h' hA
    go_wp2
    go_roundg (C.length - (j + 1))
    case measure => omega
    case rel => exact ⟨j + 1, _, rfl, by omega, rfl, HP.out _, HF.out.setCell (p := ⟨gb, j, none⟩) ⟨by have := HB2.out.size; show w1.heap.size ≤ gb; omega, hg2⟩ _⟩
  have hlt0 : decide ((j : Int) < (C.length : Int)) = false := decide_eq_false (by omega)
  go_wp2
  clear hlt0 hlt HR
  have hs5 : w3.heap.size ≤ w4.heap.size ∧ w4.heap.size ≤ w5.heap.size ∧ w.heap.size ≤ w1.heap.size ∧ w1.heap.size ≤ w2.heap.size ∧ w2.heap.size ≤ w3.heap.size := ⟨HB4.out.size, HB5.out.size, HB1.out.size, HB2.out.size, HB3.out.size⟩
  have HSZ := Aside0.mk hs5
  clear hs5
  have HS7 := Aside0.mk (HS5.out.keep HF.out.size (fun k h1 h2 => HF.out.block k (by have := HSZ.out; omega) (fun e => by omega)))
  have HM7 := Aside0.mk ((HF.out.block h (blk_lt HM5.out) (fun e => by have := HSZ.out; have := HH.out; omega)).trans HM5.out)
  have HW7 := Aside0.mk (show Below w.heap.size w wr from ((((HB1.out.trans (HB2.out.mono (by have := HSZ.out; omega))).trans (HB3.out.mono (by have := HSZ.out; omega))).trans (HB4.out.mono (by have := HSZ.out; omega))).trans (HB5.out.mono (by have := HSZ.out; omega))).trans (HF.out.below (by have := HSZ.out; omega) (fun k hk => by have := HSZ.out; omega)))
  clear HF
  generalize wr = w7 at HS7 HM7 HW7 ⊢
  go_loopg [65] S.length (fun k v65 wr => ∃ (i pl tu : Nat), v65 = .int .i64 (i : Int) ∧ i ≤ S.length ∧ k = S.length - i ∧ Src wr w3.heap.size w4.heap.size g bk vD vC D C f code pl tu ∧ wr.heap[h]? = some (.cells #[.slice AD D.length cD, .slice AC C.length cC, .int .i64 f, .int .i64 (pl : Int), .int .i64 (tu : Int)] 68 (0, 0)) ∧ pl ≤ D.length ∧ (0 ≤ f → (pl : Int) ≤ f) ∧ tu ≤ i ∧ Below w.heap.size w wr)
  case atStart => exact ⟨0, 0, 0, rfl, Nat.zero_le _, rfl, HS7.out, HM7.out, Nat.zero_le _, fun h => h, Nat.le_refl _, HW7.out⟩
  case round =>
  clear HM7 HW7 HS7
  obtain ⟨n0, pl, tu, rfl, hi0, rfl, hS, hM, hpl, hpf, htu, hW⟩ := hrel
  have HS8 := Aside0.mk hS
  have HM8 := Aside0.mk hM
  have HW8 := Aside0.mk hW
  have HP8 := Aside0.mk (And.intro hpl (And.intro hpf htu))
  clear hS hM hW hpl hpf htu
  by_cases hlt : n0 < S.length
  case neg =>
    have hlt0 : decide ((n0 : Int) < (S.length : Int)) = false := decide_eq_false (by omega)
    go_wp2
    go_ret
    exact ⟨rfl, HW8.out⟩
  have hlt0 : decide ((n0 : Int) < (S.length : Int)) = true := decide_eq_true (by omega)
  obtain ⟨sa, hAS, hcell⟩ := Kd.at_int (Kd.C_below HS.out HW8.out) (n0 : Int) (by omega) (by omega)
  subst hAS
  rw [Int.toNat_natCast] at hcell
  obtain ⟨z, hz⟩ : ∃ z, z = rd S (n0 : Int) := ⟨_, rfl⟩
  rw [← hz] at hcell
  obtain ⟨n, hn⟩ : ∃ n : Nat, bits .and .i64 z 1023 = (n : Int) := ⟨(z % 1024).toNat, by rw [and1023]; omega⟩
  have hn1 : n ≤ 1023 := by have := and1023 z; omega
  have hmk := make_bytes wr n (by omega)
  clear hz
  go_wp2_with fail
  have hrep : (List.replicate n (Value.int .u8 0)).toArray = Array.replicate n (Value.int .u8 0) := by simp
  have hb8 := blk_new wr (.cells (Array.replicate n (Value.int .u8 0)) 5 (0, 0))
  have hB8 := below_alloc (Below.refl wr.heap.size wr) (.cells (Array.replicate n (Value.int .u8 0)) 5 (0, 0))
  generalize wr.alloc (.cells (Array.replicate n (Value.int .u8 0)) 5 (0, 0)) = w8 at hb8 hB8 ⊢
  rw [← hrep] at hb8
  clear hrep
  have HA8 := Aside0.mk (And.intro hb8 hB8)
  clear hb8 hB8 hmk
  have hsw : w.heap.size ≤ wr.heap.size ∧ w4.heap.size ≤ wr.heap.size ∧ wr.heap.size ≤ w8.heap.size := ⟨HW8.out.size, HS8.out.top, HA8.out.2.size⟩
  have hgh : w3.heap.size ≤ g ∧ g < w4.heap.size ∧ w4.heap.size ≤ h ∧ h < wr.heap.size := ⟨HS8.out.g1, HS8.out.g2, HH.out, blk_lt HM8.out⟩
  have HX := Aside0.mk (And.intro hsw hgh)
  clear hsw hgh
  have HSa := Aside0.mk (HS8.out.keep HA8.out.2.size (fun k _ h2 => HA8.out.2.block k (by have := HX.out; omega)))
  have HWa := Aside0.mk (HW8.out.trans (HA8.out.2.mono HX.out.1.1))
  obtain ⟨kk, hkk⟩ : ∃ kk, kk = rdK D C f pl tu n := ⟨_, rfl⟩
  obtain ⟨tt, htt⟩ : ∃ tt, tt = rdT D C f pl tu n := ⟨_, rfl⟩
  obtain ⟨ee, hee⟩ : ∃ ee, ee = rdE D C f pl tu n := ⟨_, rfl⟩
  have HK := Aside0.mk (rdK_le D C f pl tu n HP8.out.1)
  have HT := Aside0.mk (rdT_le D C f pl tu n)
  have R1 := readU w3.heap.size w4.heap.size g bk vD vC D C f code pl tu wr.heap.size 0 n n (List.replicate n (Value.int .u8 0)) ae w8 HSa.out (by omega) HP8.out.2.1 HL.out.2.2.2.2 HP8.out.1 (by omega) (by omega) (by have := HP8.out.2.2; omega) HA8.out.1 (by simp) (.inr HX.out.1.2.1) (pw_cell_below HWa.out HE.out)
  rw [← hkk, ← htt, ← hee] at R1
  rw [← hkk] at HK
  rw [← htt] at HT
  have HEQ := Aside0.mk (And.intro hkk (And.intro htt hee))
  clear hkk htt hee
  (with_reducible refine R1.mono ?_)
  clear R1
  rintro e w9 ⟨rfl, hS, hF, hb⟩
  have HS9 := Aside0.mk hS
  have HF9 := Aside0.mk hF
  have HG9 := Aside0.mk hb
  clear hS hF hb
  have HM9 := Aside0.mk ((HF9.out.block h (by have := HX.out; omega) (fun e => by have := HX.out; omega)).trans ((HA8.out.2.block h (by have := HX.out; omega)).trans HM8.out))
  have HW9 := Aside0.mk (HWa.out.trans (HF9.out.below (B := w.heap.size) (by have := HX.out; omega) (fun k hk => by have := HX.out; have := HSZ.out; omega)))
  have R2 := refU h AD AC cD cC D C f pl tu n w9 ⟨HM9.out, Kd.C_below HD.out HW9.out, Kd.C_below HC.out HW9.out, fun h0 ad had => by
    obtain ⟨a', e', hc'⟩ := HD.out.2.2 h0
    obtain rfl : ad = a' := Option.some.inj (had.symm.trans e')
    obtain ⟨c, c1, c2, c3⟩ := hc' 0 _ (List.getElem?_eq_getElem h0)
    obtain rfl : c = [Value.int .u8 D[0]] := c2
    have := World.block_lt_of_cell? w _ (c3 0 _ rfl)
    rw [add_block] at this
    have := HX.out
    have := HSZ.out
    omega⟩ (by omega) HP8.out.2.1 HL.out.2.2.2.2 HP8.out.1 (by omega) HL.out.1 (by omega) (by have := HP8.out.2.2; omega)
  rw [← HEQ.out.1, ← HEQ.out.2.1, ← HEQ.out.2.2] at R2
  go_wp2_with fail
  (with_reducible refine R2.mono ?_)
  clear R2
  rintro e w10 ⟨v, rfl, hR, hM, hF⟩
  obtain ⟨A10, c10, rfl⟩ := Kd.R_slice hR
  have hll : ((D.drop pl).take kk).length = kk := by rw [List.length_take, List.length_drop]; have := HK.out; omega
  have HR10 := Aside0.mk hR
  have HM10 := Aside0.mk hM
  have HF10 := Aside0.mk hF
  have HLL := Aside0.mk hll
  rw [hll]
  clear hR hM hF hll
  have HS10 := Aside0.mk (HS9.out.keep HF10.out.size (fun k h1 h2 => HF10.out.block k (by have := HX.out; have := HF9.out.size; omega) (fun e => by have := HX.out; omega)))
  have HW10 := Aside0.mk (HW9.out.trans (HF10.out.below (B := w.heap.size) (by have := HX.out; have := HF9.out.size; omega) (fun k hk => by have := HX.out; have := HSZ.out; omega)))
  have HG10 := Aside0.mk (show w10.heap[wr.heap.size]? = some (.cells (((D.drop pl).take kk ++ List.replicate (n - kk) 0).map (Value.int .u8)).toArray 5 (0, 0)) by
    rw [HF10.out.block _ (by have := blk_lt HG9.out; exact this) (fun e => by have := HX.out; omega), HG9.out, splice_zero n _ (by rw [HLL.out]; exact HK.out.1), HLL.out])
  have hkn : kk ≤ n := HK.out.1
  go_wp2_with fail
  (with_reducible refine (failU w3.heap.size w4.heap.size g bk vD vC D C f code _ _ w10 HS10.out).mono ?_)
  rintro e w' ⟨rfl, rfl⟩
  have R3 := isU D C f pl tu n bk ae w10 (pw_cell_below HW10.out HE.out)
  rw [← HEQ.out.2.2] at R3
  go_wp2_with fail
  (with_reducible refine R3.mono ?_)
  clear R3
  rintro e w' ⟨rfl, rfl⟩
  have SY := Aside0.mk (same_yes (some ⟨wr.heap.size, 0, none⟩) A10 n c10 ((D.drop pl).take kk) w10 (by rw [HLL.out]; omega) (blk_C_pre HG10.out (by rw [HLL.out]; omega)) (by rw [HLL.out]; exact hkn) (Kd.R_reads' HR10.out).2.2 (Kd.R_reads' HR10.out).2.1)
  rw [HLL.out] at SY
  go_wp2_with fail
  (with_reducible refine SY.out.mono ?_)
  clear SY
  rintro e w' ⟨rfl, m11, rfl⟩
  go_wp2_with fail
  have HL11 : Aside0 (∃ ys : List Int, ys.length = n ∧ (w10.drewN m11).heap[wr.heap.size]? = some (.cells (ys.map (Value.int .u8)).toArray 5 (0, 0))) := ⟨⟨_, by rw [List.length_append, List.length_replicate, HLL.out]; omega, blk_drewN HG10.out m11⟩⟩
  have HS11 := Aside0.mk (HS10.out.keep (W' := w10.drewN m11) (Nat.le_refl _) (fun _ _ _ => rfl))
  have HM11 := Aside0.mk (blk_drewN HM10.out m11)
  have HW11 := Aside0.mk (pw_below_drewN HW10.out m11)
  have HZ11 := Aside0.mk (show wr.heap.size < (w10.drewN m11).heap.size from blk_lt HG10.out)
  generalize w10.drewN m11 = w11 at HL11 HS11 HM11 HW11 HZ11 ⊢
  clear HG10 HW10 HS10 HLL HF10 HM10 HR10 HW9 HM9 HG9 HF9 HS9
  go_loopg [19] n (fun k v19 wr' => ∃ (q : Nat) (ys : List Int), v19 = .int .i64 (q : Int) ∧ q ≤ n ∧ k = n - q ∧ ys.length = n ∧ wr'.heap[wr.heap.size]? = some (.cells (ys.map (Value.int .u8)).toArray 5 (0, 0)) ∧ Fr (fun k => k = wr.heap.size) w11 wr')
  case atStart =>
    obtain ⟨ys, hy, hb⟩ := HL11.out
    exact ⟨0, ys, rfl, Nat.zero_le _, rfl, hy, hb, Fr.refl _ _⟩
  case round =>
  obtain ⟨q, ys, rfl, hq, rfl, hy, hb, hF⟩ := hrel
  have HF := Aside0.mk hF
  clear hF
  by_cases hlq : q < n
  · have hlq0 : decide ((q : Int) < (n : Int)) = true := decide_eq_true (by omega)
    have hc := blk_cell hb q
    rw [List.getElem?_toArray, List.getElem?_map, List.getElem?_eq_getElem (by omega)] at hc
    obtain ⟨z2, hz2⟩ : ∃ z2, z2 = ys[q]'(by omega) := ⟨_, rfl⟩
    simp only [Option.map_some, ← hz2] at hc
    have hf := blk_frozen hb q
    have HP := Aside0.mk (blk_put hb q (.int .u8 77) (cs' := ((ys.set q 77).map (Value.int .u8)).toArray) (by simp [List.map_set]))
    clear hz2 hb
    go_wp2
    go_roundg (n - (q + 1))
    case measure => omega
    case rel => exact ⟨q + 1, _, rfl, by omega, rfl, by rw [List.length_set]; exact hy, HP.out, HF.out.setCell (p := ⟨_, q, none⟩) rfl _⟩
  have hlq0 : decide ((q : Int) < (n : Int)) = false := decide_eq_false (by omega)
  go_wp2
  go_roundg (S.length - (n0 + 1))
  case measure => omega
  case rel =>
    refine ⟨n0 + 1, pl + kk, tt, rfl, by omega, rfl, HS11.out.keep HF.out.size (fun k h1 h2 => HF.out.block k (by have := HX.out; have := HZ11.out; omega) (fun e => by have := HX.out; omega)), (HF.out.block h (blk_lt HM11.out) (fun e => by have := HX.out; omega)).trans HM11.out, HK.out.2.1, fun h => HK.out.2.2 h (HP8.out.2.1 h), by have := HT.out; have := HP8.out.2.2; omega, HW11.out.trans (HF.out.below (B := w.heap.size) HW11.out.size (fun k hk => by have := HX.out; omega))⟩
end Go.Proofs.YtdgfbamhnmnliaaDoor.A
