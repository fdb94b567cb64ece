/- Sources: Read. -/
import Derived.Test.YtdgfbamhnmnliaaDoorPA
import Derived.Test.YtdgfbamhnmnliaaDoorQuietTail
import Derived.WalkLawsBesides
import Derived.Deep.DeepCutAuto
import Derived.Laws.CopyOwn
namespace Go.Proofs.YtdgfbamhnmnliaaDoor.A
open Go.RowKit Go.Deep Go.Proofs.YtdgfbamhnmnliaaDoor.R Go.Proofs.YtdgfbamhnmnliaaDoorW.PrintWords Go.Proofs.YtdgfbamhnmnliaaDoorW.PrintLast Go.Proofs.YtdgfbamhnmnliaaDoorW.PrintMore
set_option linter.unusedVariables false
set_option linter.unusedSimpArgs false
/-- What changes: the blocks of X, and new ones. -/
structure Fr (X : Nat → Prop) (W W' : World) : Prop where
  os : W'.os = W.os
  tape : W'.tape = W.tape
  output : W'.output = W.output
  size : W.heap.size ≤ W'.heap.size
  block : ∀ k, k < W.heap.size → ¬ X k → W'.heap[k]? = W.heap[k]?
theorem Fr.refl (X : Nat → Prop) (W : World) : Fr X W W := ⟨rfl, rfl, rfl, Nat.le_refl _, fun _ _ _ => rfl⟩
theorem Fr.drewN {X : Nat → Prop} {W W' : World} (h : Fr X W W') (n : Nat) : Fr X W (W'.drewN n) := ⟨h.os, h.tape, h.output, h.size, h.block⟩
theorem Fr.setCell {X : Nat → Prop} {W W' : World} (h : Fr X W W') {p : Addr} (hp : X p.block) (u : Value) : Fr X W (W'.setCell p u) :=
  ⟨h.os, h.tape, h.output, by simpa [World.setCell] using h.size, fun k hk hn => (Below.heap_setCell W' p u k (fun e => hn (e ▸ hp))).trans (h.block k hk hn)⟩
theorem Fr.trans {X Y : Nat → Prop} {W W1 W2 : World} (h : Fr X W W1) (k : Fr Y W1 W2) (hy : ∀ b, b < W.heap.size → Y b → X b) : Fr X W W2 :=
  ⟨k.os.trans h.os, k.tape.trans h.tape, k.output.trans h.output, Nat.le_trans h.size k.size, fun b hb hn => (k.block b (Nat.lt_of_lt_of_le hb h.size) (fun e => hn (hy b hb e))).trans (h.block b hb hn)⟩
theorem Fr.of_below {X : Nat → Prop} {W W' : World} (h : Below W.heap.size W W') : Fr X W W' := ⟨h.os, h.tape, h.output, h.size, fun k hk _ => h.block k hk⟩
theorem Fr.below {X : Nat → Prop} {B : Nat} {W W' : World} (h : Fr X W W') (hB : B ≤ W.heap.size) (hx : ∀ k, X k → B ≤ k) : Below B W W' :=
  ⟨h.os, h.tape, h.output, h.size, fun k hk => h.block k (by omega) (fun e => by have := hx k e; omega)⟩
theorem addr_add (a : Addr) (i j : Nat) : (a.add i).add j = a.add (i + j) := by
  unfold Addr.add
  by_cases hi : i = 0 <;> by_cases hj : j = 0 <;> simp [hi, hj, Nat.add_assoc]
/-- How many bytes a read gives, where it gives some (or none, by its plan). -/
def rdA (D : List Int) (pl n : Nat) : Int := if (n : Int) ≤ (D.length : Int) - (pl : Int) then (n : Int) else (D.length : Int) - (pl : Int)
def rdB (D : List Int) (f : Int) (pl n : Nat) : Int := if 0 ≤ f then (if rdA D pl n ≤ f - (pl : Int) then rdA D pl n else f - (pl : Int)) else rdA D pl n
def rdM (D C : List Int) (f : Int) (pl tu n : Nat) : Int := if C = [] then rdB D f pl n else (if rdB D f pl n ≤ C.getD (tu % C.length) 0 then rdB D f pl n else C.getD (tu % C.length) 0)
theorem rdA_le (D : List Int) (pl n : Nat) : rdA D pl n ≤ n ∧ rdA D pl n ≤ (D.length : Int) - (pl : Int) := by unfold rdA; split <;> omega
theorem rdB_le (D : List Int) (f : Int) (pl n : Nat) : rdB D f pl n ≤ rdA D pl n ∧ (0 ≤ f → rdB D f pl n ≤ f - (pl : Int)) := by
  unfold rdB
  split
  · split
    · exact ⟨Int.le_refl _, fun _ => by assumption⟩
    · exact ⟨by omega, fun _ => Int.le_refl _⟩
  · exact ⟨Int.le_refl _, fun h => absurd h (by assumption)⟩
theorem rdM_le (D C : List Int) (f : Int) (pl tu n : Nat) : rdM D C f pl tu n ≤ rdB D f pl n := by
  unfold rdM
  split
  · exact Int.le_refl _
  · split <;> omega
set_option maxHeartbeats 4000000 in
set_option maxRecDepth 100000 in
theorem read_main (lo hi g bk : Nat) (vD vC : Value) (D C : List Int) (f code : Int) (pl tu : Nat) (gp off n cap : Nat) (cur : List Value) (w : World) (hS : Src w lo hi g bk vD vC D C f code pl tu) (hn : 0 < n) (hn2 : n ≤ 140737488355328) (hfp : 0 ≤ f → (pl : Int) < f) (hf2 : f ≤ 9223372036854775807) (hpl : pl < D.length) (hD : D.length ≤ 140737488355328) (hCl : C.length ≤ 140737488355328) (htu : tu < 2 ^ 60)
    (hgp : w.heap[gp]? = some (.cells cur.toArray 5 (0, 0))) (hfit : off + n ≤ cur.length) (hne : gp < lo ∨ hi ≤ gp) (kk : Nat) (hkk : kk = (rdM D C f pl tu n).toNat) :
    Calls Tryd.prog 12 #[.pointer (some ⟨g, 0, none⟩), .slice (some ⟨gp, off, none⟩) n cap] w fun e w' => e = .returned (.tuple #[.int .i64 (kk : Int), .nilIface]) ∧
      Src w' lo hi g bk vD vC D C f code ((pl + kk : Nat) : Int) ((tu + 1 : Nat) : Int) ∧ Fr (fun k => k = g ∨ k = gp) w w' ∧ w'.heap[gp]? = some (.cells (splice cur off (((D.drop pl).take kk).map (Value.int .u8))).toArray 5 (0, 0)) := by
  have HKK := Aside0.mk hkk
  clear hkk
  obtain ⟨AD, cD, rfl⟩ := Kd.R_slice hS.data
  obtain ⟨AC, cC, rfl⟩ := Kd.R_slice hS.chunks
  have k0 := cell_of_row w g 0 _ 66 (0, 0) hS.blk
  have k1 := cell_of_row w g 1 _ 66 (0, 0) hS.blk
  have k2 := cell_of_row w g 2 _ 66 (0, 0) hS.blk
  have k3 := cell_of_row w g 3 _ 66 (0, 0) hS.blk
  have k4 := cell_of_row w g 4 _ 66 (0, 0) hS.blk
  have k5 := cell_of_row w g 5 _ 66 (0, 0) hS.blk
  have f5 : w.frozen? ⟨g, 5, none⟩ = false := blk_frozen hS.blk _
  have f4 : w.frozen? ⟨g, 4, none⟩ = false := blk_frozen hS.blk _
  simp only [List.getElem?_toArray, List.getElem?_cons_succ, List.getElem?_cons_zero] at k0 k1 k2 k3 k4 k5
  have HS := Aside0.mk hS
  have HG := Aside0.mk (And.intro hgp (And.intro hfit hne))
  clear hgp hfit hne
  have hl0 : ((n : Int) == 0) = false := beq_eq_false_iff_ne.2 (by omega)
  have hl1 : ((pl : Int) == (D.length : Int)) = false := beq_eq_false_iff_ne.2 (by omega)
  have hpf : ((pl : Int) == f) = false := beq_eq_false_iff_ne.2 (fun e => by have := hfp (by omega); omega)
  have ed : IntKind.i64.wrap ((D.length : Int) - (pl : Int)) = (D.length : Int) - (pl : Int) := by rw [IntKind.wrap_i64]; omega
  obtain ⟨hA1, hA2⟩ := rdA_le D pl n
  obtain ⟨hB1, hB2⟩ := rdB_le D f pl n
  obtain ⟨a1, ha1⟩ : ∃ a1, a1 = rdA D pl n := ⟨_, rfl⟩
  obtain ⟨a2, ha2⟩ : ∃ a2, a2 = rdB D f pl n := ⟨_, rfl⟩
  obtain ⟨a3, ha3⟩ : ∃ a3, a3 = rdM D C f pl tu n := ⟨_, rfl⟩
  rw [← ha1] at hA1 hA2 hB1
  rw [← ha2] at hB1 hB2
  have H1 := Aside0.mk ha1
  have H2 := Aside0.mk ha2
  have H3 := Aside0.mk ha3
  clear hS ha1 ha2 ha3
  go_enter Tryd.func12, Tryd.ntmps12
  go_upto_region 5 with fail
  go_cut [15] (fun v15 wx => v15 = .bool false ∧ ∃ m, wx = w.drewN m)
  case first =>
    by_cases hf : 0 ≤ f
    · have hf0 : decide (0 ≤ f) = true := decide_eq_true hf
      go_quiet (fail)
      go_wp2
      go_meet
      exact ⟨rfl, _, rfl⟩
    · have hf0 : decide (0 ≤ f) = false := decide_eq_false hf
      go_quiet (fail)
      go_wp2
      go_meet
      exact ⟨rfl, _, rfl⟩
  case rest =>
  obtain ⟨rfl, m0, rfl⟩ := hcut
  go_wp2
  go_quiet (fail)
  go_upto_region 9 with fail
  go_cut [6] (fun v6 wx => v6 = .int .i64 a1 ∧ ∃ m, wx = w.drewN m)
  case first =>
    go_quiet (fail)
    go_wp2
    all_goals
      go_meet
      exact ⟨congrArg (Value.int .i64) (by rw [H1.out]; unfold rdA; split <;> omega), _, by first | rfl | rw [World.drewN_drewN]⟩
  case rest =>
  obtain ⟨rfl, m1, rfl⟩ := hcut
  go_upto_if 66 with fail
  go_cut [6] (fun v6 wx => v6 = .int .i64 a2 ∧ ∃ m, wx = w.drewN m)
  case first =>
    by_cases hf : 0 ≤ f
    · have hf0 : decide (0 ≤ f) = true := decide_eq_true hf
      have ef : IntKind.i64.wrap (f - (pl : Int)) = f - (pl : Int) := by rw [IntKind.wrap_i64]; omega
      go_wp2
      go_quiet (fail)
      go_wp2
      all_goals
        go_meet
        exact ⟨congrArg (Value.int .i64) (by rw [H2.out]; unfold rdB; rw [if_pos hf, ← H1.out]; split <;> omega), _, by first | rfl | rw [World.drewN_drewN]⟩
    · have hf0 : decide (0 ≤ f) = false := decide_eq_false hf
      go_wp2
      go_meet
      exact ⟨congrArg (Value.int .i64) (by rw [H2.out]; unfold rdB; rw [if_neg (by omega), ← H1.out]), _, by first | rfl | rw [World.drewN_drewN]⟩
  case rest =>
  obtain ⟨rfl, m2, rfl⟩ := hcut
  go_upto_if 83 with fail
  go_cut [6] (fun v6 wx => v6 = .int .i64 a3 ∧ ∃ m, wx = w.drewN m)
  case first =>
    by_cases hC : C.length = 0
    · have hc0 : decide (((C.length : Nat) : Int) > 0) = false := decide_eq_false (by omega)
      go_wp2
      go_meet
      exact ⟨congrArg (Value.int .i64) (by rw [H3.out]; unfold rdM; rw [if_pos (List.eq_nil_of_length_eq_zero hC), ← H2.out]), _, by first | rfl | rw [World.drewN_drewN]⟩
    · have hc0 : decide (((C.length : Nat) : Int) > 0) = true := decide_eq_true (by omega)
      have hmod := Nat.mod_lt tu (show 0 < C.length by omega)
      obtain ⟨r, hr⟩ : ∃ r, r = tu % C.length := ⟨_, rfl⟩
      obtain ⟨ad, hAC, hcell⟩ := Kd.at_int (Kd.R_reads' HS.out.chunks).2.2 (r : Int) (by omega) (by omega)
      subst hAC
      rw [Int.toNat_natCast] at hcell
      have em : Int.tmod (tu : Int) (C.length : Int) = (r : Int) := by rw [hr, Int.tmod_eq_emod_of_nonneg (by omega)]; exact (Int.natCast_emod _ _).symm
      have hz0 : ((C.length : Int) == 0) = false := beq_eq_false_iff_ne.2 (by omega)
      have hr1 : (r : Int) < (C.length : Int) := by omega
      have HC3 := Aside0.mk (show a3 = if a2 ≤ rd C (r : Int) then a2 else rd C (r : Int) by
        rw [H3.out]; unfold rdM
        rw [if_neg (fun e => hC (by rw [e]; rfl)), ← H2.out, ← hr]; rfl)
      obtain ⟨z, hz⟩ : ∃ z, z = rd C (r : Int) := ⟨_, rfl⟩
      rw [← hz] at hcell HC3
      clear hz hr hmod
      go_wp2
      go_quiet (fail)
      go_wp2
      all_goals
        go_meet
        exact ⟨congrArg (Value.int .i64) (by rw [HC3.out]; split <;> omega), _, by first | rfl | rw [World.drewN_drewN]⟩
  case rest =>
  obtain ⟨rfl, m3, rfl⟩ := hcut
  obtain ⟨-, hnc, hCD⟩ := Kd.R_reads' HS.out.data
  have hA3 := rdM_le D C f pl tu n
  rw [← H2.out, ← H3.out] at hA3
  by_cases hm : a3 ≤ 0
  · have hm0 : decide (a3 ≤ 0) = true := decide_eq_true hm
    go_wp2
    have hgg : gp ≠ g := by have := HG.out.2.2; have := HS.out.g1; have := HS.out.g2; omega
    obtain rfl : kk = 0 := by rw [HKK.out, ← H3.out]; omega
    go_ret2
    have hb := blk_put (blk_drewN HS.out.blk m3) 5 (.int .i64 ((tu : Int) + 1)) rfl
    refine ⟨rfl, HS.out.step hb (by simp [World.setCell]) (fun k _ _ hk => Below.heap_setCell _ _ _ k hk), ((Fr.refl _ _).drewN m3).setCell (.inl rfl) _, ?_⟩
    rw [List.take_zero]
    simpa [splice] using blk_far (blk_drewN HG.out.1 m3) (p := ⟨g, 5, none⟩) hgg (.int .i64 ((tu : Int) + 1))
  · have hm0 : decide (a3 ≤ 0) = false := decide_eq_false hm
    obtain ⟨m, rfl⟩ : ∃ m : Nat, a3 = (m : Int) := ⟨a3.toNat, by omega⟩
    obtain ⟨ad, hAD, hcD⟩ := hCD.2.2 (by omega)
    subst hAD
    obtain rfl : m = kk := by rw [HKK.out, ← H3.out]; omega
    have hgg : gp ≠ g := by have := HG.out.2.2; have := HS.out.g1; have := HS.out.g2; omega
    have es : IntKind.i64.wrap ((pl : Int) + (m : Int)) = (pl : Int) + (m : Int) := by rw [IntKind.wrap_i64]; omega
    have es2 : (pl : Int) + (m : Int) ≤ (cD : Int) := by omega
    have es3 : (pl : Int) ≤ (pl : Int) + (m : Int) := by omega
    have hsl : Value.slice (if cD = pl then some ad else some (ad.add pl)) (((pl : Int) + (m : Int)).toNat - pl) (cD - pl) = .slice (some (ad.add pl)) m (cD - pl) := by
      rw [if_neg (by omega)]; congr 1; omega
    have HSL := Aside0.mk hsl
    clear hcD hsl
    go_wp2
    refine wp_region_quiet_tail 16 (by kernel_rfl) (by kernel_rfl) ?_
    simp only [List.take_succ_cons, List.take_zero, List.drop_succ_cons, List.drop_zero]
    repeat (quiet_step (fail))
    refine wpQuiet_nil ?_
    intro wq hq
    obtain ⟨nq, rfl⟩ := hq
    have hb4 := blk_drewN (blk_put (blk_drewN HS.out.blk m3) 5 (.int .i64 ((tu : Int) + 1)) rfl) nq
    have hp4 := blk_drewN (blk_far (blk_drewN HG.out.1 m3) (p := ⟨g, 5, none⟩) hgg (.int .i64 ((tu : Int) + 1))) nq
    have HF4 := Aside0.mk ((((Fr.refl (fun k => k = g ∨ k = gp) w).drewN m3).setCell (p := ⟨g, 5, none⟩) (.inl rfl) (.int .i64 ((tu : Int) + 1))).drewN nq)
    have HS4 := Aside0.mk (HS.out.step hb4 HF4.out.size (fun k _ _ hk => Below.heap_setCell _ _ _ k hk))
    generalize ((w.drewN m3).setCell ⟨g, 5, none⟩ (.int .i64 ((tu : Int) + 1))).drewN nq = w4 at hp4 HF4 HS4 ⊢
    clear hb4
    obtain ⟨ad', he, hcD⟩ := (Kd.R_reads' HS4.out.data).2.2.2.2 (by omega)
    obtain rfl : ad = ad' := Option.some.inj he
    have hn0 : ((D.drop pl).take m).length = m := by rw [List.length_take, List.length_drop]; omega
    refine wpList_copy_own rfl (.tmp 111) (.tmp 126) 22 22 rfl 5 Tryd.underlying22 (by kernel_rfl) gp off n cap (ad.add pl) m (cD - pl) rfl HSL.out cur.toArray 5 hp4 (((D.drop pl).take m).map (Value.int .u8)) (by rw [List.length_map, hn0]; exact (Nat.min_eq_left (by omega)).symm) ?_ (by rw [List.length_map, hn0]; have := HG.out.2.1; simp; omega) (fun v hv => by obtain ⟨x, -, rfl⟩ := List.mem_map.1 hv; rfl) ?_
    · intro j v hj
      rw [List.getElem?_map] at hj
      have hjm : j < m := by
        rcases Nat.lt_or_ge j m with h | h
        · exact h
        · rw [List.getElem?_eq_none (by omega)] at hj; cases hj
      rw [List.getElem?_take_of_lt hjm, List.getElem?_drop] at hj
      obtain ⟨x, hx, rfl⟩ := Option.map_eq_some_iff.1 hj
      obtain ⟨c, hc1, hc2, hc3⟩ := hcD (pl + j) x hx
      obtain rfl : c = [Value.int .u8 x] := hc2
      have := hc3 0 (.int .u8 x) rfl
      rw [show (pl + j) * (Kd.int .u8).sz + 0 = pl + j from by show (pl + j) * 1 + 0 = _; omega] at this
      rw [addr_add]
      exact this
    · have hb5 : (w4.setRow gp (cur.toArray.toList.take off ++ (((D.drop pl).take m).map (Value.int .u8) ++ cur.toArray.toList.drop (off + (((D.drop pl).take m).map (Value.int .u8)).length))).toArray).heap[g]? = _ := (setRow_other w4 gp g _ (fun e => hgg e.symm)).trans HS4.out.blk
      have hp5 := setRow_heap w4 gp _ (cur.toArray.toList.take off ++ (((D.drop pl).take m).map (Value.int .u8) ++ cur.toArray.toList.drop (off + (((D.drop pl).take m).map (Value.int .u8)).length))).toArray 5 _ hp4
      have HF5 : Aside0 (Fr (fun k => k = g ∨ k = gp) w4 (w4.setRow gp (cur.toArray.toList.take off ++ (((D.drop pl).take m).map (Value.int .u8) ++ cur.toArray.toList.drop (off + (((D.drop pl).take m).map (Value.int .u8)).length))).toArray)) := ⟨⟨rfl, rfl, rfl, by simp [World.setRow], fun k _ hk => setRow_other _ _ _ _ (fun e => hk (.inr e))⟩⟩
      have HS5 := Aside0.mk (HS4.out.keep HF5.out.size (fun k k1 k2 => setRow_other w4 gp k _ (fun e => by have := HG.out.2.2; omega)))
      generalize (w4.setRow gp (cur.toArray.toList.take off ++ (((D.drop pl).take m).map (Value.int .u8) ++ cur.toArray.toList.drop (off + (((D.drop pl).take m).map (Value.int .u8)).length))).toArray) = w5 at hb5 hp5 HF5 HS5 ⊢
      have HP5 := Aside0.mk hp5
      have q4 := cell_of_row w5 g 4 _ 66 (0, 0) hb5
      have g4 : w5.frozen? ⟨g, 4, none⟩ = false := blk_frozen hb5 _
      simp only [List.getElem?_toArray, List.getElem?_cons_succ, List.getElem?_cons_zero] at q4
      have HB5 := Aside0.mk hb5
      clear k0 k1 k2 k3 k4 k5 f4 f5 hb5 hp5 hp4 hcD he
      go_wp2
      go_ret2
      refine ⟨rfl, HS5.out.step (blk_put HB5.out 4 (.int .i64 ((pl : Int) + (m : Int))) rfl) (by simp [World.setCell]) (fun k _ _ hk => Below.heap_setCell _ _ _ k hk), (HF4.out.trans HF5.out (fun _ _ h => h)).setCell (p := ⟨g, 4, none⟩) (.inl rfl) _, ?_⟩
      rw [blk_far HP5.out (p := ⟨g, 4, none⟩) hgg]
      simp [splice]
end Go.Proofs.YtdgfbamhnmnliaaDoor.A
