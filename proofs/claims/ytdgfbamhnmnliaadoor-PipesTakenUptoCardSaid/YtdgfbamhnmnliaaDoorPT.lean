/- PipesTaken: the walk. -/
import Derived.Test.YtdgfbamhnmnliaaDoorPS
import Derived.Test.YtdgfbamhnmnliaaDoorPF
namespace Go.Proofs.YtdgfbamhnmnliaaDoor.A
open Go.RowKit Go.Deep Go.Proofs.YtdgfbamhnmnliaaDoor.R Go.Proofs.YtdgfbamhnmnliaaDoorW.PrintWords Go.Proofs.YtdgfbamhnmnliaaDoorW.PrintLast Go.Proofs.YtdgfbamhnmnliaaDoorW.PrintMore
set_option linter.unusedVariables false
set_option linter.unusedSimpArgs false
set_option linter.unnecessarySimpa false
set_option maxRecDepth 100000
theorem at_row {α : Type} {d : Kd α} {e : Nat} {w : World} {A : Option Addr} {xs : List (List α)} (h : (Kd.slice e d).C w A xs.length xs) (i : Nat) (hi : i < xs.length) : ∃ ad A' c', A = some ad ∧ w.cell? (ad.add i) = some (.slice A' xs[i].length c') ∧ xs[i].length ≤ c' ∧ d.C w A' xs[i].length xs[i] := by
  obtain ⟨ad, rfl, hc⟩ := h.2.2 (by omega)
  obtain ⟨c, c1, ⟨A', c', rfl, hle, hC⟩, c3⟩ := hc i _ (List.getElem?_eq_getElem hi)
  refine ⟨ad, A', c', rfl, ?_, hle, hC⟩
  have := c3 0 _ rfl
  simpa [show (Kd.slice e d).sz = 1 from rfl] using this
/-- A row lives on where its own block does. -/
theorem R_own_keep {k : IntKind} {e base : Nat} {W W' : World} {v : Value} {xs : List Int} (h : Kd.R (Kd.int k) e W base (fun _ => True) v xs) (hk : ∀ b, v.ownBlock = some b → W'.heap[b]? = W.heap[b]?) : Kd.R (Kd.int k) e W' base (fun _ => True) v xs :=
  Kd.R_mono (Kd.R_step (Kd.R_of_own (Kd.own_of_R h) (fun b hb => hb)) (fun b hb _ => hk b hb)) (fun _ _ => trivial)
theorem Snk.keep {W W' : World} {lo g bk : Nat} {vD : Value} {D : List Int} {f code : Int} (h : Snk W lo g bk vD D f code) (hg : W'.heap[g]? = W.heap[g]?) (hb : W'.heap[bk]? = W.heap[bk]?) (hk : ∀ b, vD.ownBlock = some b → W'.heap[b]? = W.heap[b]?) : Snk W' lo g bk vD D f code :=
  ⟨hg.trans h.blk, hb.trans h.brk, h.g1, h.b1, Kd.R_mono (ok := fun b => vD.ownBlock = some b ∧ lo ≤ b ∧ b ≠ g) (Kd.R_step (Kd.R_of_own (ok := fun b => vD.ownBlock = some b ∧ lo ≤ b ∧ b ≠ g) (Kd.own_of_R h.data) (fun b hb => ⟨hb, h.data.1 b hb⟩)) (fun b hb _ => hk b hb.1)) (fun _ h => h.2)⟩
theorem own_not {k : IntKind} {e base t b : Nat} {W : World} {ok : Nat → Prop} {v : Value} {xs : List Int} {cs : Array Value} (h : Kd.R (Kd.int k) e W base ok v xs) (hb : W.heap[b]? = some (.cells cs t (0, 0))) (hne : e ≠ t) : some b ≠ v.ownBlock := fun he => by
  obtain ⟨cells, hc⟩ := own_typed (Kd.own_of_R h) b he.symm
  rw [hb] at hc
  injection hc with hc
  injection hc with _ hc
  exact hne hc.symm
set_option maxHeartbeats 4000000 in
theorem takenLaw (AP : Option Addr) (cP : Nat) (LL : List (List Int)) (f code : Int) (w : World) (hP : Kd.C (Kd.slice 5 (Kd.int .u8)) w AP LL.length LL) (hlP : LL.length ≤ 1048576) (hb : ∀ x ∈ LL, x.length ≤ 1048576) (hf1 : -9223372036854775808 ≤ f) (hf2 : f ≤ 9223372036854775807) :
    Calls Tryd.prog 5 #[.int .i64 f, .int .i64 code, .slice AP LL.length cP] w fun e w' => e = .returned (.bool true) ∧ Below w.heap.size w w' := by
  have HP := Aside0.mk hP
  have HL := Aside0.mk (And.intro hb (And.intro hf1 hf2))
  clear hP hb hf1 hf2
  go_enter Tryd.func5, Tryd.ntmps5
  go_wp2_with fail
  (with_reducible refine (awake w).mono ?_)
  rintro e w1 ⟨rfl, hB⟩
  have HB1 := Aside0.mk hB
  clear hB
  go_wp2_with fail
  (with_reducible refine (newSink f code w1).mono ?_)
  rintro e w2 ⟨g, bk, rfl, hS, hB⟩
  have HS2 := Aside0.mk hS
  have HB2 := Aside0.mk (HB1.out.trans (hB.mono HB1.out.size))
  have HZ2 := Aside0.mk hB.size
  clear hS hB
  go_wp2
  go_loopg [8, 9, 22] LL.length (fun k v8 v9 v22 wr => ∃ (i : Nat) (L : List Int) (vS : Value), v9 = .int .i64 (L.length : Int) ∧ v22 = .int .i64 (i : Int) ∧ i ≤ LL.length ∧ k = LL.length - i ∧ Snk wr w1.heap.size g bk vS L f code ∧ Kd.R (Kd.int .u8) 5 wr w1.heap.size (fun _ => True) v8 L ∧ (∀ b, v8.ownBlock = some b → vS.ownBlock = some b → False) ∧ L.length ≤ 1114112 ∧ (0 ≤ f → (L.length : Int) ≤ f) ∧ Below w.heap.size w wr ∧ w1.heap.size ≤ wr.heap.size)
  case atStart => exact ⟨0, [], .slice none 0 0, rfl, rfl, Nat.zero_le _, rfl, HS2.out, Kd.R_nil _ _ _ _ _, fun b hb => by simp [Value.ownBlock] at hb, Nat.zero_le _, fun h => h, HB2.out, HZ2.out⟩
  case round =>
  obtain ⟨i, L, vS, rfl, rfl, hi, rfl, hS, hR, hne, hLL, hLf, hB, hZ⟩ := hrel
  obtain ⟨A8, c8, rfl⟩ := Kd.R_slice hR
  have HS := Aside0.mk hS
  have HR := Aside0.mk hR
  have HN := Aside0.mk (And.intro hne (And.intro hLf (And.intro hB hZ)))
  clear hS hR hne hLf hB hZ
  by_cases hlt : i < LL.length
  case neg =>
    have hlt0 : decide ((i : Int) < (LL.length : Int)) = false := decide_eq_false (by omega)
    go_wp2_with fail
    (with_reducible refine (bytes_is _ _ _ _ _ _ _ wr HS.out (by omega)).mono ?_)
    rintro e w' ⟨v, rfl, hR, hB⟩
    obtain ⟨AB, cB, rfl⟩ := Kd.R_slice hR
    have HX := Aside0.mk (HN.out.2.2.1.trans (hB.mono HN.out.2.2.1.size))
    have SY := Aside0.mk (same_yes AB A8 cB c8 L w' (by omega) (Kd.R_reads' hR).2.2 (Kd.R_reads' hR).2.1 (Kd.R_reads' (Kd.R_below HR.out hB)).2.2 (Kd.R_reads' (Kd.R_below HR.out hB)).2.1)
    clear hR hB
    go_wp2_with fail
    (with_reducible refine SY.out.mono ?_)
    clear SY
    rintro e w5 ⟨rfl, m5, rfl⟩
    go_wp2_with fail
    go_ret
    exact ⟨rfl, pw_below_drewN HX.out m5⟩
  have hlt0 : decide ((i : Int) < (LL.length : Int)) = true := decide_eq_true (by omega)
  obtain ⟨ad, A', c', hA, hcell, hcx, hCx⟩ := at_row HP.out i hlt
  subst hA
  replace hcell := pw_cell_below HN.out.2.2.1 hcell
  have hP20 : LL[i].length ≤ 1048576 := HL.out.1 _ (List.getElem_mem hlt)
  obtain ⟨P, hPP⟩ : ∃ P, P = LL[i] := ⟨_, rfl⟩
  rw [← hPP] at hcell hcx hCx hP20
  clear hPP
  have HCx := Aside0.mk hCx
  clear hCx
  by_cases hbig : 65536 < L.length
  · have hb0 : decide ((L.length : Int) > 65536) = true := decide_eq_true (by omega)
    have hb1 : decide (65536 < L.length) = true := decide_eq_true (by omega)
    go_wp2_with fail
    go_ret
    exact ⟨rfl, HN.out.2.2.1⟩
  have hb0 : decide ((L.length : Int) > 65536) = false := decide_eq_false (by omega)
  have hb1 : decide (65536 < L.length) = false := decide_eq_false (by omega)
  have hNE := Aside0.mk (And.intro (own_not HR.out HS.out.blk (by decide)) (own_not HR.out HS.out.brk (by decide)))
  go_upto_region 12 with (first
    | (refine Kd.R_append_row (w0 := wr) (Value.int .u8) 0 w1.heap.size rfl (.tmp 29) (.tmp 30) 22 5 (.int .u8 0) 1 rfl Tryd.underlying22 inf5 rfl (by decide) (.slice A8 L.length c8) L P A' P.length c' (fun _ => True) rfl rfl (fun _ _ => trivial) HR.out (Kd.C_below HCx.out HN.out.2.2.1) (Below.refl _ _) HN.out.2.2.2 (by omega) ?_
       intro v1 w3 hR hb hg hat
       obtain ⟨A1, c1, rfl⟩ := Kd.R_slice hR
       have HR3 := Aside0.mk hR
       have HG3 := Aside0.mk hg
       have HA3 := Aside0.mk hat
       have HB3 := Aside0.mk hb
       clear hR hb hg hat))
  have HS3 := Aside0.mk (HS.out.keep (HG3.out.block g (blk_lt HS.out.blk) hNE.out.1) (HG3.out.block bk (blk_lt HS.out.brk) hNE.out.2) (fun b hb => HG3.out.block b (Kd.R_lt HS.out.data b hb) (fun e => HN.out.1 b e.symm hb)))
  have HN3 : Aside0 (∀ b, (Value.slice A1 (L ++ P).length c1).ownBlock = some b → vS.ownBlock = some b → False) := Aside0.mk (fun b h1 h2 => by
    rcases HA3.out with h | ⟨b', h, hle⟩
    · exact HN.out.1 b (h.symm.trans h1) h2
    · obtain rfl : b' = b := Option.some.inj (h.symm.trans h1)
      have := Kd.R_lt HS.out.data _ h2
      omega)
  have HW3 := Aside0.mk (HN.out.2.2.1.trans (HB3.out.mono HB1.out.size))
  have HZ3 := Aside0.mk (Nat.le_trans HN.out.2.2.2 HB3.out.size)
  clear HR hNE hcell
  have hcC := HCx.out
  have hce := empty_R .u8 5 w3 (base := w3.heap.size) (ok := fun _ => True) (Nat.le_refl _) trivial
  have HCE := Aside0.mk (And.intro hce (Kd.C_alloc (Kd.C_below hcC HW3.out) (.cells #[] 5)))
  clear hce hcC
  go_wp2_with (first
    | (refine Kd.R_append_row (w0 := w3.alloc (.cells #[] 5)) (Value.int .u8) 0 w3.heap.size rfl (.tmp 35) (.tmp 36) 22 5 (.int .u8 0) 1 rfl Tryd.underlying22 inf5 rfl (by decide) (.slice (some ⟨w3.heap.size, 0, none⟩) 0 0) [] P A' P.length c' (fun _ => True) rfl rfl (fun _ _ => trivial) HCE.out.1 HCE.out.2 (Below.refl _ _) (by simp) (by show (0 + P.length) * 1 ≤ _; omega) ?_
       intro v2 w4 hR hb hg hat
       rw [List.nil_append] at hR
       obtain ⟨A2, c2, rfl⟩ := Kd.R_slice hR
       have HR4 := Aside0.mk hR
       have HB4 := Aside0.mk ((below_alloc (Below.refl _ _) _ |>.trans (hb.mono (Nat.le_refl _))))
       clear hR hb hg hat))
  have HS4 := Aside0.mk (HS3.out.below HB4.out)
  have HU := Aside0.mk (putU w1.heap.size g bk vS L P f code A2 c2 w4 HS4.out (Kd.R_reads' HR4.out).2.2 (fun h0 => by
    obtain ⟨gb, cb, hA, hg1, hg2, -⟩ := Kd.R_form HR4.out h0
    obtain ⟨rfl, -, rfl⟩ := Value.slice.inj hA
    exact ⟨_, rfl⟩) (Kd.R_reads' HR4.out).2.1 (by omega) HL.out.2.2 HN.out.2.1 (by have := HZ3.out; have := HB4.out.size; omega))
  have HPC := Aside0.mk (And.intro (put_cases (n := P.length) (bk := bk) HN.out.2.1) (putK_le (n := P.length) HN.out.2.1))
  obtain ⟨k, hk⟩ : ∃ k, k = putK f L.length P.length := ⟨_, rfl⟩
  obtain ⟨ve, hve⟩ : ∃ ve, ve = putE f L.length P.length bk := ⟨_, rfl⟩
  rw [← hk, ← hve] at HU HPC
  clear hk hve
  (with_reducible refine HU.out.mono ?_)
  clear HU
  rintro e w5 ⟨vD', rfl, hS, hF, hO⟩
  have HS5 := Aside0.mk hS
  have HF5 := Aside0.mk hF
  have hR5 : Kd.R (Kd.int .u8) 5 w5 w1.heap.size (fun _ => True) (.slice A1 (L ++ P).length c1) (L ++ P) := R_own_keep (Kd.R_below HR3.out HB4.out) (fun b hb => HF5.out.block b (Nat.lt_of_lt_of_le (Kd.R_lt HR3.out b hb) HB4.out.size) (fun e => by
    rcases e with rfl | e
    · exact own_not HR3.out HS3.out.blk (by decide) hb.symm
    · exact HN3.out b hb e))
  have HR5 := Aside0.mk hR5
  have HN5 : Aside0 (∀ b, (Value.slice A1 (L ++ P).length c1).ownBlock = some b → vD'.ownBlock = some b → False) := Aside0.mk (fun b h1 h2 => by
    rcases hO with h | ⟨b', h, hle⟩
    · exact HN3.out b h1 (h.symm.trans h2)
    · obtain rfl : b' = b := Option.some.inj (h.symm.trans h2)
      have := Kd.R_lt HR3.out _ h1
      have := HB4.out.size
      omega)
  have HZ5 := Aside0.mk (Nat.le_trans HZ3.out (Nat.le_trans HB4.out.size HF5.out.size))
  have HW5 := Aside0.mk ((HW3.out.trans (HB4.out.mono HW3.out.size)).trans (HF5.out.below (B := w.heap.size) (by have := HW3.out.size; have := HB4.out.size; omega) (fun j hj => by
    have hz := HB1.out.size
    rcases hj with rfl | hj
    · have := HS4.out.g1; omega
    · have := own_base (Kd.own_of_R HS4.out.data) j hj; omega)))
  clear hS hF hO hR5 HS3 HS4 HR4 HB4 HCE HR3 HN3 HA3 HB3 HG3
  have hkP : k ≤ P.length := HPC.out.2.1
  have hsum : IntKind.i64.wrap ((L.length : Int) + (k : Int)) = (L.length : Int) + (k : Int) := by rw [IntKind.wrap_i64]; omega
  have hlapp : (L ++ P).length = L.length + P.length := List.length_append
  rcases HPC.out.1 with ⟨e1, e2⟩ | ⟨e1, e2, e3, e4⟩
  · have HE := Aside0.mk (show 0 ≤ f → (L.length : Int) + (k : Int) ≤ f from fun h => by have := HPC.out.2.2 h; omega)
    subst e2
    obtain rfl : k = P.length := e1
    clear hlapp
    go_upto_region 15 with fail
    go_cut [63] (fun v63 wx => v63 = .bool false ∧ w5 = wx)
    case first =>
      by_cases hf : 0 ≤ f
      · have hf0 : decide (0 ≤ f) = true := decide_eq_true hf
        have hx := HE.out hf
        have hg0 : decide ((L.length : Int) + (P.length : Int) > f) = false := decide_eq_false (by omega)
        by_cases hp : 0 < P.length
        · have hp0 : decide (0 < P.length) = true := decide_eq_true hp
          have hp1 : decide ((P.length : Int) > 0) = true := decide_eq_true (by omega)
          go_wp2
          go_meet
          exact ⟨rfl, rfl⟩
        · have hp0 : decide (0 < P.length) = false := decide_eq_false hp
          have hp1 : decide ((P.length : Int) > 0) = false := decide_eq_false (by omega)
          go_wp2
          go_meet
          exact ⟨rfl, rfl⟩
      · have hf0 : decide (0 ≤ f) = false := decide_eq_false hf
        go_wp2
        go_meet
        exact ⟨rfl, rfl⟩
    case rest =>
    obtain ⟨rfl, rfl⟩ := hcut
    go_wp2
    go_roundg (LL.length - (i + 1))
    case measure => omega
    case rel => exact ⟨i + 1, L ++ P, vD', by rw [List.length_append, Int.natCast_add], rfl, by omega, rfl, by have := HS5.out; rw [List.take_length] at this; exact this, by have := HR5.out; rw [List.length_append] at this; exact this, fun b h1 h2 => HN5.out b (by cases A1 <;> simpa [Value.ownBlock] using h1) h2, by rw [List.length_append]; omega, fun h => by have := HE.out h; rw [List.length_append]; omega, HW5.out, HZ5.out⟩
  · obtain ⟨q, rfl⟩ : ∃ q : Nat, f = (q : Int) := ⟨f.toNat, by omega⟩
    have hq : q = L.length + k := by omega
    have hsum2 : IntKind.i64.wrap ((L.length : Int) + (k : Int)) = (q : Int) := by rw [hsum]; omega
    subst e4
    have x1 : ((k : Int) == (P.length : Int)) = false := beq_eq_false_iff_ne.2 (by omega)
    have x2 : (k == P.length) = false := beq_eq_false_iff_ne.2 (by omega)
    have x3 : decide ((k : Int) > (P.length : Int)) = false := decide_eq_false (by omega)
    have x4 : decide (P.length < k) = false := decide_eq_false (by omega)
    have x5 : decide ((k : Int) < 0) = false := decide_eq_false (by omega)
    have hqc : q ≤ c1 := by have := (Kd.R_reads' HR5.out).2.1; omega
    have hqi : (q : Int) ≤ (c1 : Int) := by omega
    have hqi0 : (0 : Int) ≤ (q : Int) := by omega
    have HQ := Aside0.mk hq
    clear hsum hlapp e1 e3 hq
    go_wp2_with fail
    (with_reducible refine (sfail_is _ _ _ _ _ _ _ w5 HS5.out (by omega)).mono ?_)
    rintro e w' ⟨rfl, rfl⟩
    go_wp2_with fail
    (with_reducible refine (own_same _ _).mono ?_)
    rintro e w' ⟨rfl, rfl⟩
    go_wp2_with fail
    have hlen : (L ++ P.take k).length = q := by rw [List.length_append, List.length_take, HQ.out]; omega
    have htk : (L ++ P).take q = L ++ P.take k := by rw [HQ.out, List.take_append, List.take_of_length_le (by omega), Nat.add_sub_cancel_left]
    have hR6 := Kd.R_take (m := q) HR5.out (by rw [List.length_append]; have := HQ.out; omega)
    rw [htk] at hR6
    go_roundg (LL.length - (i + 1))
    case measure => omega
    case rel => exact ⟨i + 1, L ++ P.take k, vD', by rw [hlen], rfl, by omega, rfl, HS5.out, hR6, fun b h1 h2 => HN5.out b (by cases A1 <;> simpa [Value.ownBlock] using h1) h2, by rw [hlen]; have := HQ.out; omega, fun h => by rw [hlen]; exact Int.le_refl _, HW5.out, HZ5.out⟩
end Go.Proofs.YtdgfbamhnmnliaaDoor.A
