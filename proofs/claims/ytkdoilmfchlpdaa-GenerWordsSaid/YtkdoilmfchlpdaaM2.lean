import Derived.Test.YtkdoilmfchlpdaaM1
namespace Go.Proofs.Ytkdoilmfchlpdaa.R
open Go.RowKit Go.Deep Go.Proofs.YtkdoilmfchlpdaaW.PrintWords Go.Proofs.YtkdoilmfchlpdaaW.PrintLast Go.Proofs.YtkdoilmfchlpdaaW.PrintMore Go.Proofs.Ytkdoilmfchlpdaa.A
set_option linter.unusedVariables false
set_option linter.unusedSimpArgs false
theorem info3' : (Try.prog.info? 3).map (fun i => (i.zero, i.size, i.bytes)) = some (some (.int .i64 0), 1, 8) := by kernel_rfl
/-- What reduce keeps: the matrix, the tables, the pivots' list, what was there before. -/
structure RI (w wr : World) (base g m c gt : Nat) (b : Nat → Nat) (A : Nat → Nat → G8) (pv : Value) (ps : List Nat) : Prop where
  grid : Grid wr 22 5 base g m c b A
  tab : IsS125 w wr gt
  own : wr.ownsRow w.heap.size 3 1 pv ps.length (ps.map fun (p : Nat) => Value.int .i64 (p : Int))
  below : Below base w wr
namespace RI
variable {w wr : World} {base g m c gt : Nat} {b : Nat → Nat} {A : Nat → Nat → G8} {pv : Value} {ps : List Nat}
theorem drawn {wr' : World} (h : RI w wr base g m c gt b A pv ps) (hd : Drawn0 wr wr') : RI w wr' base g m c gt b A pv ps := by
  obtain ⟨k, rfl⟩ := hd.out
  exact ⟨h.grid.drawn hd, h.tab.drewN k, own_move h.own (fun _ _ => rfl), pw_below_drewN h.below k⟩
theorem drew (h : RI w wr base g m c gt b A pv ps) : RI w wr.drew base g m c gt b A pv ps := ⟨h.grid.drew, h.tab.drew, h.own.drew, h.below.drew⟩
theorem congr {B : Nat → Nat → G8} (h : RI w wr base g m c gt b A pv ps) (e : ∀ i j, i < m → j < c → A i j = B i j) : RI w wr base g m c gt b B pv ps := ⟨h.grid.congr e, h.tab, h.own, h.below⟩
theorem put (h : RI w wr base g m c gt b A pv ps) {i j : Nat} (hi : i < m) (v : G8) : RI w (wr.setCell ⟨b i, j, none⟩ (.int .u8 (v.1 : Nat))) base g m c gt b (fun a d => if a = i ∧ d = j then v else A a d) pv ps := by
  obtain ⟨cs, hb, _, _⟩ := h.grid.row i hi
  exact ⟨h.grid.put hi v, h.tab.far (h.tab.ne_blk hb (by decide)) _, own_setCell h.own (own_ne h.own hb (by decide)) _, h.below.setCell (h.grid.geb i hi) _⟩
theorem swap (h : RI w wr base g m c gt b A pv ps) {i j : Nat} (hi : i < m) (hj : j < m) :
    RI w ((wr.setCell ⟨g, i, none⟩ (.slice (some ⟨b j, 0, none⟩) c c)).setCell ⟨g, j, none⟩ (.slice (some ⟨b i, 0, none⟩) c c)) base g m c gt (fun a => if a = i then b j else if a = j then b i else b a) (LA.sw A i j) pv ps := by
  obtain ⟨cs, hb, _, _⟩ := h.grid.hd
  have hb' := (h.grid.hd.set i (.slice (some ⟨b j, 0, none⟩) c c))
  obtain ⟨cs', hb', _, _⟩ := hb'
  have t1 := h.tab.far (p := ⟨g, i, none⟩) (h.tab.ne_blk hb (by decide)) (.slice (some ⟨b j, 0, none⟩) c c)
  have o1 := own_setCell (p := ⟨g, i, none⟩) h.own (own_ne h.own hb (by decide)) (.slice (some ⟨b j, 0, none⟩) c c)
  exact ⟨h.grid.swap hi hj, t1.far (t1.ne_blk hb' (by decide)) _, own_setCell o1 (own_ne o1 hb' (by decide)) _, (h.below.setCell h.grid.ge _).setCell h.grid.ge _⟩
theorem append (h : RI w wr base g m c gt b A pv ps) (hb : base ≤ w.heap.size) {o : Obj} {v' : Value} {w1 : World} {k : Nat}
    (hown : w1.ownsRow w.heap.size 3 1 v' (ps.length + 1) ((ps.map fun (p : Nat) => Value.int .i64 (p : Int)) ++ [.int .i64 (k : Int)])) (hg : (wr.alloc o).grownBy w1 pv.ownBlock) :
    RI w w1 base g m c gt b A v' (ps ++ [k]) := by
  have h1 := h.grid.alloc o
  have o1 := h.own.alloc o
  have ht := h.tab.alloc o
  refine ⟨h1.grown hg ?_ ?_, ht.grown hg ?_, by simpa using hown, ?_⟩
  · obtain ⟨cs, hb, _, _⟩ := h1.hd
    exact own_ne o1 hb (by decide)
  · intro i hi
    obtain ⟨cs, hb, _, _⟩ := h1.row i hi
    exact own_ne o1 hb (by decide)
  · obtain ⟨cs, hb, _⟩ := ht
    exact own_ne o1 hb (by decide)
  · have hs : base ≤ wr.heap.size := Nat.le_trans hb h.below.size
    refine (h.below.alloc hs o).grown hg (by simp; omega) (fun k hk => ?_)
    exact Nat.le_trans hb (own_base o1 k hk)
end RI
/-- What reduce answers and leaves. -/
def RPost (base g m c n : Nat) (A : Nat → Nat → G8) (w : World) (e : Ending) (w' : World) : Prop :=
  ∃ (pv : Value) (b : Nat → Nat), e = .returned (.tuple #[pv, .int .u8 ((LA.gj m A n).2.2.1 : Nat)]) ∧ Grid w' 22 5 base g m c b (LA.gj m A n).1 ∧
    w'.ownsRow w.heap.size 3 1 pv (LA.gj m A n).2.1.length ((LA.gj m A n).2.1.map fun (p : Nat) => Value.int .i64 (p : Int)) ∧ Below base w w'
set_option maxHeartbeats 8000000 in
set_option maxRecDepth 100000 in
theorem reduce_grid (m c n g : Nat) (hm0 : 1 ≤ m) (hm : m ≤ 1024) (hc : c ≤ 1024) (hn : n ≤ c) (base : Nat) (b : Nat → Nat) (A : Nat → Nat → G8) (w : World) (hbase : base ≤ w.heap.size) (hG : Grid w 22 5 base g m c b A) :
    Calls Try.prog 87 #[.slice (some ⟨g, 0, none⟩) m m, .int .i64 (n : Int)] w fun e w' => RPost base g m c n A w e w' := by
  have HG := Aside0.mk hG
  clear hG
  obtain ⟨i3, hi3, hz3, hs3, hb3⟩ := info_parts info3'
  go_enter Try.func87, Try.ntmps87
  go_wp2
  go_step3
  go_wp2_with (first | (go_at_call 64; refine (gf8_New.calls w _ (Below.refl _ _) rfl).mono ?_; rintro e w1 ⟨gt, rfl, hI, hb, -⟩))
  go_step3
  go_wp2
  have H0 := Aside0.mk (show RI w w1 base g m c gt b (LA.gj m A 0).1 (.slice none 0 0) (LA.gj m A 0).2.1 from ⟨(HG.out.below hb).congr (fun _ _ _ _ => rfl), hI, own_nil _ _ _ _, hb.mono hbase⟩)
  clear hI hb HG
  go_loopg [7, 8, 9, 22] n (fun kq v7 v8 v9 v22 wr => ∃ k b' pv, kq = n - k ∧ k ≤ n ∧ pv = v7 ∧ v22 = .int .i64 (k : Int) ∧ v9 = .int .i64 ((LA.gj m A k).2.1.length : Nat) ∧ v8 = .int .u8 ((LA.gj m A k).2.2.1 : Nat) ∧ RI w wr base g m c gt b' (LA.gj m A k).1 pv (LA.gj m A k).2.1)
  case atStart => exact ⟨0, b, _, rfl, Nat.zero_le _, rfl, rfl, rfl, rfl, H0.out⟩
  case round =>
    obtain ⟨k, b', pv, rfl, hk, rfl, rfl, hv9, hv8, hR⟩ := hrel
    clear H0
    have hsucc : LA.gj m A (k + 1) = LA.turn m (LA.gj m A k) k := rfl
    have hle := (LA.gj_red m c A k).le
    obtain ⟨S, ps, d, hs⟩ : ∃ S ps d, LA.gj m A k = (S, ps, d) := ⟨_, _, _, rfl⟩
    rw [hs] at hsucc hle hv9 hv8 hR
    simp only at hle hv9 hv8 hR
    subst hv9
    subst hv8
    have HR := Aside0.mk hR
    have HS := Aside0.mk hsucc
    have HSS := Aside0.mk hs
    clear hR hs hsucc
    obtain ⟨T, hT⟩ : ∃ T, T = ps.length := ⟨_, rfl⟩
    rw [← hT] at hle ⊢
    have HT := Aside0.mk hT
    clear hT
    by_cases hlt : k < n
    · go_wp2
      go_step3
      go_wp2
      go_step3
      go_wp2
      go_loopg [8, 11] (m + 1 - T) (fun kr v8 v11 wr => ∃ q, kr = m + 1 - q ∧ v8 = .int .u8 (d.1 : Nat) ∧ T ≤ q ∧ q ≤ m ∧ v11 = .int .i64 (q : Int) ∧ Aside0 (∀ i, T ≤ i → i < q → S i k = 0) ∧ RI w wr base g m c gt b' S pv ps)
      case atStart => exact ⟨T, rfl, rfl, Nat.le_refl _, hle, rfl, ⟨fun i h1 h2 => by omega⟩, HR.out⟩
      case round =>
        obtain ⟨q, rfl, rfl, hTq, hqm, rfl, hz, hR⟩ := hrel
        clear HR
        have HR := Aside0.mk hR
        clear hR
        by_cases hqlt : q < m
        · have hc1 := HR.out.grid.hd.cell hqlt
          have hc2 := (HR.out.grid.row q hqlt).cell (show k < c by omega)
          have hqm' : ((q : Int) == (m : Int)) = false := beq_eq_false_iff_ne.2 (by omega)
          by_cases h0 : S q k = 0
          · have h0' : (((S q k).v : Int) != 0) = false := by rw [h0]; rfl
            have H00 := Aside0.mk h0
            clear h0
            go_wp2
            go_roundg (m + 1 - (q + 1))
            case measure => omega
            case rel =>
              exact ⟨q + 1, rfl, rfl, by omega, by omega, by go_num, ⟨fun i h1 h2 => by
                by_cases e : i = q
                · rw [e]; exact H00.out
                · exact hz.out i h1 (by omega)⟩, HR.out⟩
          · have h0' : (((S q k).v : Int) != 0) = true := by simpa using (fun e => h0 (G8.ext e) : ¬ (S q k).v = 0)
            have H00 := Aside0.mk h0
            clear h0
            have hTm : T < m := by omega
            have hc3 := HR.out.grid.hd.cell hTm
            have hf1 := HR.out.grid.hd.frozen T
            have hf2 := HR.out.grid.hd.frozen q
            obtain ⟨u4, hc4⟩ : ∃ u, (wr.setCell ⟨g, T, none⟩ (.slice (some ⟨b' q, 0, none⟩) c c)).cell? ⟨g, q, none⟩ = some u := ⟨_, (HR.out.grid.hd.set T (.slice (some ⟨b' q, 0, none⟩) c c)).cell hqlt⟩
            go_wp2
            go_region
            have hswT : LA.sw S T q T = S q := by unfold LA.sw; rw [if_pos rfl]
            obtain ⟨S1, hS1⟩ : ∃ S1, S1 = LA.sw S T q := ⟨_, rfl⟩
            rw [← hS1] at hswT
            have hpc : S1 T k = S q k := by rw [hswT]
            have R1 := Aside0.mk (HR.out.swap hTm hqlt).drew
            rw [← hS1] at R1
            generalize (fun a => if a = T then b' q else if a = q then b' T else b' a) = b1 at R1
            have HS1 := Aside0.mk (And.intro hS1 hpc)
            clear hS1 hswT hpc
            generalize ((wr.setCell ⟨g, T, none⟩ (.slice (some ⟨b' q, 0, none⟩) c c)).setCell ⟨g, q, none⟩ (.slice (some ⟨b' T, 0, none⟩) c c)).drew = wr2 at R1 ⊢
            clear HR hc1 hc2 hc3 hc4 hf1 hf2 h0' hqm'
            have hd1 := R1.out.grid.hd.cell hTm
            have hd2 := (R1.out.grid.row T hTm).cell (show k < c by omega)
            have hne : S1 T k ≠ 0 := by rw [HS1.out.2]; exact H00.out
            have HNE := Aside0.mk hne
            clear hne
            go_wp2_with fail
            refine (tmul gt d (S1 T k) w _ R1.out.tab).mono ?_
            rintro e wr3 ⟨rfl, hD⟩
            have R2 := Aside0.mk (R1.out.drawn hD)
            clear hD R1 hd1 hd2
            have hd1 := R2.out.grid.hd.cell hTm
            have hd2 := (R2.out.grid.row T hTm).cell (show k < c by omega)
            go_wp2_with fail
            refine (tinv gt (S1 T k) HNE.out w _ R2.out.tab).mono ?_
            rintro e wr4 ⟨rfl, hD⟩
            have R3 := Aside0.mk (R2.out.drawn hD)
            clear hD R2 hd1 hd2
            have hd1 := R3.out.grid.hd.cell hTm
            go_wp2_with fail
            clear hd1
            go_loopg [83] c (fun kq v83 wr => ∃ j, kq = c - j ∧ j ≤ c ∧ v83 = .int .i64 (j : Int) ∧ RI w wr base g m c gt b1 (fun a l => if a = T ∧ l < j then LA.Fld.iv (S1 T k) * S1 T l else S1 a l) pv ps)
            case atStart => exact ⟨0, rfl, Nat.zero_le _, rfl, R3.out.congr (fun i j _ _ => by simp)⟩
            case round =>
              obtain ⟨j, rfl, hjc, rfl, hR⟩ := hrel
              have R4 := Aside0.mk hR
              clear hR R3
              by_cases hj : j < c
              · have hd1 := R4.out.grid.hd.cell hTm
                have hd2 := (R4.out.grid.row T hTm).cell hj
                have hf2 := (R4.out.grid.row T hTm).frozen j
                simp only [Nat.lt_irrefl, and_false, if_false] at hd2
                go_wp2
                refine wp_region_quiet_tail 10 (by kernel_rfl) (by kernel_rfl) ?_
                simp only [List.take_succ_cons, List.take_zero, List.drop_succ_cons, List.drop_zero]
                repeat (quiet_step ((go_at_call 69; exact quiet_drawn (tmul gt (S1 T j) (LA.Fld.iv (S1 T k)) w _ (R4.out.tab.drewN _)))))
                refine wpQuiet_nil ?_
                intro wq hq
                obtain ⟨nq, rfl⟩ := hq
                go_wp2
                have R5 := (R4.out.drawn ⟨⟨nq, rfl⟩⟩).put (j := j) hTm (S1 T j * LA.Fld.iv (S1 T k))
                clear R4 hd1 hd2 hf2
                go_roundg (c - (j + 1))
                case measure => omega
                case rel =>
                  refine ⟨j + 1, rfl, by omega, by go_num, R5.congr (fun a l ha hl => ?_)⟩
                  by_cases e1 : a = T
                  · by_cases e2 : l = j
                    · rw [if_pos ⟨e1, e2⟩, if_pos ⟨e1, by omega⟩, e2, LA.Fld.mul_comm]
                    · rw [if_neg (fun h => e2 h.2)]
                      by_cases e3 : l < j
                      · rw [if_pos ⟨e1, e3⟩, if_pos ⟨e1, by omega⟩]
                      · rw [if_neg (fun h => e3 h.2), if_neg (fun h => e3 (by omega))]
                  · rw [if_neg (fun h => e1 h.1), if_neg (fun h => e1 h.1), if_neg (fun h => e1 h.1)]
              · have hjc' : j = c := by omega
                have R5 := Aside0.mk (R4.out.congr (B := LA.scl S1 T k) (fun a l ha hl => by
                  unfold LA.scl
                  by_cases e1 : a = T
                  · rw [if_pos ⟨e1, by omega⟩, if_pos e1]
                  · rw [if_neg (fun h => e1 h.1), if_neg e1]))
                clear R4 hjc' 
                obtain ⟨S2, hS2⟩ : ∃ S2, S2 = LA.scl S1 T k := ⟨_, rfl⟩
                rw [← hS2] at R5
                have HS2 := Aside0.mk hS2
                clear hS2
                go_wp2
                go_loopg [101] m (fun kq v101 wr => ∃ i, kq = m - i ∧ i ≤ m ∧ v101 = .int .i64 (i : Int) ∧ RI w wr base g m c gt b1 (fun a l => if a < i then LA.clr S2 T k a l else S2 a l) pv ps)
                case atStart => exact ⟨0, rfl, Nat.zero_le _, rfl, R5.out.congr (fun i j _ _ => by simp)⟩
                case round =>
                  obtain ⟨i, rfl, him, rfl, hR⟩ := hrel
                  have R6 := Aside0.mk hR
                  clear hR R5
                  by_cases hi : i < m
                  · have hd1 := R6.out.grid.hd.cell hi
                    have hd2 := (R6.out.grid.row i hi).cell (show k < c by omega)
                    simp only [Nat.lt_irrefl, if_false] at hd2
                    have hd3 := R6.out.grid.hd.cell hTm
                    by_cases hiT : i = T
                    · have hiT' : ((i : Int) == (T : Int)) = true := beq_iff_eq.2 (by omega)
                      have HIT := Aside0.mk hiT
                      clear hiT
                      go_wp2
                      have hiT := HIT.out
                      have R7 := R6.out
                      clear R6 hd1 hd2 hd3
                      go_roundg (m - (i + 1))
                      case measure => omega
                      case rel =>
                        refine ⟨i + 1, rfl, by omega, by go_num, R7.congr (fun a l ha hl => ?_)⟩
                        by_cases e1 : a < i
                        · rw [if_pos e1, if_pos (by omega)]
                        · rw [if_neg e1]
                          by_cases e2 : a = i
                          · subst e2; rw [if_pos (by omega)]; unfold LA.clr; rw [if_pos hiT, hiT]
                          · rw [if_neg (by omega)]
                    · have hiT' : ((i : Int) == (T : Int)) = false := beq_eq_false_iff_ne.2 (by omega)
                      by_cases hx : S2 i k = 0
                      · have hx' : (((S2 i k).v : Int) == 0) = true := by rw [hx]; rfl
                        have HX := Aside0.mk hx
                        clear hx
                        go_wp2
                        have R7 := R6.out
                        clear R6 hd1 hd2 hd3
                        go_roundg (m - (i + 1))
                        case measure => omega
                        case rel =>
                          refine ⟨i + 1, rfl, by omega, by go_num, R7.congr (fun a l ha hl => ?_)⟩
                          by_cases e1 : a < i
                          · rw [if_pos e1, if_pos (by omega)]
                          · rw [if_neg e1]
                            by_cases e2 : a = i
                            · subst e2; rw [if_pos (by omega)]; unfold LA.clr; rw [if_neg hiT, HX.out, LA.zero_mul, LA.Fld.add_zero]
                            · rw [if_neg (by omega)]
                      · have hx0 : (S2 i k).v ≠ 0 := fun e => hx (G8.ext e)
                        have hx' : (((S2 i k).v : Int) == 0) = false := beq_eq_false_iff_ne.2 (by omega)
                        clear hx0
                        have HX := Aside0.mk hx
                        clear hx
                        go_wp2
                        have R7 := Aside0.mk (R6.out.congr (B := fun a l => if a < i then LA.clr S2 T k a l else if a = i ∧ l < 0 then LA.clr S2 T k i l else S2 a l) (fun a l _ _ => by simp))
                        clear R6 hd1 hd2 hd3
                        go_loopg [123] c (fun kq v123 wr => ∃ j, kq = c - j ∧ j ≤ c ∧ v123 = .int .i64 (j : Int) ∧ RI w wr base g m c gt b1 (fun a l => if a < i then LA.clr S2 T k a l else if a = i ∧ l < j then LA.clr S2 T k i l else S2 a l) pv ps)
                        case atStart => exact ⟨0, rfl, Nat.zero_le _, rfl, R7.out⟩
                        case round =>
                          obtain ⟨j, rfl, hjc, rfl, hR⟩ := hrel
                          have R8 := Aside0.mk hR
                          clear hR R7
                          by_cases hj : j < c
                          · have hTrow : (if T < i then LA.clr S2 T k T j else if T = i ∧ j < j then LA.clr S2 T k i j else S2 T j) = S2 T j := by
                              by_cases e : T < i
                              · rw [if_pos e]; unfold LA.clr; rw [if_pos rfl]
                              · rw [if_neg e, if_neg (by omega)]
                            have hIrow : (if i < i then LA.clr S2 T k i j else if i = i ∧ j < j then LA.clr S2 T k i j else S2 i j) = S2 i j := by
                              rw [if_neg (by omega), if_neg (by omega)]
                            have hd1 := R8.out.grid.hd.cell hTm
                            have hd2 := (R8.out.grid.row T hTm).cell hj
                            simp only [hTrow] at hd2
                            have hd3 := R8.out.grid.hd.cell hi
                            have hd4 := (R8.out.grid.row i hi).cell hj
                            simp only [hIrow] at hd4
                            have hf4 := (R8.out.grid.row i hi).frozen j
                            clear hTrow hIrow
                            have hbx : Go.bits .xor .u8 ((S2 i j).v : Int) ((S2 i k * S2 T j).v : Int) = (((S2 i j + S2 i k * S2 T j).v : Nat) : Int) := bits_xor8 (S2 i j).lt (S2 i k * S2 T j).lt
                            go_wp2
                            refine wp_region_quiet_tail 13 (by kernel_rfl) (by kernel_rfl) ?_
                            simp only [List.take_succ_cons, List.take_zero, List.drop_succ_cons, List.drop_zero]
                            repeat (quiet_step ((go_at_call 69; exact quiet_drawn (tmul gt (S2 i k) (S2 T j) w _ (R8.out.tab.drewN _)))))
                            refine wpQuiet_nil ?_
                            intro wq hq
                            obtain ⟨nq, rfl⟩ := hq
                            go_wp2
                            have R9 := (R8.out.drawn ⟨⟨nq, rfl⟩⟩).put (j := j) hi (S2 i j + S2 i k * S2 T j)
                            clear R8 hd1 hd2 hd3 hd4 hf4 hbx
                            go_roundg (c - (j + 1))
                            case measure => omega
                            case rel =>
                              refine ⟨j + 1, rfl, by omega, by go_num, R9.congr (fun a l ha hl => ?_)⟩
                              by_cases e0 : a < i
                              · rw [if_neg (by omega), if_pos e0, if_pos e0]
                              · by_cases e1 : a = i
                                · by_cases e2 : l = j
                                  · rw [if_pos ⟨e1, e2⟩, if_neg e0, if_pos ⟨e1, by omega⟩, e2]
                                    unfold LA.clr
                                    rw [if_neg hiT]
                                  · rw [if_neg (fun h => e2 h.2), if_neg e0, if_neg e0]
                                    by_cases e3 : l < j
                                    · rw [if_pos ⟨e1, e3⟩, if_pos ⟨e1, by omega⟩]
                                    · rw [if_neg (fun h => e3 h.2), if_neg (fun h => e3 (by omega))]
                                · rw [if_neg (fun h => e1 h.1), if_neg e0, if_neg e0, if_neg (fun h => e1 h.1), if_neg (fun h => e1 h.1)]
                          · have R9 := R8.out
                            clear R8
                            go_wp2
                            go_roundg (m - (i + 1))
                            case measure => omega
                            case rel =>
                              refine ⟨i + 1, rfl, by omega, by go_num, R9.congr (fun a l ha hl => ?_)⟩
                              by_cases e0 : a < i
                              · rw [if_pos e0, if_pos (by omega)]
                              · rw [if_neg e0]
                                by_cases e1 : a = i
                                · rw [if_pos ⟨e1, by omega⟩, if_pos (by omega), e1]
                                · rw [if_neg (fun h => e1 h.1), if_neg (by omega)]
                  · have R7 := Aside0.mk (R6.out.congr (B := LA.clr S2 T k) (fun a l ha hl => by rw [if_pos (by omega)]))
                    clear R6
                    go_wp2_with (at_builtin; refine wpList_append_own _ rfl _ _ 34 rfl w.heap.size 3 i3 (.int .i64 0) 1 8 Try.underlying34 hi3 hz3 hs3 hb3 rfl (by decide) _ _ _ rfl (R7.out.own.alloc _) ⟨wr.heap.size, 0, none⟩ 1 1 [.int .i64 (k : Int)] rfl rfl ?c1 ?c2 ?c3 ?c4 ?c5 ?_)
                    case c1 =>
                      intro j u hj
                      match j, hj with
                      | 0, hj => simp at hj; subst hj; simp [Addr.add]
                    case c2 => intro u hu; simp at hu; subst hu; rfl
                    case c3 => have := HT.out; unfold maxLen; omega
                    case c4 => have := HT.out; omega
                    case c5 => have := R7.out.below.size; simp; omega
                    intro v' w5 hown hgrow _
                    have R8 := Aside0.mk (R7.out.append hbase hown hgrow)
                    clear hown hgrow R7
                    go_wp2
                    simp only [Exit.noGoto_normal]
                    go_wp2
                    have hnext := HS.out.trans (LA.turn_some (q := q) (by rw [← HT.out]; exact hTq) hqlt H00.out (by rw [← HT.out]; exact hz.out))
                    rw [← HT.out, ← HS1.out.1, ← HS2.out, ← HS1.out.2] at hnext
                    go_roundg (n - (k + 1))
                    case measure => omega
                    case rel => exact ⟨k + 1, b1, v', rfl, by omega, rfl, by go_num, by rw [hnext]; simp only [List.length_append, List.length_cons, List.length_nil, ← HT.out]; go_num, by rw [hnext], by rw [hnext]; exact R8.out⟩
        · have hqm' : ((q : Int) == (m : Int)) = true := beq_iff_eq.2 (by omega)
          go_wp2
          simp only [Exit.noGoto_exit]
          go_wp2
          have hnext := (HS.out.trans (LA.turn_none (fun i h1 h2 => hz.out i (by rw [HT.out]; exact h1) (by omega))))
          go_roundg (n - (k + 1))
          case measure => omega
          case rel => exact ⟨k + 1, b', pv, rfl, by omega, rfl, by go_num, by rw [hnext, HT.out], by rw [hnext]; rfl, by rw [hnext]; exact HR.out⟩
    · go_wp2
      rw [Exit.noGoto_ret]
      have hkn : k = n := by omega
      subst hkn
      go_ret2
      unfold RPost
      rw [HSS.out]
      exact ⟨pv, b', rfl, HR.out.grid, HR.out.own, HR.out.below⟩
end Go.Proofs.Ytkdoilmfchlpdaa.R
