/- The first reads and writes of every law; nil sources. -/
import Derived.Test.YtdgfbamhnmnliaaDoorPD
import Derived.Test.YtdgfbamhnmnliaaDoorAx1
import Derived.Test.YtdgfbamhnmnliaaDoorQuietC
namespace Go.Proofs.YtdgfbamhnmnliaaDoor.A
open Go.RowKit Go.Deep Go.Proofs.YtdgfbamhnmnliaaDoor.R Go.Proofs.YtdgfbamhnmnliaaDoorW.PrintWords Go.Proofs.YtdgfbamhnmnliaaDoorW.PrintLast Go.Proofs.YtdgfbamhnmnliaaDoorW.PrintMore
set_option linter.unusedVariables false
set_option linter.unusedSimpArgs false
set_option maxRecDepth 100000
theorem same_l0 (l : List Int) (hl : l.length < 2 ^ 62) : ∀ m j : Nat, l.length - j = m → j ≤ l.length → Ev (fun k => culletlaw22_same.l0 k l l j) true := by
  intro m
  induction m with
  | zero =>
    intro j hm hj
    refine Ev.step (fun k => culletlaw22_same.l0.eq_2 _ _ _ k) ?_
    simp only [if_neg (show ¬ ((j : Nat) : Int) < (l.length : Nat) by omega)]
    exact Ev.now _
  | succ m ih =>
    intro j hm hj
    refine Ev.step (fun k => culletlaw22_same.l0.eq_2 _ _ _ k) ?_
    simp only [if_pos (show ((j : Nat) : Int) < (l.length : Nat) by omega), if_pos (show (0 : Int) ≤ ((j : Nat) : Int) by omega), if_true]
    have := ih (j + 1) (by omega) (by omega)
    rw [show wrap64 ((j : Int) + 1) = ((j + 1 : Nat) : Int) by unfold wrap64; omega]
    exact this
theorem same_yes (A B : Option Addr) (c d : Nat) (l : List Int) (w : World) (hl : l.length < 2 ^ 62) (h0 : Kd.C (Kd.int .u8) w A l.length l) (hc : l.length ≤ c) (h1 : Kd.C (Kd.int .u8) w B l.length l) (hd : l.length ≤ d) :
    Calls Tryd.prog 16 #[.slice A l.length c, .slice B l.length d] w fun e w' => e = .returned (.bool true) ∧ Drawn0 w w' := by
  have hE : Ev (fun k => culletlaw22_same.f k l l) true := by
    unfold culletlaw22_same.f
    simp only [if_true]
    exact same_l0 l hl _ 0 rfl (Nat.zero_le _)
  obtain ⟨k, hk⟩ := hE.rounds
  exact culletlaw22_same.calls k A c l B d l true w h0 hc h1 hd hk
theorem methR (v : Value) (w : World) : (Go.method 244 27 v "Read").run Tryd.prog w = .ok (12, v) w := by kernel_rfl
theorem methW (v : Value) (w : World) : (Go.method 244 48 v "Write").run Tryd.prog w = .ok (27, v) w := by kernel_rfl
set_option maxHeartbeats 4000000 in
theorem through_nil (A : Option Addr) (n cap : Nat) (w : World) (hn2 : n ≤ 140737488355328) (hn : 0 < n) : Calls Tryd.prog 30 #[.slice A n cap, .func (.method "Read") #[.iface 27 (.pointer none)] #[]] w fun e w' => e = .returned (.tuple #[.int .i64 0, .iface 45 (.int .i64 1)]) ∧ w = w' := by
  have mR := methR
  go_enter Tryd.func30, Tryd.ntmps30
  go_wp2
  refine wp_loop_rounds 1 ?_
  rw [rounds_succ]
  go_wp2_with (first | (go_at_call 12; refine (read_nil _ _ _ _).mono ?_; rintro e w' ⟨rfl, rfl⟩))
  go_ret2
  exact ⟨rfl, rfl⟩
set_option maxHeartbeats 4000000 in
theorem through_none (A : Option Addr) (cap : Nat) (f : Value) (w : World) : Calls Tryd.prog 30 #[.slice A 0 cap, f] w fun e w' => e = .returned (.tuple #[.int .i64 0, .nilIface]) ∧ w = w' := by
  go_enter Tryd.func30, Tryd.ntmps30
  go_wp2
  refine wp_loop_rounds 1 ?_
  rw [rounds_succ]
  go_wp2
  go_ret2
  exact ⟨rfl, rfl⟩
set_option maxHeartbeats 4000000 in
theorem full_nilr (A : Option Addr) (n cap : Nat) (w : World) : Calls Tryd.prog 17 #[.nilIface, .slice A n cap] w fun e w' => e = .returned (.tuple #[.int .i64 0, .iface 45 (.int .i64 1)]) ∧ w = w' := by
  go_enter Tryd.func17, Tryd.ntmps17
  go_wp2
  go_ret2
  exact ⟨rfl, rfl⟩
theorem put_nilw (A : Option Addr) (n cap : Nat) (w : World) : Calls Tryd.prog 20 #[.nilIface, .slice A n cap] w fun e w' => e = .returned (.tuple #[.int .i64 0, .iface 45 (.int .i64 1)]) ∧ w = w' := by
  go_enter Tryd.func20, Tryd.ntmps20
  go_wp2
  go_ret2
  exact ⟨rfl, rfl⟩
set_option maxHeartbeats 4000000 in
theorem full_nil (A : Option Addr) (n cap : Nat) (w : World) (hn2 : n ≤ 140737488355328) (hn : 0 < n) : Calls Tryd.prog 17 #[.iface 27 (.pointer none), .slice A n cap] w fun e w' => e = .returned (.tuple #[.int .i64 0, .iface 45 (.int .i64 1)]) ∧ w = w' := by
  have hmf : ∀ (fn : Fn) (first cap : Array Value) (w : World), (Instr.makeFunc fn first cap).run Tryd.prog w = .ok (.func fn first cap) w := fun _ _ _ _ => rfl
  go_enter Tryd.func17, Tryd.ntmps17
  go_wp2_with (first | (go_at_call 30; refine (through_nil _ _ _ _ hn2 hn).mono ?_; rintro e w' ⟨rfl, rfl⟩))
  go_ret2
  exact ⟨rfl, rfl⟩
theorem full_none (A : Option Addr) (cap : Nat) (w : World) (v : Value) : Calls Tryd.prog 17 #[.iface 27 v, .slice A 0 cap] w fun e w' => e = .returned (.tuple #[.int .i64 0, .nilIface]) ∧ w = w' := by
  have hmf : ∀ (fn : Fn) (first cap : Array Value) (w : World), (Instr.makeFunc fn first cap).run Tryd.prog w = .ok (.func fn first cap) w := fun _ _ _ _ => rfl
  go_enter Tryd.func17, Tryd.ntmps17
  go_wp2_with (first | (go_at_call 30; refine (through_none _ _ _ _).mono ?_; rintro e w' ⟨rfl, rfl⟩))
  go_ret2
  exact ⟨rfl, rfl⟩
theorem blk_C {W : World} {b : Nat} {t : TypeId} {k : IntKind} {D : List Int} (h : W.heap[b]? = some (.cells (D.map (Value.int k)).toArray t (0, 0))) (hl : D.length ≤ 9223372036854775807) : Kd.C (Kd.int k) W (some ⟨b, 0, none⟩) D.length D := by
  refine ⟨rfl, hl, fun _ => ⟨_, rfl, fun j p hj => ⟨[.int k p], rfl, rfl, fun i u hi => ?_⟩⟩⟩
  have hi0 : i = 0 := by
    rcases i with _ | i
    · rfl
    · simp at hi
  subst hi0
  have hu : u = .int k p := by simpa using hi.symm
  subst hu
  rw [show j * (Kd.int k).sz + 0 = j from by show j * 1 + 0 = j; omega, add_plain, blk_cell h]
  rw [List.getElem?_toArray, List.getElem?_map, hj]
  rfl
theorem Snk.below {W W' : World} {lo g bk : Nat} {vD : Value} {D : List Int} {f code : Int} (h : Snk W lo g bk vD D f code) (hb : Below W.heap.size W W') : Snk W' lo g bk vD D f code :=
  ⟨blk_below h.blk hb, blk_below h.brk hb, h.g1, h.b1, Kd.R_below h.data hb⟩
theorem lit1 (w : World) (x : Int) : Kd.C (Kd.int .u8) (w.alloc (.cells #[.int .u8 x] 5)) (some ⟨w.heap.size, 0, none⟩) 1 [x] := blk_C (D := [x]) (blk_new w _) (by simp)
theorem lit3 (w : World) (x y z : Int) : Kd.C (Kd.int .u8) (w.alloc (.cells #[.int .u8 x, .int .u8 y, .int .u8 z] 5)) (some ⟨w.heap.size, 0, none⟩) 3 [x, y, z] := blk_C (D := [x, y, z]) (blk_new w _) (by simp)
set_option maxHeartbeats 400000 in
theorem awake (w : World) : Calls Tryd.prog 9 #[] w fun e w' => e = .returned (.bool true) ∧ Below w.heap.size w w' := by
  go_enter Tryd.func9, Tryd.ntmps9
  go_wp2_with fail
  have hb0 := blk_alloc (blk_new w (.cells #[.int .u8 9, .int .u8 9, .int .u8 9] 5 (0, 0))) (.cells #[.int .u8 5, .int .u8 6] 5 (0, 0))
  have hb1 : ((w.alloc (.cells #[.int .u8 9, .int .u8 9, .int .u8 9] 5 (0, 0))).alloc (.cells #[.int .u8 5, .int .u8 6] 5 (0, 0))).heap[w.heap.size + 1]? = some (.cells #[.int .u8 5, .int .u8 6] 5 (0, 0)) := by
    have := blk_new (w.alloc (.cells #[.int .u8 9, .int .u8 9, .int .u8 9] 5 (0, 0))) (.cells #[.int .u8 5, .int .u8 6] 5 (0, 0))
    simpa using this
  have hB1 := below_alloc (below_alloc (Below.refl w.heap.size w) (.cells #[.int .u8 9, .int .u8 9, .int .u8 9] 5 (0, 0))) (.cells #[.int .u8 5, .int .u8 6] 5 (0, 0))
  have hz1 : ((w.alloc (.cells #[.int .u8 9, .int .u8 9, .int .u8 9] 5 (0, 0))).alloc (.cells #[.int .u8 5, .int .u8 6] 5 (0, 0))).heap.size = w.heap.size + 2 := by simp
  generalize ((w.alloc (.cells #[.int .u8 9, .int .u8 9, .int .u8 9] 5 (0, 0))).alloc (.cells #[.int .u8 5, .int .u8 6] 5 (0, 0))) = w2 at hb1 hb0 hB1 hz1 ⊢
  have H2 := Aside0.mk (And.intro hb1 (And.intro hb0 (And.intro hB1 hz1)))
  clear hb1 hB1 hz1 hb0
  have H56 := Aside0.mk (show Kd.C (Kd.int .u8) w2 (some ⟨w.heap.size + 1, 0, none⟩) 2 [5, 6] from blk_C (D := [5, 6]) H2.out.1 (by decide))
  have N56 := Aside0.mk (newSource (some ⟨w.heap.size + 1, 0, none⟩) none 2 0 [5, 6] [] (-1) 0 w2 H56.out (Kd.C_nil _ _) (by decide) (by decide))
  simp only [List.length_cons, List.length_nil, Nat.zero_add, Nat.reduceAdd] at N56
  (with_reducible refine N56.out.mono ?_)
  clear N56
  rintro e w3 ⟨g, bk, vD, vC, rfl, hS, hB3⟩
  have HS3 := Aside0.mk hS
  have HB3 := Aside0.mk hB3
  clear hS hB3
  go_wp2_with fail
  (refine (read_main w2.heap.size w3.heap.size g bk vD vC [5, 6] [] (-1) 0 0 0 w.heap.size 0 3 3 [.int .u8 9, .int .u8 9, .int .u8 9] w3 HS3.out (by decide) (by decide) (fun h => absurd h (by decide)) (by decide) (by decide) (by decide) (by decide) (by decide) (blk_below H2.out.2.1 HB3.out) (by decide) (.inl (by have := H2.out.2.2.2; omega)) 2 (by decide)).mono ?_)
  rintro e w4 ⟨rfl, hS, hF, hb⟩
  have HS4 := Aside0.mk hS
  have HF4 := Aside0.mk hF
  have HB4 := Aside0.mk hb
  clear hS hF hb
  go_wp2_with fail
  (with_reducible refine (newSink (-1) 0 _).mono ?_)
  rintro e w5 ⟨gs, bs, rfl, hS, hB⟩
  have HK5 := Aside0.mk hS
  have HB5 := Aside0.mk hB
  clear hS hB
  go_wp2_with fail
  have hB5 := below_alloc (Below.refl w5.heap.size w5) (.cells #[.int .u8 7] 5 (0, 0))
  have L7 := Aside0.mk (lit1 w5 7)
  generalize w5.alloc (.cells #[.int .u8 7] 5 (0, 0)) = w6 at hB5 L7 ⊢
  have HK6 := Aside0.mk (HK5.out.below hB5)
  have HB6 := Aside0.mk hB5
  clear hB5
  have N7 := Aside0.mk (write_full w4.heap.size gs bs (.slice none 0 0) [] [7] (-1) 0 (some ⟨w5.heap.size, 0, none⟩) 1 w6 HK6.out L7.out (by decide) (by decide) (fun h => absurd h (by decide)) (Nat.le_trans HB5.out.size HB6.out.size))
  simp only [List.length_cons, List.length_nil, Nat.zero_add, Nat.reduceAdd, List.nil_append] at N7
  (with_reducible refine N7.out.mono ?_)
  clear N7
  rintro e w7 ⟨vD', rfl, hS, hF, -⟩
  have hlo : w.heap.size + 2 ≤ w4.heap.size := by
    have h1 := H2.out.2.2.2
    have h2 := HB3.out.size
    have h3 := HF4.out.size
    omega
  have hb7 : w7.heap[w.heap.size]? = some (.cells #[.int .u8 5, .int .u8 6, .int .u8 9] 5 (0, 0)) := by
    refine (hF.block _ (by have := HB5.out.size; have := HB6.out.size; omega) (fun e => ?_)).trans (blk_below (blk_below HB4.out HB5.out) HB6.out)
    rcases e with e | e
    · have := HK5.out.g1; omega
    · simp [Value.ownBlock] at e
  have HK7 := Aside0.mk hS
  have HF7 := Aside0.mk hF
  have HB7 := Aside0.mk hb7
  have HLO := Aside0.mk hlo
  have hB : Below w.heap.size w w7 := by
    have h1 := H2.out.2.2.2
    have s3 := HB3.out.size
    have s4 := HF4.out.size
    have s5 := HB5.out.size
    have s6 := HB6.out.size
    have b2 := H2.out.2.2.1
    have b3 := HB3.out.mono (B' := w.heap.size) (by omega)
    have b4 := HF4.out.below (B := w.heap.size) (by omega) (fun k hk => by rcases hk with hk | hk <;> have := HS3.out.g1 <;> omega)
    have b5 := HB5.out.mono (B' := w.heap.size) (by omega)
    have b6 := HB6.out.mono (B' := w.heap.size) (by omega)
    have b7 := hF.below (B := w.heap.size) (by omega) (fun k hk => by
      rcases hk with hk | hk
      · have := HK5.out.g1; omega
      · simp [Value.ownBlock] at hk)
    exact ((((b2.trans b3).trans b4).trans b5).trans b6).trans b7
  have HW7 := Aside0.mk hB
  clear hS hF hb7 hlo hB HF7 HB6 HB5 HK6 HK5 HS4 HF4 HB4 HB3 HS3
  go_wp2_with fail
  have S3 := Aside0.mk (same_yes (some ⟨w.heap.size, 0, none⟩) (some ⟨w7.heap.size, 0, none⟩) 3 3 [5, 6, 9] (w7.alloc (.cells #[.int .u8 5, .int .u8 6, .int .u8 9] 5)) (by decide) (blk_C (D := [5, 6, 9]) (blk_alloc HB7.out _) (by decide)) (by decide) (lit3 w7 5 6 9) (by decide))
  simp only [List.length_cons, List.length_nil, Nat.zero_add, Nat.reduceAdd] at S3
  (with_reducible refine S3.out.mono ?_)
  clear S3
  rintro e w8 ⟨rfl, m8, rfl⟩
  have hB8 := pw_below_drewN (below_alloc (Below.refl w7.heap.size w7) (.cells #[.int .u8 5, .int .u8 6, .int .u8 9] 5)) m8
  generalize (w7.alloc (.cells #[.int .u8 5, .int .u8 6, .int .u8 9] 5)).drewN m8 = w8 at hB8 ⊢
  have HB8 := Aside0.mk hB8
  have HK8 := Aside0.mk (HK7.out.below hB8)
  clear hB8
  go_wp2_with fail
  (with_reducible refine (bytes_is w4.heap.size gs bs vD' [7] (-1) 0 w8 HK8.out (by decide)).mono ?_)
  rintro e w9 ⟨v, rfl, hR, hB⟩
  obtain ⟨A9, c9, rfl⟩ := Kd.R_slice hR
  have HR9 := Aside0.mk hR
  have HB9 := Aside0.mk hB
  clear hR hB
  go_wp2_with fail
  have S1 := Aside0.mk (same_yes A9 (some ⟨w9.heap.size, 0, none⟩) c9 1 [7] (w9.alloc (.cells #[.int .u8 7] 5)) (by decide) (Kd.C_alloc (Kd.R_reads' HR9.out).2.2 _) (Kd.R_reads' HR9.out).2.1 (lit1 w9 7) (by decide))
  simp only [List.length_cons, List.length_nil, Nat.zero_add, Nat.reduceAdd] at S1
  (with_reducible refine S1.out.mono ?_)
  clear S1
  rintro e w10 ⟨rfl, m10, rfl⟩
  go_wp2_with fail
  go_ret
  refine ⟨rfl, ?_⟩
  have s7 := HW7.out.size
  have s8 := HB8.out.size
  exact ((HW7.out.trans (HB8.out.mono s7)).trans (HB9.out.mono (Nat.le_trans s7 s8))).trans ((pw_below_drewN (below_alloc (Below.refl w9.heap.size w9) _) m10).mono (by have := HB9.out.size; omega))
end Go.Proofs.YtdgfbamhnmnliaaDoor.A
