/- Write and Put over a sink that may break. -/
import Derived.Test.YtdgfbamhnmnliaaDoorPI
import Derived.Deep.RegionLaw
namespace Go.Proofs.YtdgfbamhnmnliaaDoor.A
open Go.RowKit Go.Deep Go.Proofs.YtdgfbamhnmnliaaDoor.R Go.Proofs.YtdgfbamhnmnliaaDoorW.PrintWords Go.Proofs.YtdgfbamhnmnliaaDoorW.PrintLast Go.Proofs.YtdgfbamhnmnliaaDoorW.PrintMore
set_option linter.unusedVariables false
set_option linter.unusedSimpArgs false
set_option maxRecDepth 100000
set_option maxHeartbeats 4000000 in
theorem write_part (lo g bk : Nat) (vD : Value) (D P : List Int) (f code : Int) (A : Option Addr) (cap n : Nat) (w : World) (hS : Snk w lo g bk vD D f code) (hP : Kd.C (Kd.int .u8) w A P.length P) (hcap : P.length ≤ cap) (hl : D.length + P.length ≤ 140737488355328) (hf2 : f ≤ 9223372036854775807) (hf : 0 ≤ f) (hn : f - (D.length : Int) = (n : Int)) (hnP : n < P.length) (hlo : lo ≤ w.heap.size) :
    Calls Tryd.prog 27 #[.pointer (some ⟨g, 0, none⟩), .slice A P.length cap] w fun e w' => ∃ vD', e = .returned (.tuple #[.int .i64 (n : Int), .iface 59 (.pointer (some ⟨bk, 0, none⟩))]) ∧ Snk w' lo g bk vD' (D ++ P.take n) f code ∧ Fr (fun k => k = g ∨ vD.ownBlock = some k) w w' ∧ (vD'.ownBlock = vD.ownBlock ∨ ∃ b, vD'.ownBlock = some b ∧ w.heap.size ≤ b) := by
  obtain ⟨AD, cD, rfl⟩ := Kd.R_slice hS.data
  have k0 := cell_of_row w g 0 _ 77 (0, 0) hS.blk
  have k1 := cell_of_row w g 1 _ 77 (0, 0) hS.blk
  have f0 : w.frozen? ⟨g, 0, none⟩ = false := blk_frozen hS.blk _
  simp only [List.getElem?_toArray, List.getElem?_cons_succ, List.getElem?_cons_zero] at k0 k1
  have HS := Aside0.mk hS
  have htl : (P.take n).length = n := by rw [List.length_take]; omega
  have hPn : Kd.C (Kd.int .u8) w A n (P.take n) := by have := Kd.C_take hP (show n ≤ P.length by omega); rw [htl] at this; exact this
  have HP := Aside0.mk hPn
  have HL := Aside0.mk hl
  have HLO := Aside0.mk hlo
  have HT := Aside0.mk htl
  clear hS hP hlo hPn htl
  have hf0 : decide (0 ≤ f) = true := decide_eq_true hf
  have ef : IntKind.i64.wrap (f - (D.length : Int)) = (n : Int) := by rw [IntKind.wrap_i64]; omega
  have hlt : decide ((n : Int) < (P.length : Int)) = true := decide_eq_true (by omega)
  have hng : some g ≠ (Value.slice AD D.length cD).ownBlock := fun e => by
    obtain ⟨cells, hc⟩ := own_typed (Kd.own_of_R HS.out.data) g e.symm
    rw [HS.out.blk] at hc
    injection hc with hc
    injection hc with _ hc
    cases hc
  have HNG := Aside0.mk hng
  have HFR := Aside0.mk (show ∀ k, w.heap.size ≤ k → lo ≤ k ∧ k ≠ g from fun k hk => ⟨Nat.le_trans HLO.out hk, fun e => by have := blk_lt HS.out.blk; omega⟩)
  clear hng hf hn
  have n0 : (0 : Int) ≤ (n : Int) := by omega
  have n1 : (n : Int) ≤ (cap : Int) := by omega
  go_enter Tryd.func27, Tryd.ntmps27
  go_wp2
  go_quiet (fail)
  have HSa := Aside0.mk (show (w.drewN nq).heap = w.heap ∧ Below w.heap.size w (w.drewN nq) from ⟨rfl, pw_below_drewN (Below.refl _ _) nq⟩)
  go_wp2
  go_quiet (fail)
  go_upto_region 5 with fail
  have HBz := Aside0.mk (pw_below_drewN HSa.out.2 nq)
  have hbz := blk_below HS.out.blk HBz.out
  have hRz := Kd.R_below HS.out.data HBz.out
  have hPz := Kd.C_below HP.out HBz.out
  generalize (w.drewN _).drewN nq = wz at HBz hbz hRz hPz ⊢
  have HRz := Aside0.mk hRz
  have HPz := Aside0.mk hPz
  have HXz := Aside0.mk hbz
  clear HSa k0 k1 f0 hRz hPz
  have k0 := cell_of_row wz g 0 _ 77 (0, 0) hbz
  have f0 : wz.frozen? ⟨g, 0, none⟩ = false := blk_frozen hbz _
  simp only [List.getElem?_toArray, List.getElem?_cons_succ, List.getElem?_cons_zero] at k0
  clear hbz
  have HRd := Aside0.mk (Kd.R_drewN HRz.out 1)
  have HPd := Aside0.mk (Kd.C_drewN HPz.out 1)
  have hwd : wz.drewN 1 = wz.drew := rfl
  rw [hwd] at HRd HPd
  have HXd : Aside0 (wz.drew.heap[g]? = some (.cells #[.slice AD D.length cD, .int .i64 f, .pointer (some ⟨bk, 0, none⟩)] 77 (0, 0))) := Aside0.mk HXz.out
  have HSd : Aside0 (lo ≤ wz.drew.heap.size ∧ w.heap.size ≤ wz.drew.heap.size) := Aside0.mk ⟨by show lo ≤ wz.heap.size; have := HBz.out.size; have := HLO.out; omega, HBz.out.size⟩
  clear hwd
  go_region_law (
    refine held_of (by rfl) (Kd.R_append_rows_step (w0 := wz.drew) (Kd.int .u8) lo ?_ (.tmp 44) (.tmp 47) 22 5 (.int .u8 0) 1 ?_ Tryd.underlying22 inf5 rfl (by decide) (by decide) (.slice AD D.length cD) D (P.take n) A n cap (fun k => lo ≤ k ∧ k ≠ g) (fun _ => False) ?_ ?_
              HRd.out HPd.out (fun x cs h => h) (fun _ h => h.elim) (fun k hk => HFR.out k (by have := HSd.out; omega)) (Below.refl _ _) HSd.out.1 (by show (D.length + n) * 1 ≤ _; have := HL.out; omega) ?_)
    rfl
    rfl
    rfl
    rfl
    intro v1 w1 hR hb hg hat
    obtain ⟨A1, c1, rfl⟩ := Kd.R_slice hR
    have hlen : (D ++ P.take n).length = D.length + n := by rw [List.length_append, HT.out]
    rw [hlen] at hR hat ⊢
    have hb1 := blk_grown HXd.out hg HNG.out
    have q0 := cell_of_row w1 g 0 _ 77 (0, 0) hb1
    have g0 : w1.frozen? ⟨g, 0, none⟩ = false := blk_frozen hb1 _
    simp only [List.getElem?_toArray, List.getElem?_cons_zero] at q0
    have HB1 := Aside0.mk hb1
    have HR1 := Aside0.mk hR
    have HG1 := Aside0.mk hg
    have HAT := Aside0.mk hat
    clear hb1 hR hb hg hat)
  go_upto_region 6 with fail
  have hbk : w1.heap[bk]? = some (.cells #[.int .i64 code] 61 (0, 0)) := blk_grown (blk_below HS.out.brk (HBz.out.trans (below_drew (Below.refl _ _)))) HG1.out (fun e => by
    obtain ⟨cells, hc⟩ := own_typed (Kd.own_of_R HS.out.data) bk e.symm
    rw [HS.out.brk] at hc
    injection hc with hc
    injection hc with _ hc
    cases hc)
  have hbg : bk ≠ g := by
    intro e
    have h1 := HS.out.brk
    rw [e, HS.out.blk] at h1
    injection h1 with h1
    injection h1 with _ h1
    cases h1
  have HFz : Aside0 (Fr (fun k => k = g ∨ (Value.slice AD D.length cD).ownBlock = some k) w w1) := Aside0.mk (Fr.trans (W1 := wz.drew) (Y := fun k => (Value.slice AD D.length cD).ownBlock = some k) (Fr.of_below (HBz.out.trans (below_drew (Below.refl _ _)))) ⟨HG1.out.os, HG1.out.tape, HG1.out.output, HG1.out.size, fun k hk hn => HG1.out.block k hk (fun e => hn e.symm)⟩ (fun k _ h => .inr h))
  have hb2 := blk_put HB1.out 0 (.slice A1 (D.length + n) c1) rfl
  have HS2 : Aside0 (Snk (w1.setCell ⟨g, 0, none⟩ (.slice A1 (D.length + n) c1)) lo g bk (.slice A1 (D.length + n) c1) (D ++ P.take n) f code) := Aside0.mk ⟨hb2, blk_far hbk (p := ⟨g, 0, none⟩) hbg _, HS.out.g1, HS.out.b1, Kd.R_far HR1.out (p := ⟨g, 0, none⟩) (fun k hk => hk.2) _⟩
  have HF2 := Aside0.mk (HFz.out.setCell (p := ⟨g, 0, none⟩) (.inl rfl) (.slice A1 (D.length + n) c1))
  have HA2 : Aside0 ((Value.slice A1 (D.length + n) c1).ownBlock = (Value.slice AD D.length cD).ownBlock ∨ ∃ b, (Value.slice A1 (D.length + n) c1).ownBlock = some b ∧ w.heap.size ≤ b) := Aside0.mk (HAT.out.imp id (fun h => by obtain ⟨b, e, h⟩ := h; exact ⟨b, e, Nat.le_trans HSd.out.2 h⟩))
  clear q0 g0 hb2 hbg hbk
  generalize w1.setCell ⟨g, 0, none⟩ (.slice A1 (D.length + n) c1) = w3 at HS2 HF2 ⊢
  have k2 := cell_of_row w3 g 2 _ 77 (0, 0) HS2.out.blk
  simp only [List.getElem?_toArray, List.getElem?_cons_succ, List.getElem?_cons_zero] at k2
  go_quiet (fail)
  go_wp2
  go_ret2
  exact ⟨_, rfl, HS2.out.below (pw_below_drewN (Below.refl _ _) nq), HF2.out.drewN nq, HA2.out⟩
/-- How much of a piece of n bytes a sink that holds m bytes takes. -/
def putK (f : Int) (m n : Nat) : Nat := if 0 ≤ f ∧ f - (m : Int) < (n : Int) then (f - (m : Int)).toNat else n
def putE (f : Int) (m n bk : Nat) : Value := if 0 ≤ f ∧ f - (m : Int) < (n : Int) then .iface 59 (.pointer (some ⟨bk, 0, none⟩)) else .nilIface
set_option maxHeartbeats 4000000 in
theorem writeU (lo g bk : Nat) (vD : Value) (D P : List Int) (f code : Int) (A : Option Addr) (cap : Nat) (w : World) (hS : Snk w lo g bk vD D f code) (hP : Kd.C (Kd.int .u8) w A P.length P) (hcap : P.length ≤ cap) (hl : D.length + P.length ≤ 140737488355328) (hf2 : f ≤ 9223372036854775807) (hf : 0 ≤ f → (D.length : Int) ≤ f) (hlo : lo ≤ w.heap.size) :
    Calls Tryd.prog 27 #[.pointer (some ⟨g, 0, none⟩), .slice A P.length cap] w fun e w' => ∃ vD', e = .returned (.tuple #[.int .i64 ((putK f D.length P.length : Nat) : Int), putE f D.length P.length bk]) ∧ Snk w' lo g bk vD' (D ++ P.take (putK f D.length P.length)) f code ∧ Fr (fun k => k = g ∨ vD.ownBlock = some k) w w' ∧ (vD'.ownBlock = vD.ownBlock ∨ ∃ b, vD'.ownBlock = some b ∧ w.heap.size ≤ b) := by
  unfold putK putE
  by_cases h : 0 ≤ f ∧ f - (D.length : Int) < (P.length : Int)
  · rw [if_pos h, if_pos h]
    have := hf h.1
    exact write_part lo g bk vD D P f code A cap (f - (D.length : Int)).toNat w hS hP hcap hl hf2 h.1 (by omega) (by omega) hlo
  · rw [if_neg h, if_neg h, List.take_length]
    exact write_full lo g bk vD D P f code A cap w hS hP hl hf2 (fun h0 => by omega) hlo
theorem putK_le {f : Int} {m n : Nat} (hf : 0 ≤ f → (m : Int) ≤ f) : putK f m n ≤ n ∧ (0 ≤ f → ((m + putK f m n : Nat) : Int) ≤ f) := by
  unfold putK
  split
  · rename_i h
    have := hf h.1
    exact ⟨by omega, fun _ => by omega⟩
  · rename_i h
    exact ⟨Nat.le_refl _, fun h0 => by omega⟩
theorem put_cases {f : Int} {m n bk : Nat} (hf : 0 ≤ f → (m : Int) ≤ f) : (putK f m n = n ∧ putE f m n bk = .nilIface) ∨ (putK f m n < n ∧ 0 ≤ f ∧ ((m + putK f m n : Nat) : Int) = f ∧ putE f m n bk = .iface 59 (.pointer (some ⟨bk, 0, none⟩))) := by
  unfold putK putE
  by_cases h : 0 ≤ f ∧ f - (m : Int) < (n : Int)
  · have := hf h.1
    rw [if_pos h, if_pos h]
    exact .inr ⟨by omega, h.1, by omega, rfl⟩
  · rw [if_neg h, if_neg h]; exact .inl ⟨rfl, rfl⟩
set_option maxHeartbeats 4000000 in
theorem through_put (lo g bk : Nat) (vD : Value) (D P : List Int) (f code : Int) (b cap : Nat) (w : World) (hS : Snk w lo g bk vD D f code) (hP : Kd.C (Kd.int .u8) w (some ⟨b, 0, none⟩) P.length P) (hcap : P.length ≤ cap) (hP0 : 0 < P.length) (hl : D.length + P.length ≤ 140737488355328) (hf2 : f ≤ 9223372036854775807) (hf : 0 ≤ f → (D.length : Int) ≤ f) (hlo : lo ≤ w.heap.size) :
    Calls Tryd.prog 30 #[.slice (some ⟨b, 0, none⟩) P.length cap, .func (.method "Write") #[.iface 48 (.pointer (some ⟨g, 0, none⟩))] #[]] w fun e w' => ∃ vD', e = .returned (.tuple #[.int .i64 ((putK f D.length P.length : Nat) : Int), putE f D.length P.length bk]) ∧ Snk w' lo g bk vD' (D ++ P.take (putK f D.length P.length)) f code ∧ Fr (fun k => k = g ∨ vD.ownBlock = some k) w w' ∧ (vD'.ownBlock = vD.ownBlock ∨ ∃ b, vD'.ownBlock = some b ∧ w.heap.size ≤ b) := by
  have WU := Aside0.mk (writeU lo g bk vD D P f code (some ⟨b, 0, none⟩) cap w hS hP hcap hl hf2 hf hlo)
  have PC := Aside0.mk (And.intro (put_cases (n := P.length) (bk := bk) hf) (putK_le (n := P.length) hf))
  obtain ⟨k, hk⟩ : ∃ k, k = putK f D.length P.length := ⟨_, rfl⟩
  obtain ⟨v, hv⟩ : ∃ v, v = putE f D.length P.length bk := ⟨_, rfl⟩
  rw [← hk, ← hv] at WU PC ⊢
  clear hk hv hS hP hf hf2 hlo
  have mW := methW
  have hc0 : ¬ cap = 0 := by omega
  have hkP : k ≤ P.length := PC.out.2.1
  have hl2 : P.length ≤ 140737488355328 := by omega
  have h0 : decide ((0 : Int) < (P.length : Int)) = true := decide_eq_true (by omega)
  have p1 : decide ((k : Int) < 0) = false := decide_eq_false (by omega)
  have p2 : decide ((k : Int) > (P.length : Int)) = false := decide_eq_false (by omega)
  clear hl
  go_enter Tryd.func30, Tryd.ntmps30
  go_wp2
  refine wp_loop_rounds 1 ?_
  rw [rounds_succ]
  go_wp2_with fail
  (with_reducible refine WU.out.mono ?_)
  clear WU
  rintro e w' ⟨vD', rfl, h1, h2, h3⟩
  have H := Aside0.mk (And.intro h1 (And.intro h2 h3))
  clear h1 h2 h3
  rcases PC.out.1 with ⟨e1, e2⟩ | ⟨e1, e2, e3, e4⟩
  · have heq : ((k : Int) == (P.length : Int)) = true := beq_iff_eq.2 (by omega)
    have heq2 : (k == P.length) = true := beq_iff_eq.2 e1
    subst e2
    clear e1
    go_wp2
    go_ret2
    exact ⟨_, rfl, H.out⟩
  · have heq : ((k : Int) == (P.length : Int)) = false := beq_eq_false_iff_ne.2 (by omega)
    have heq2 : (k == P.length) = false := beq_eq_false_iff_ne.2 (by omega)
    subst e4
    clear e1 e2 e3
    go_wp2
    go_ret2
    exact ⟨_, rfl, H.out⟩
theorem putU (lo g bk : Nat) (vD : Value) (D P : List Int) (f code : Int) (A : Option Addr) (cap : Nat) (w : World) (hS : Snk w lo g bk vD D f code) (hP : Kd.C (Kd.int .u8) w A P.length P) (hA : 0 < P.length → ∃ b, A = some ⟨b, 0, none⟩) (hcap : P.length ≤ cap) (hl : D.length + P.length ≤ 140737488355328) (hf2 : f ≤ 9223372036854775807) (hf : 0 ≤ f → (D.length : Int) ≤ f) (hlo : lo ≤ w.heap.size) :
    Calls Tryd.prog 20 #[.iface 48 (.pointer (some ⟨g, 0, none⟩)), .slice A P.length cap] w fun e w' => ∃ vD', e = .returned (.tuple #[.int .i64 ((putK f D.length P.length : Nat) : Int), putE f D.length P.length bk]) ∧ Snk w' lo g bk vD' (D ++ P.take (putK f D.length P.length)) f code ∧ Fr (fun k => k = g ∨ vD.ownBlock = some k) w w' ∧ (vD'.ownBlock = vD.ownBlock ∨ ∃ b, vD'.ownBlock = some b ∧ w.heap.size ≤ b) := by
  have T : Aside0 (Calls Tryd.prog 30 #[.slice A P.length cap, .func (.method "Write") #[.iface 48 (.pointer (some ⟨g, 0, none⟩))] #[]] w fun e w' => ∃ vD', e = .returned (.tuple #[.int .i64 ((putK f D.length P.length : Nat) : Int), putE f D.length P.length bk]) ∧ Snk w' lo g bk vD' (D ++ P.take (putK f D.length P.length)) f code ∧ Fr (fun k => k = g ∨ vD.ownBlock = some k) w w' ∧ (vD'.ownBlock = vD.ownBlock ∨ ∃ b, vD'.ownBlock = some b ∧ w.heap.size ≤ b)) := by
    refine Aside0.mk ?_
    by_cases h0 : 0 < P.length
    · obtain ⟨b, rfl⟩ := hA h0
      exact through_put lo g bk vD D P f code b cap w hS hP hcap h0 hl hf2 hf hlo
    · obtain rfl : P = [] := List.eq_nil_of_length_eq_zero (by omega)
      have hk : putK f D.length ([] : List Int).length = 0 := by have := (putK_le (n := 0) hf).1; simpa using this
      have he : putE f D.length ([] : List Int).length bk = .nilIface := by unfold putE; rw [if_neg (fun h => by have := hf h.1; have h2 := h.2; simp at h2; omega)]
      rw [hk, he]
      refine (through_none A cap _ w).mono ?_
      rintro e w' ⟨rfl, rfl⟩
      exact ⟨vD, rfl, by rw [List.take_nil, List.append_nil]; exact hS, Fr.refl _ _, .inl rfl⟩
  clear hS hP hA hcap hl hf2 hf hlo
  have hmf : ∀ (fn : Fn) (first cap : Array Value) (w : World), (Instr.makeFunc fn first cap).run Tryd.prog w = .ok (.func fn first cap) w := fun _ _ _ _ => rfl
  go_enter Tryd.func20, Tryd.ntmps20
  go_wp2_with fail
  (with_reducible refine T.out.mono ?_)
  clear T
  rintro e w' ⟨vD', rfl, h⟩
  have H := Aside0.mk h
  clear h
  go_wp2_with fail
  go_ret2
  exact ⟨_, rfl, H.out⟩
end Go.Proofs.YtdgfbamhnmnliaaDoor.A
