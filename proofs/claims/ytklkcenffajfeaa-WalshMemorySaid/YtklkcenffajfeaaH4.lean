import Derived.Test.YtklkcenffajfeaaH3
namespace Go.Proofs.Ytklkcenffajfeaa.A
open Go.RowKit Go.Deep Go.Proofs.YtklkcenffajfeaaW.PrintWords Go.Proofs.YtklkcenffajfeaaW.PrintLast Go.Proofs.YtklkcenffajfeaaW.PrintMore WH
set_option linter.unusedVariables false
set_option linter.unusedSimpArgs false
set_option maxHeartbeats 4000000 in
set_option maxRecDepth 100000 in
theorem walsh_Inverse.calls (A0 : Option Addr) (c0 : Nat) (l0 : List Int) (r1 : List Int) (r2 : Int) (w : World) (hr0 : Kd.C (Kd.int .u16) w A0 l0.length l0) (hc0 : l0.length ≤ c0) (h : walsh_Inverse.f l0 = some (r1, r2)) :
    Calls Try.prog 16 #[.slice A0 l0.length c0] w fun e w' => ∃ v0_ : Value, e = .returned (.tuple #[v0_, .int .i64 r2]) ∧ Kd.R (Kd.int .u16) 33 w' w.heap.size (fun _ => True) v0_ r1 ∧ Below w.heap.size w w' := by
  unfold walsh_Inverse.f at h
  by_cases hw : okW l0 = true
  · rw [if_pos hw] at h
    have HW := Aside0.mk hw
    have HR := Aside0.mk hr0
    by_cases hp : pwB l0.length = true
    · rw [if_pos hp] at h
      have hg := good_is l0.length
      rw [hp] at hg
      have HGD := Aside0.mk hg
      have HP := Aside0.mk hp
      have h' := Option.some.inj h
      simp only [Prod.mk.injEq] at h'
      obtain ⟨rfl, rfl⟩ := h'
      have hpos : 0 < l0.length := by rw [(pw_log hp).1]; exact Nat.two_pow_pos _
      have hn := (pw_log hp).2
      clear h hw hr0 hp hg
      go_enter Try.func16, Try.ntmps16
      go_wp2_with (go_at_call 36; refine (walsh_good.calls _ _ _ HGD.out).mono ?_; rintro e w1 ⟨rfl, hD⟩; obtain ⟨nd, rfl⟩ := hD.out)
      refine (reduced_wd A0 c0 l0 _ (Kd.C_drewN HR.out nd) hpos hn HW.out).mono ?_
      rintro e w2 ⟨g, rfl, hR, hge, hB⟩
      have B2 := Aside0.mk ((pw_below_drewN (Below.refl w.heap.size w) nd).trans hB)
      have hcall := walsh_back.calls (fun _ => True) (.slice (some ⟨g, 0, none⟩) l0.length l0.length) _ _ w w2 B2.out hR (back_md HP.out (vl l0))
      have HC := Aside0.mk hcall
      clear hR hge hB hcall
      go_wp2_with fail
      refine HC.out.mono ?_
      rintro e w3 ⟨rfl, hR3, hB3, -⟩
      have R3 := Aside0.mk hR3
      have B3 := Aside0.mk hB3
      clear hR3 hB3 HC
      go_wp2
      go_ret2
      exact ⟨_, rfl, Kd.R_mono R3.out (fun _ _ => trivial), B3.out⟩
    · rw [if_neg hp] at h
      have hg := good_is l0.length
      rw [show pwB l0.length = false by simpa using hp] at hg
      have HGD := Aside0.mk hg
      obtain ⟨rfl, rfl⟩ : r1 = [] ∧ r2 = 130 := by
        have := Option.some.inj h
        simp only [Prod.mk.injEq] at this
        exact ⟨this.1.symm, this.2.symm⟩
      clear h hw hr0 hp hg
      go_enter Try.func16, Try.ntmps16
      go_wp2_with (go_at_call 36; refine (walsh_good.calls _ _ _ HGD.out).mono ?_; rintro e w1 ⟨rfl, hD⟩; obtain ⟨nd, rfl⟩ := hD.out)
      go_ret2
      exact ⟨_, rfl, Kd.R_nil _ _ _ _ _, pw_below_drewN (Below.refl w.heap.size w) nd⟩
  · rw [if_neg hw] at h; exact absurd h (by simp)
namespace Wd
variable {W : World} {base g n cap : Nat} {ok : Nat → Prop} {F : Nat → Int}
theorem reok {ok' : Nat → Prop} (h : Wd W base ok g n cap F) (hk : ok' g) : Wd W base ok' g n cap F :=
  Kd.R_of_own (Kd.own_of_R h) (fun k e => by
    have : g = k := by simpa [Value.ownBlock] using e
    exact this ▸ hk)
theorem block {W' : World} (h : Wd W base ok g n cap F) (hb : W'.heap[g]? = W.heap[g]?) : Wd W' base ok g n cap F := by
  have ho := Kd.own_of_R h
  refine Kd.R_of_own ⟨ho.1, ?_⟩ h.1
  rcases ho.2 with h0 | ⟨g', cp, cur, e, r1, r2, r3⟩
  · exact .inl h0
  · refine .inr ⟨g', cp, cur, e, r1, ?_, r3⟩
    have : g' = g := by injection e with e1; injection e1 with e1; injection e1 with e1; exact e1.symm
    rw [this] at r2 ⊢
    rw [hb]; exact r2
theorem lt (h : Wd W base ok g n cap F) (hn : 0 < n) : g < W.heap.size := World.block_lt_of_cell? W _ (h.at_ hn).1
end Wd
theorem conv_md {n : Nat} (h : pwB n = true) (F G : Nat → Int) {i : Nat} (hi : i < n) : md (2 ^ (16 - Nat.log2 n) * tr (Nat.log2 n) (fun j => md (tr (Nat.log2 n) F j) * md (tr (Nat.log2 n) G j)) i) = md (cv (Nat.log2 n) F G i) := by
  have h1 := (pw_log h).1
  have h2 := (pw_log h).2
  have hr : Nat.log2 n ≤ 16 := by
    by_cases e : Nat.log2 n ≤ 16
    · exact e
    · have := Nat.pow_le_pow_right (show 0 < 2 by decide) (show 17 ≤ Nat.log2 n by omega)
      omega
  rw [← md_mul_left, md_tr (g := tr (Nat.log2 n) (cv (Nat.log2 n) F G)) (fun j _ => by rw [md_mul, tr_cv]), tr_tr _ _ (by rw [← h1]; exact hi), md_mul_left, md_pow _ hr]
set_option maxHeartbeats 4000000 in
set_option maxRecDepth 100000 in
theorem convolved_wd {n : Nat} (hp : pwB n = true) (F G : Nat → Int) (g h capA capB : Nat) (okA okB : Nat → Prop) (w0 w : World) (hB : Below w0.heap.size w0 w) (hgh : g ≠ h) (hbg : w0.heap.size ≤ g) (hbh : w0.heap.size ≤ h)
    (RA : Wd w w0.heap.size okA g n capA (fun j => md (F j))) (RB : Wd w w0.heap.size okB h n capB (fun j => md (G j))) :
    Calls Try.prog 52 #[.slice (some ⟨g, 0, none⟩) n capA, .slice (some ⟨h, 0, none⟩) n capB] w fun e w' => e = .returned (.tuple #[]) ∧ Wd w' w0.heap.size (fun _ => True) g n capA (fun i => md (cv (Nat.log2 n) F G i)) ∧ Below w0.heap.size w0 w' := by
  have hn : 0 < n := by rw [(pw_log hp).1]; exact Nat.two_pow_pos _
  have hn2 := (pw_log hp).2
  have hc1 := walsh_turn.calls (fun k => k = g) _ _ _ w0 w hB (RA.reok rfl) (turn_md hp F)
  have HC := Aside0.mk hc1
  have RB0 := Aside0.mk RB
  have HP := Aside0.mk hp
  have HG := Aside0.mk hbg
  have HH := Aside0.mk hbh
  have HN := Aside0.mk hgh
  clear hB RA RB hp hbg hbh hgh hc1
  go_enter Try.func52, Try.ntmps52
  go_wp2_with fail
  refine HC.out.mono ?_
  rintro e w1 ⟨rfl, hR1, hB1, hK1⟩
  have RB1 : Wd w1 w0.heap.size okB h n capB (fun j => md (G j)) := RB0.out.block (hK1.2 h (RB0.out.lt hn) (fun e => HN.out e.symm))
  have RA1 := Aside0.mk (show Wd w1 w0.heap.size _ g n capA _ from hR1)
  have hc2 := walsh_turn.calls (fun k => k = h) _ _ _ w0 w1 hB1 (RB1.reok rfl) (turn_md HP.out G)
  have HC2 := Aside0.mk hc2
  clear hR1 hB1 hK1 RB1 hc2 HC RB0
  go_wp2_with fail
  refine HC2.out.mono ?_
  rintro e w2 ⟨rfl, hR2, hB2, hK2⟩
  have RA2 := Aside0.mk ((RA1.out.block (hK2.2 g (RA1.out.lt hn) HN.out)).reok (ok' := fun _ => True) trivial)
  have RB2 := Aside0.mk (show Wd w2 w0.heap.size _ h n capB _ from hR2)
  have B2 := Aside0.mk hB2
  clear hR2 hB2 hK2 HC2 RA1
  obtain ⟨FA, hFA⟩ : ∃ FA : Nat → Int, FA = fun i => md (tr (Nat.log2 n) F i) := ⟨_, rfl⟩
  obtain ⟨GA, hGA⟩ : ∃ GA : Nat → Int, GA = fun i => md (tr (Nat.log2 n) G i) := ⟨_, rfl⟩
  rw [← hFA] at RA2
  rw [← hGA] at RB2
  have FB : Aside0 (∀ i, 0 ≤ FA i ∧ FA i ≤ 65534) := ⟨fun i => by rw [hFA]; have h1 := md_ge (tr (Nat.log2 n) F i); have h2 := md_lt (tr (Nat.log2 n) F i); exact ⟨h1, by show md _ ≤ _; omega⟩⟩
  have GB : Aside0 (∀ i, 0 ≤ GA i ∧ GA i ≤ 65534) := ⟨fun i => by rw [hGA]; have h1 := md_ge (tr (Nat.log2 n) G i); have h2 := md_lt (tr (Nat.log2 n) G i); exact ⟨h1, by show md _ ≤ _; omega⟩⟩
  have HFA := Aside0.mk hFA
  have HGA := Aside0.mk hGA
  clear hFA hGA
  go_wp2
  go_loopg [4, 11] n (fun kq v4 v11 wr => ∃ i : Nat, kq = n - i ∧ i ≤ n ∧ v11 = .int .i64 (i : Int) ∧ Wd wr w0.heap.size (fun _ => True) g n capA (fun x => if x < i then md (FA x * GA x) else FA x) ∧ (∃ ok, Wd wr w0.heap.size ok h n capB GA) ∧ Below w0.heap.size w0 wr)
  case atStart => exact ⟨0, rfl, Nat.zero_le _, rfl, RA2.out.congr (fun x _ => by rw [if_neg (by omega)]), ⟨_, RB2.out⟩, B2.out⟩
  case round =>
    obtain ⟨i, rfl, hi, rfl, hR, ⟨ok, hRB⟩, hB⟩ := hrel
    have R3 := Aside0.mk hR
    have RB3 := Aside0.mk hRB
    have B3 := Aside0.mk hB
    clear hR hRB hB RA2 RB2 B2
    by_cases hlt : i < n
    · obtain ⟨c1, f1⟩ := R3.out.at_ hlt
      rw [if_neg (Nat.lt_irrefl i)] at c1
      have c2 := (RB3.out.at_ hlt).1
      obtain ⟨x0, x1⟩ := FB.out i
      obtain ⟨y0, y1⟩ := GB.out i
      obtain ⟨x, hx⟩ : ∃ x, x = FA i := ⟨_, rfl⟩
      obtain ⟨y, hy⟩ : ∃ y, y = GA i := ⟨_, rfl⟩
      rw [← hx] at c1 x0 x1
      rw [← hy] at c2 y0 y1
      obtain ⟨q, hq⟩ : ∃ q, q = x * y := ⟨_, rfl⟩
      have q0 : 0 ≤ q := by rw [hq]; exact Int.mul_nonneg x0 y0
      have q1 : q ≤ 4294705156 := by
        rw [hq]
        exact Int.le_trans (Int.mul_le_mul x1 y1 y0 (by omega)) (by decide)
      have hz : IntKind.i64.wrap (x * y) = q := by rw [← hq, IntKind.wrap_i64]; omega
      have hz3 : wrap64 (x * y) = q := by rw [← hq]; exact R.wrap64_id (by omega) (by omega)
      have HX := Aside0.mk hx
      have HY := Aside0.mk hy
      have HQ := Aside0.mk hq
      clear hx hy hq
      go_wp2
      go_still_tail 16, (by kernel_rfl)
      change wpList _ _ _ _ _ wr.drew
      go_wp2
      have eV : q % 65535 = md (FA i * GA i) := by rw [HQ.out, HX.out, HY.out]; rfl
      have R4 := (R3.out.put i (q % 65535)).congr (G := fun x => if x < i + 1 then md (FA x * GA x) else FA x) (fun x hx => by
        show (if x = i then q % 65535 else if x < i then md (FA x * GA x) else FA x) = _
        by_cases e : x = i
        · rw [if_pos e, e, if_pos (by omega), eV]
        · rw [if_neg e]
          have : x < i ↔ x < i + 1 := by omega
          simp only [this])
      have RB4 := RB3.out.block (W' := wr.setCell ⟨g, i, none⟩ (.int .u16 (q % 65535))) (Below.heap_setCell wr ⟨g, i, none⟩ _ h (fun e => HN.out e.symm))
      go_roundg (n - (i + 1))
      case measure => omega
      case rel => exact ⟨i + 1, rfl, by omega, by go_num, R4.drewN 1, ⟨_, RB4.drewN 1⟩, Below.drew (B3.out.setCell (p := ⟨g, i, none⟩) HG.out _)⟩
    · have hin : i = n := by omega
      subst hin
      have R5 : Wd wr w0.heap.size (fun _ => True) g i capA (fun x => md (FA x * GA x)) := R3.out.congr (fun x hx => by rw [if_pos hx])
      have hb := back_md HP.out (fun x => FA x * GA x)
      have hc3 := walsh_back.calls (fun _ => True) _ _ _ w0 wr B3.out R5 hb
      have HC3 := Aside0.mk hc3
      have HLG := Aside0.mk (pw_log HP.out).1
      clear R3 RB3 B3 R5 hb hc3
      go_wp2_with fail
      refine HC3.out.mono ?_
      rintro e w3 ⟨rfl, hR3, hB3, -⟩
      have R6 := Aside0.mk (show Wd w3 w0.heap.size _ g i capA _ from hR3)
      have B6 := Aside0.mk hB3
      clear hR3 hB3 HC3
      go_wp2
      go_end0
      exact ⟨rfl, (R6.out.mono (fun _ _ => trivial)).congr (fun x hx => by
        have := conv_md HP.out F G hx
        rw [← this, HFA.out, HGA.out]), B6.out⟩
/-- Convolve. -/
def walsh_Convolve.f (a b : List Int) : Option (List Int × Int) :=
  if okW a = true ∧ okW b = true then (if pwB a.length = true ∧ pwB b.length = true then (if a.length = b.length then some (lst a.length (fun i => md (cv (Nat.log2 a.length) (vl a) (vl b) i)), 0) else some ([], 6)) else some ([], 130)) else none
set_option maxHeartbeats 4000000 in
set_option maxRecDepth 100000 in
theorem walsh_Convolve.calls (A0 : Option Addr) (c0 : Nat) (l0 : List Int) (A1 : Option Addr) (c1 : Nat) (l1 : List Int) (r1 : List Int) (r2 : Int) (w : World) (hr0 : Kd.C (Kd.int .u16) w A0 l0.length l0) (hc0 : l0.length ≤ c0) (hr1 : Kd.C (Kd.int .u16) w A1 l1.length l1) (hc1 : l1.length ≤ c1) (h : walsh_Convolve.f l0 l1 = some (r1, r2)) :
    Calls Try.prog 28 #[.slice A0 l0.length c0, .slice A1 l1.length c1] w fun e w' => ∃ v0_ : Value, e = .returned (.tuple #[v0_, .int .i64 r2]) ∧ Kd.R (Kd.int .u16) 33 w' w.heap.size (fun _ => True) v0_ r1 ∧ Below w.heap.size w w' := by
  unfold walsh_Convolve.f at h
  by_cases hw : okW l0 = true ∧ okW l1 = true
  · rw [if_pos hw] at h
    have HW := Aside0.mk hw
    have H0 := Aside0.mk hr0
    have H1 := Aside0.mk hr1
    have g0 := good_is l0.length
    have g1 := good_is l1.length
    by_cases hp : pwB l0.length = true
    · by_cases hq : pwB l1.length = true
      · rw [if_pos ⟨hp, hq⟩] at h
        rw [hp] at g0
        rw [hq] at g1
        have G0 := Aside0.mk g0
        have G1 := Aside0.mk g1
        have HP := Aside0.mk hp
        have HQ := Aside0.mk hq
        have p0 : 0 < l0.length := by rw [(pw_log hp).1]; exact Nat.two_pow_pos _
        have p1 : 0 < l1.length := by rw [(pw_log hq).1]; exact Nat.two_pow_pos _
        have n0 := (pw_log hp).2
        have n1 := (pw_log hq).2
        by_cases hl : l0.length = l1.length
        · rw [if_pos hl] at h
          have h' := Option.some.inj h
          simp only [Prod.mk.injEq] at h'
          obtain ⟨rfl, rfl⟩ := h'
          have hne : ((l0.length : Int) != (l1.length : Int)) = false := bne_eq_false_iff_eq.2 (by omega)
          have HL := Aside0.mk hl
          clear h hw hr0 hr1 hp hq g0 g1 hl
          go_enter Try.func28, Try.ntmps28
          go_wp2_with fail
          refine (walsh_good.calls _ _ _ G0.out).mono ?_
          rintro e w1 ⟨rfl, hD⟩
          obtain ⟨nd, rfl⟩ := hD.out
          go_wp2_with fail
          refine (walsh_good.calls _ _ _ G1.out).mono ?_
          rintro e w1 ⟨rfl, hD⟩
          obtain ⟨nd2, rfl⟩ := hD.out
          go_wp2_with fail
          have B0 := Aside0.mk (pw_below_drewN (Below.refl w.heap.size w) (nd + nd2))
          have C0 := Aside0.mk (Kd.C_drewN H0.out (nd + nd2))
          have C1 := Aside0.mk (Kd.C_drewN H1.out (nd + nd2))
          obtain ⟨W, hW⟩ : ∃ W, W = w.drewN (nd + nd2) := ⟨_, rfl⟩
          have hWs : Aside0 (W.heap.size = w.heap.size) := ⟨by rw [hW]; rfl⟩
          rw [← hW] at B0 C0 C1 ⊢
          clear hW hne
          refine (reduced_wd A0 c0 l0 _ C0.out p0 n0 HW.out.1).mono ?_
          rintro e w2 ⟨g, rfl, hR, hge, hB⟩
          have RA := Aside0.mk hR
          have B2 := Aside0.mk (B0.out.trans (hB.mono B0.out.size))
          have C2 := Aside0.mk (Kd.C_below C1.out hB)
          have HGE := Aside0.mk hge
          clear hR hB C0 C1 B0 hge
          go_wp2_with fail
          refine (reduced_wd A1 c1 l1 _ C2.out p1 n1 HW.out.2).mono ?_
          rintro e w3 ⟨h, rfl, hR, hge, hB⟩
          have hgl := RA.out.lt p0
          have RA3 : Wd w3 w.heap.size (fun _ => True) g l0.length l0.length (fun j => md (l0.getD j 0)) := by rw [← hWs.out]; exact RA.out.block (hB.block g hgl)
          have RB3 : Wd w3 w.heap.size (fun _ => True) h l0.length l0.length (fun j => md (l1.getD j 0)) := by
            rw [HL.out]
            have := hR
            unfold Wd at this ⊢
            exact Kd.R_lower this B2.out.size
          have B3 := B2.out.trans (hB.mono B2.out.size)
          have hcall := convolved_wd HP.out (vl l0) (vl l1) g h l0.length l0.length _ _ w w3 B3 (by omega) (by rw [← hWs.out]; exact HGE.out) (Nat.le_trans B2.out.size hge) RA3 RB3
          rw [show (Value.slice (some ⟨h, 0, none⟩) l0.length l0.length) = .slice (some ⟨h, 0, none⟩) l1.length l1.length by rw [HL.out]] at hcall
          have HC := Aside0.mk hcall
          clear hR hge hB hgl RA3 RB3 B3 hcall C2 RA B2
          go_wp2_with fail
          refine HC.out.mono ?_
          rintro e w4 ⟨rfl, hR4, hB4⟩
          have R4 := Aside0.mk hR4
          have B4 := Aside0.mk hB4
          clear hR4 hB4 HC
          go_wp2
          go_ret2
          exact ⟨_, rfl, R4.out, B4.out⟩
        · rw [if_neg hl] at h
          obtain ⟨rfl, rfl⟩ : r1 = [] ∧ r2 = 6 := by
            have := Option.some.inj h
            simp only [Prod.mk.injEq] at this
            exact ⟨this.1.symm, this.2.symm⟩
          have hne : ((l0.length : Int) != (l1.length : Int)) = true := bne_iff_ne.2 (by omega)
          clear h hw hr0 hr1 hp hq g0 g1 hl
          go_enter Try.func28, Try.ntmps28
          go_wp2_with fail
          refine (walsh_good.calls _ _ _ G0.out).mono ?_
          rintro e w1 ⟨rfl, hD⟩
          obtain ⟨nd, rfl⟩ := hD.out
          go_wp2_with fail
          refine (walsh_good.calls _ _ _ G1.out).mono ?_
          rintro e w1 ⟨rfl, hD⟩
          obtain ⟨nd2, rfl⟩ := hD.out
          go_wp2_with fail
          go_ret2
          exact ⟨_, rfl, Kd.R_nil _ _ _ _ _, pw_below_drewN (Below.refl w.heap.size w) _⟩
      · rw [if_neg (fun h => hq h.2)] at h
        obtain ⟨rfl, rfl⟩ : r1 = [] ∧ r2 = 130 := by
          have := Option.some.inj h
          simp only [Prod.mk.injEq] at this
          exact ⟨this.1.symm, this.2.symm⟩
        rw [hp] at g0
        rw [show pwB l1.length = false by simpa using hq] at g1
        have G0 := Aside0.mk g0
        have G1 := Aside0.mk g1
        clear h hw hr0 hr1 hp hq g0 g1
        go_enter Try.func28, Try.ntmps28
        go_wp2_with fail
        refine (walsh_good.calls _ _ _ G0.out).mono ?_
        rintro e w1 ⟨rfl, hD⟩
        obtain ⟨nd, rfl⟩ := hD.out
        go_wp2_with fail
        refine (walsh_good.calls _ _ _ G1.out).mono ?_
        rintro e w1 ⟨rfl, hD⟩
        obtain ⟨nd2, rfl⟩ := hD.out
        go_wp2_with fail
        go_ret2
        exact ⟨_, rfl, Kd.R_nil _ _ _ _ _, pw_below_drewN (Below.refl w.heap.size w) _⟩
    · rw [if_neg (fun h => hp h.1)] at h
      obtain ⟨rfl, rfl⟩ : r1 = [] ∧ r2 = 130 := by
        have := Option.some.inj h
        simp only [Prod.mk.injEq] at this
        exact ⟨this.1.symm, this.2.symm⟩
      rw [show pwB l0.length = false by simpa using hp] at g0
      have G0 := Aside0.mk g0
      clear h hw hr0 hr1 hp g0 g1
      go_enter Try.func28, Try.ntmps28
      go_wp2_with fail
      refine (walsh_good.calls _ _ _ G0.out).mono ?_
      rintro e w1 ⟨rfl, hD⟩
      obtain ⟨nd, rfl⟩ := hD.out
      go_wp2_with fail
      go_ret2
      exact ⟨_, rfl, Kd.R_nil _ _ _ _ _, pw_below_drewN (Below.refl w.heap.size w) _⟩
  · rw [if_neg hw] at h; exact absurd h (by simp)
end Go.Proofs.Ytklkcenffajfeaa.A
