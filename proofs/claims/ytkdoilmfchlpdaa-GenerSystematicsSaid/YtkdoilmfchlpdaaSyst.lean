/- The document's Systematic: columns are turned till the top square is the identity. -/
import Derived.Test.YtkdoilmfchlpdaaGridC
import Derived.Test.YtkdoilmfchlpdaaChk
import Derived.Test.YtkdoilmfchlpdaaM12
import Derived.Test.YtkdoilmfchlpdaaRef02Fns
import Derived.Test.YtkdoilmfchlpdaaSystLaw
import Derived.Test.YtkdoilmfchlpdaaZ5
import Derived.Outline
import Derived.BigQuiet
import Derived.Deep.QuietTactic

namespace Go.Proofs.Ytkdoilmfchlpdaa.A
open Go.RowKit Go.Deep Go.Proofs.YtkdoilmfchlpdaaW.PrintWords Go.Proofs.YtkdoilmfchlpdaaW.PrintLast Go.Proofs.YtkdoilmfchlpdaaW.PrintMore Go.Proofs.Ytkdoilmfchlpdaa.R
set_option linter.unusedVariables false
set_option linter.unusedSimpArgs false
theorem infoSB : (Try.prog.info? 22).map (fun i => (i.zero, i.size, i.bytes)) = some (some (.slice none 0 0), 1, 24) := by kernel_rfl
theorem infoB : (Try.prog.info? 5).map (fun i => (i.zero, i.size, i.bytes)) = some (some (.int .u8 0), 1, 1) := by kernel_rfl
/-- Systematic, of the document. -/
def culletref11_Systematic.f (l : List (List Int)) : Option (List (List Int) × Int) :=
  if chk l = true then (if wid l ≤ l.length then (if byt l = true then (if (LA.gj (wid l) (trs (toM l)) (wid l)).2.1.length = wid l then some (mt l.length (wid l) (trs (LA.gj (wid l) (trs (toM l)) (wid l)).1), 0) else some ([], 102)) else none) else some ([], 101)) else some ([], 100)
/-- What is kept: the matrix by rows, its state told by columns. -/
structure SI (w wr : World) (g N m n : Nat) (b cp : Nat → Nat) (T : Nat → Nat → G8) : Prop where
  grid : GridC wr 22 5 w.heap.size g N m n b cp (trs T)
  bl : Below w.heap.size w wr
namespace SI
variable {w wr : World} {g N m n : Nat} {b cp : Nat → Nat} {T : Nat → Nat → G8}
theorem congr {T' : Nat → Nat → G8} (h : SI w wr g N m n b cp T) (e : ∀ d i, d < n → i < m → T d i = T' d i) : SI w wr g N m n b cp T' := ⟨h.grid.congr (fun i d hi hd => e d i hd hi), h.bl⟩
theorem drawn {wr' : World} (h : SI w wr g N m n b cp T) (hd : Drawn0 wr wr') : SI w wr' g N m n b cp T := by
  obtain ⟨k, rfl⟩ := hd.out
  exact ⟨h.grid.drewN k, pw_below_drewN h.bl k⟩
theorem drew (h : SI w wr g N m n b cp T) : SI w wr.drew g N m n b cp T := ⟨h.grid.drew, h.bl.drew⟩
theorem put (h : SI w wr g N m n b cp T) {i d : Nat} (hi : i < m) (hd : d < n) (v : G8) : SI w (wr.setCell ⟨b i, d, none⟩ (.int .u8 (v.1 : Nat))) g N m n b cp (fun a c => if a = d ∧ c = i then v else T a c) :=
  ⟨(h.grid.put hi hd v).congr (fun a c _ _ => by
    show (if a = i ∧ c = d then v else T c a) = (if c = d ∧ a = i then v else T c a)
    by_cases e : a = i ∧ c = d
    · rw [if_pos e, if_pos ⟨e.2, e.1⟩]
    · rw [if_neg e, if_neg (fun h => e ⟨h.2, h.1⟩)]), h.bl.setCell (h.grid.geb i hi) _⟩
end SI
theorem syst_inv {a : G8} (h : a ≠ 0) (w : World) : Calls Try.prog 79 #[.int .u8 (a.1 : Nat)] w fun e w' => e = .returned (.tuple #[.int .u8 ((LA.Fld.iv a).1 : Nat), .int .i64 0]) ∧ Drawn0 w w' := by
  obtain ⟨k, hk⟩ := (RefInv8 a.2 (g8_ne h)).rounds
  exact culletref02_Inv.calls k _ _ _ w hk
theorem syst_mul (a b : G8) (w : World) : Calls Try.prog 81 #[.int .u8 (a.1 : Nat), .int .u8 (b.1 : Nat)] w fun e w' => e = .returned (.int .u8 ((a * b).1 : Nat)) ∧ Drawn0 w w' := by
  obtain ⟨k, hk⟩ := (RefMul8 a.2 b.2).rounds
  exact culletref02_Mul.calls k _ _ _ w hk
set_option maxHeartbeats 8000000 in
set_option maxRecDepth 100000 in
theorem culletref11_Systematic.calls (A0 : Option Addr) (c0 : Nat) (l0 : List (List Int)) (r1 : List (List Int)) (r2 : Int) (w : World) (hr0 : Kd.C (Kd.slice 5 (Kd.int .u8)) w A0 l0.length l0) (hc0 : l0.length ≤ c0) (h : culletref11_Systematic.f l0 = some (r1, r2)) :
    Calls Try.prog 78 #[.slice A0 l0.length c0] w fun e w' => ∃ v0_ : Value, e = .returned (.tuple #[v0_, .int .i64 r2]) ∧ Kd.S (Kd.slice 5 (Kd.int .u8)) 22 w' w.heap.size (fun _ => True) v0_ r1 ∧ Below w.heap.size w w' := by
  obtain ⟨k0, hk0⟩ := (Form_any l0).rounds
  unfold culletref11_Systematic.f at h
  have H0 := Aside0.mk hr0
  have HK0 := Aside0.mk hk0
  clear hr0 hk0
  by_cases hc : chk l0 = true
  rotate_left
  · rw [if_neg hc] at h
    obtain ⟨rfl, rfl⟩ : r1 = [] ∧ r2 = 100 := by
      have := Option.some.inj h
      simp only [Prod.mk.injEq] at this
      exact ⟨this.1.symm, this.2.symm⟩
    have HK1 := Aside0.mk (show culletref11_form.f k0 l0 = some false by rw [HK0.out]; simpa using hc)
    clear h hc
    go_enter Try.func78, Try.ntmps78
    go_wp2_with fail
    refine (culletref11_form.calls k0 _ c0 l0 _ _ H0.out hc0 HK1.out).mono ?_
    rintro e w1 ⟨rfl, hD⟩
    obtain ⟨n1, rfl⟩ := hD.out
    go_wp2_with fail
    go_ret2
    exact ⟨_, rfl, Kd.S_nil _ _ _ _ _, pw_below_drewN (Below.refl w.heap.size w) n1⟩
  rw [if_pos hc] at h
  have HK1 := Aside0.mk (show culletref11_form.f k0 l0 = some true by rw [HK0.out, hc])
  obtain ⟨am1, am2, aw1, aw2, -⟩ := chk_iff.1 hc
  obtain ⟨ad, rfl, fa, ca, hda⟩ : ∃ ad, A0 = some ad ∧ ∃ (f : Addr) (cp : Nat), w.cell? ad = some (.slice (some f) (wid l0) cp) := first_row am1 aw1 H0.out
  have am1' : 0 < l0.length := am1
  by_cases hwl : wid l0 ≤ l0.length
  rotate_left
  · rw [if_neg hwl] at h
    obtain ⟨rfl, rfl⟩ : r1 = [] ∧ r2 = 101 := by
      have := Option.some.inj h
      simp only [Prod.mk.injEq] at this
      exact ⟨this.1.symm, this.2.symm⟩
    clear h hc
    go_enter Try.func78, Try.ntmps78
    go_wp2_with fail
    refine (culletref11_form.calls k0 _ c0 l0 _ _ H0.out hc0 HK1.out).mono ?_
    rintro e w1 ⟨rfl, hD⟩
    obtain ⟨n1, rfl⟩ := hD.out
    go_wp2_with fail
    all_goals first
      | (go_ret2; exact ⟨_, rfl, Kd.S_nil _ _ _ _ _, pw_below_drewN (Below.refl w.heap.size w) n1⟩)
      | (exfalso; omega)
  rw [if_pos hwl] at h
  by_cases hb : byt l0 = true
  rotate_left
  · rw [if_neg hb] at h; exact absurd h (by simp)
  rw [if_pos hb] at h
  have q0 := H0.out
  rw [toM_eq hc hb] at q0
  obtain ⟨ad', e', hR0⟩ := rdm_of_C (by omega) (by omega) q0
  obtain rfl := Option.some.inj e'
  obtain ⟨m, hm⟩ : ∃ m, m = l0.length := ⟨_, rfl⟩
  obtain ⟨n, hn⟩ : ∃ n, n = wid l0 := ⟨_, rfl⟩
  obtain ⟨M, hM⟩ : ∃ M, M = toM l0 := ⟨_, rfl⟩
  have HF := Aside0.mk (fun W (hB : Below w.heap.size w W) => culletref11_form.calls k0 _ c0 l0 _ W (Kd.C_below H0.out hB) hc0 HK1.out)
  rw [← hm, ← hn, ← hM] at hR0 h
  rw [← hm] at am1 am2 am1' hc0 hwl HF ⊢
  rw [← hn] at aw1 aw2 hda hwl
  have HR0 := Aside0.mk hR0
  have HH := Aside0.mk h
  clear h hc hb q0 e' hR0 hm hn hM H0 HK0 HK1
  obtain ⟨i5, hi5, hz5, hs5, hb5⟩ := info_parts infoB
  obtain ⟨i22, hi22, hz22, hs22, hb22⟩ := info_parts infoSB
  have D5 := Aside0.mk (And.intro hi5 (And.intro hz5 (And.intro hs5 hb5)))
  have D22 := Aside0.mk (And.intro hi22 (And.intro hz22 (And.intro hs22 hb22)))
  clear hi5 hz5 hs5 hb5 hi22 hz22 hs22 hb22
  have hmn1 : decide (m < n) = false := decide_eq_false (by omega)
  have hmn2 : decide ((m : Int) < (n : Int)) = false := decide_eq_false (by omega)
  go_enter Try.func78, Try.ntmps78
  go_wp2_with fail
  refine (HF.out w (Below.refl _ _)).mono ?_
  rintro e w1 ⟨rfl, hD⟩
  obtain ⟨n1, rfl⟩ := hD.out
  go_wp2_with fail
  have B0 := Aside0.mk (pw_below_drewN (Below.refl w.heap.size w) n1)
  have C0 : Aside0 (RowsC w (w.drewN n1) 22 5 (.slice none 0 0) 0 n (fun _ => 0) (fun _ => 0) M) := ⟨⟨own_nil _ _ _ _, fun i hi => by omega, fun i hi => by omega, fun i j hi => by omega, fun i hi => by omega, B0.out⟩⟩
  clear hD hda hmn1 hmn2
  generalize w.drewN n1 = W0 at B0 C0 ⊢
  go_loopg [4, 6] m (fun kq v4 v6 wr => ∃ (k : Nat) (b cp : Nat → Nat), kq = m - k ∧ k ≤ m ∧ v6 = .int .i64 (k : Int) ∧ RowsC w wr 22 5 v4 k n b cp M)
  case atStart => exact ⟨0, _, _, rfl, Nat.zero_le _, rfl, C0.out⟩
  case round => as_aux_lemma =>
    obtain ⟨k, b, cp, rfl, hk, rfl, hC⟩ := hrel
    have C1 := Aside0.mk hC
    clear hC C0 B0
    by_cases hlt : k < m
    · obtain ⟨f0, p0, hr0⟩ := HR0.out
      obtain ⟨ha1, ha2, ha3⟩ := hr0 k hlt
      have ha1' := pw_cell_below C1.out.bl ha1
      have A3 := Aside0.mk (fun j (hj : j < n) => pw_cell_below C1.out.bl (ha3 j hj))
      have A1 := Aside0.mk (ha1')
      obtain ⟨fk, hfk⟩ : ∃ fk, fk = f0 k := ⟨_, rfl⟩
      obtain ⟨pk, hpk⟩ : ∃ pk, pk = p0 k := ⟨_, rfl⟩
      rw [← hfk] at A3 ha1'
      rw [← hpk] at ha1' ha2
      clear ha1 ha3 hr0 A1 hfk hpk
      have ha1'' := pw_cell_below ((Below.refl wr.heap.size wr).alloc (Nat.le_refl _) (.cells #[] 5)) ha1'
      clear ha1'
      have C2 := Aside0.mk (C1.out.alloc (.cells #[] 5))
      go_wp2_with (at_builtin; refine wpList_append_grows _ rfl _ _ 22 rfl 5 i5 (.int .u8 0) 1 1 Try.underlying22 D5.out.1 D5.out.2.1 D5.out.2.2.1 D5.out.2.2.2 rfl (by decide) _ 0 0 [] rfl (fun h => ⟨rfl, rfl⟩) rfl (fun _ _ j u hj => by simp at hj) fk n pk ((List.range n).map fun j => Value.int .u8 ((M k j).1 : Nat)) rfl ?b1 ?b2 ?b3 ?b4 ?b5 ?b6 ?_)
      case b1 => simp
      case b2 =>
        intro j u hj
        have hjn : j < n := by have := (List.getElem?_eq_some_iff.1 hj).1; simpa using this
        rw [List.getElem?_map, List.getElem?_range hjn] at hj
        have hu : Value.int .u8 ((M k j).1 : Nat) = u := Option.some.inj hj
        rw [← hu]
        exact pw_cell_below ((Below.refl wr.heap.size wr).alloc (Nat.le_refl _) _) (A3.out j hjn)
      case b3 =>
        intro u hu
        obtain ⟨j, _, rfl⟩ := List.mem_map.1 hu
        rfl
      case b4 => omega
      case b5 => unfold maxLen; omega
      case b6 => omega
      intro v1 w1 hown1 hgrow1
      have O1 : Aside0 (w1.ownsRow (wr.alloc (.cells #[] 5)).heap.size 5 1 v1 n ((List.range n).map fun j => Value.int .u8 ((M k j).1 : Nat))) := ⟨by rw [show (wr.alloc (.cells #[] 5)).heap.size = wr.heap.size + 1 by simp]; exact hown1⟩
      have G1 := Aside0.mk hgrow1
      obtain ⟨g1, cc1, rfl⟩ : ∃ g c, v1 = .slice (some ⟨g, 0, none⟩) n c := by
        rcases O1.out.2 with ⟨-, hz⟩ | ⟨g, c, cur, e, _⟩
        · omega
        · exact ⟨g, c, e⟩
      have C3 := Aside0.mk ((C2.out.grown hgrow1).alloc (.cells #[.slice (some ⟨g1, 0, none⟩) n cc1] 22))
      clear hown1 hgrow1
      go_wp2_with (at_builtin; refine wpList_append_own _ rfl _ _ 25 rfl w.heap.size 22 i22 (.slice none 0 0) 1 24 Try.underlying25 D22.out.1 D22.out.2.1 D22.out.2.2.1 D22.out.2.2.2 rfl (by decide) _ _ _ rfl C3.out.own ⟨w1.heap.size, 0, none⟩ 1 1 [.slice (some ⟨g1, 0, none⟩) n cc1] rfl rfl ?d1 ?d2 ?d3 ?d4 ?d5 ?_)
      case d1 =>
        intro j u hj
        match j, hj with
        | 0, hj => simp at hj; subst hj; simp [Addr.add]
      case d2 =>
        intro u hu
        simp at hu; subst hu
        rfl
      case d3 => unfold maxLen; omega
      case d4 => omega
      case d5 => exact C3.out.bl.size
      intro v2 w2 hown2 hgrow2 _
      obtain ⟨g2, c2, hv1, hC4⟩ := C2.out.step (by decide) aw1 G1.out O1.out hgrow2 hown2
      have C4 := Aside0.mk hC4
      clear hown2 hgrow2 C3 C2 C1 O1 G1 A3 ha1'' ha2 hC4
      clear hv1
      go_wp2_with fail
      go_roundg (m - (k + 1))
      case measure => omega
      case rel => exact ⟨k + 1, _, _, rfl, by omega, by go_num, C4.out⟩
    · obtain rfl : k = m := by omega
      obtain ⟨g, N, rfl, hN, hG⟩ := C1.out.grid (by decide) am1'
      have S0 : Aside0 (SI w wr g N k n b cp (LA.gj n (trs M) 0).1) := ⟨⟨hG, C1.out.bl⟩⟩
      have HN := Aside0.mk hN
      clear hG hN C1 HR0 HF
      go_wp2_with fail
      go_loopg [7, 8, 9, 10, 11, 12, 13, 14, 15] n (fun kq v7 v8 v9 v10 v11 v12 v13 v14 v15 wr => ∃ r : Nat, kq = n - r ∧ r ≤ n ∧ v7 = .int .i64 (r : Int) ∧ Aside0 ((LA.gj n (trs M) r).2.1.length = r) ∧ SI w wr g N k n b cp (LA.gj n (trs M) r).1)
      case atStart => exact ⟨0, rfl, Nat.zero_le _, rfl, ⟨rfl⟩, S0.out⟩
      case round => as_aux_lemma =>
        obtain ⟨r, rfl, hr, rfl, HL, hS⟩ := hrel
        have S1 := Aside0.mk hS
        clear hS S0
        obtain ⟨T, ps, d, hs⟩ : ∃ T ps d, LA.gj n (trs M) r = (T, ps, d) := ⟨_, _, _, rfl⟩
        have hsucc : LA.gj n (trs M) (r + 1) = LA.turn n (LA.gj n (trs M) r) r := rfl
        rw [hs] at S1 HL hsucc
        have HSU := Aside0.mk hsucc
        have HSS := Aside0.mk hs
        have HPL : Aside0 (ps.length = r) := ⟨HL.out⟩
        clear hsucc hs HL
        by_cases hrn : r < n
        · go_wp2_with fail
          go_loopg [8] (n + 1 - r) (fun kr v8 wr => ∃ q : Nat, kr = n + 1 - q ∧ r ≤ q ∧ q ≤ n ∧ v8 = .int .i64 (q : Int) ∧ Aside0 (∀ d, r ≤ d → d < q → T d r = 0) ∧ SI w wr g N k n b cp T)
          case atStart => exact ⟨r, rfl, Nat.le_refl _, hr, rfl, ⟨fun d h1 h2 => by omega⟩, S1.out⟩
          case round => as_aux_lemma =>
            obtain ⟨q, rfl, hrq, hqn, rfl, hz, hS⟩ := hrel
            have S2 := Aside0.mk hS
            clear hS S1
            by_cases hq : q < n
            · have hc1 := S2.out.grid.hcell (show r < k by omega)
              have hc2 := S2.out.grid.rcell (show r < k by omega) hq
              have e2 : trs T r q = T q r := rfl
              rw [e2] at hc2
              by_cases h0 : T q r = 0
              · have h0' : (((T q r).v : Int) == 0) = true := by rw [h0]; rfl
                have H00 := Aside0.mk h0
                clear h0 e2
                go_wp2_with fail
                go_roundg (n + 1 - (q + 1))
                case measure => omega
                case rel =>
                  exact ⟨q + 1, rfl, by omega, by omega, by go_num, ⟨fun d h1 h2 => by
                    by_cases e : d = q
                    · rw [e]; exact H00.out
                    · exact hz.out d h1 (by omega)⟩, S2.out⟩
              · have h0' : (((T q r).v : Int) == 0) = false := beq_eq_false_iff_ne.2 (by have := g8_ne h0; omega)
                have H00 := Aside0.mk h0
                have hqn' : ((q : Int) == (n : Int)) = false := beq_eq_false_iff_ne.2 (by omega)
                clear h0 e2
                go_wp2_with fail
                refine (syst_inv H00.out _).mono ?_
                rintro e w3 ⟨rfl, hD⟩
                have S3 := Aside0.mk (S2.out.drawn hD)
                clear hD S2 hc1 hc2 h0' hqn'
                go_wp2_with fail
                have hpiv : LA.sw T r q r r = T q r := by unfold LA.sw; rw [if_pos rfl]
                obtain ⟨ov, hov⟩ : ∃ ov, ov = LA.Fld.iv (T q r) := ⟨_, rfl⟩
                rw [← hov]
                obtain ⟨T2, hT2⟩ : ∃ T2, T2 = LA.scl (LA.sw T r q) r r := ⟨_, rfl⟩
                have HT2 := Aside0.mk (show ∀ a i, T2 a i = if a = r then ov * T q i else LA.sw T r q a i from fun a i => by
                  rw [hT2, hov]
                  unfold LA.scl
                  by_cases e : a = r
                  · rw [if_pos e, if_pos e, hpiv]
                    unfold LA.sw
                    rw [if_pos rfl]
                  · rw [if_neg e, if_neg e])
                have HTT := Aside0.mk hT2
                clear hpiv hov hT2
                have hrk : r < k := by omega
                have S4 := Aside0.mk (S3.out.congr (T' := fun d i => if i < 0 then T2 d i else T d i) (fun d i _ _ => by rw [if_neg (by omega)]))
                clear S3
                go_loopg [12] k (fun kr v12 wr => ∃ i : Nat, kr = k - i ∧ i ≤ k ∧ v12 = .int .i64 (i : Int) ∧ SI w wr g N k n b cp (fun d a => if a < i then T2 d a else T d a))
                case atStart => exact ⟨0, rfl, Nat.zero_le _, rfl, S4.out⟩
                case round => as_aux_lemma =>
                  obtain ⟨i, rfl, hi, rfl, hS⟩ := hrel
                  have S5 := Aside0.mk hS
                  clear hS S4
                  by_cases hik : i < k
                  · have hc1 := S5.out.grid.hcell hik
                    have hc2 := S5.out.grid.rcell hik hq
                    have hc3 := S5.out.grid.rcell hik hrn
                    have e2 : trs (fun d a => if a < i then T2 d a else T d a) i q = T q i := if_neg (Nat.lt_irrefl i)
                    have e3 : trs (fun d a => if a < i then T2 d a else T d a) i r = T r i := if_neg (Nat.lt_irrefl i)
                    rw [e2] at hc2
                    rw [e3] at hc3
                    have hf2 := S5.out.grid.rfrozen hik q
                    have hf3 := S5.out.grid.rfrozen hik r
                    have P1 := S5.out.put hik hrn (T q i)
                    obtain ⟨u4, hc4⟩ : ∃ u, (wr.setCell ⟨b i, r, none⟩ (.int .u8 ((T q i).1 : Nat))).cell? ⟨b i, q, none⟩ = some u := ⟨_, P1.grid.rcell hik hq⟩
                    have P2 := Aside0.mk ((P1.put hik hq (T r i)).congr (T' := fun d a => if a < i then T2 d a else if a = i then LA.sw T r q d a else T d a) (fun d a hd ha => by
                      show (if d = q ∧ a = i then T r i else (if d = r ∧ a = i then T q i else (if a < i then T2 d a else T d a))) = _
                      unfold LA.sw
                      by_cases ea : a = i
                      · rw [if_neg (show ¬ a < i by omega), if_neg (show ¬ a < i by omega), if_pos ea, ea]
                        by_cases e1 : d = q
                        · rw [if_pos ⟨e1, rfl⟩]
                          by_cases e4 : d = r
                          · rw [if_pos e4, ← e4, ← e1]
                          · rw [if_neg e4, if_pos e1]
                        · rw [if_neg (fun h => e1 h.1)]
                          by_cases e4 : d = r
                          · rw [if_pos ⟨e4, rfl⟩, if_pos e4]
                          · rw [if_neg (fun h => e4 h.1), if_neg e4, if_neg e1]
                      · rw [if_neg (fun h => ea h.2), if_neg (fun h => ea h.2), if_neg ea])).drew
                    clear P1 e2 e3
                    go_wp2_with fail
                    go_region
                    clear S5 hc1 hc2 hc3 hc4 hf2 hf3
                    generalize ((wr.setCell ⟨b i, r, none⟩ (.int .u8 ((T q i).1 : Nat))).setCell ⟨b i, q, none⟩ (.int .u8 ((T r i).1 : Nat))).drew = wr2 at P2 ⊢
                    have hc1 := P2.out.grid.hcell hik
                    have hc3 := P2.out.grid.rcell hik hrn
                    have e3 : trs (fun d a => if a < i then T2 d a else if a = i then LA.sw T r q d a else T d a) i r = T q i := by
                      show (if i < i then T2 r i else if i = i then LA.sw T r q r i else T r i) = _
                      rw [if_neg (Nat.lt_irrefl i), if_pos rfl]
                      unfold LA.sw
                      rw [if_pos rfl]
                    rw [e3] at hc3
                    have hf3 := P2.out.grid.rfrozen hik r
                    clear e3
                    go_wp2_with fail
                    refine wp_region_quiet_tail 15 (by kernel_rfl) (by kernel_rfl) ?_
                    simp only [List.take_succ_cons, List.take_zero, List.drop_succ_cons, List.drop_zero]
                    repeat (quiet_step ((go_at_call 81; exact quiet_drawn (syst_mul (T q i) ov _))))
                    refine wpQuiet_nil ?_
                    intro wq hq2
                    obtain ⟨nq, rfl⟩ := hq2
                    go_wp2_with fail
                    have S6 := Aside0.mk (((P2.out.drawn ⟨⟨nq, rfl⟩⟩).put hik hrn (T q i * ov)).congr (T' := fun d a => if a < i + 1 then T2 d a else T d a) (fun d a hd ha => by
                      show (if d = r ∧ a = i then T q i * ov else (if a < i then T2 d a else if a = i then LA.sw T r q d a else T d a)) = _
                      by_cases ea : a = i
                      · rw [if_neg (show ¬ a < i by omega), if_pos (show a < i + 1 by omega), if_pos ea, HT2.out, ea]
                        by_cases e1 : d = r
                        · rw [if_pos ⟨e1, rfl⟩, if_pos e1, LA.Fld.mul_comm]
                        · rw [if_neg (fun h => e1 h.1), if_neg e1]
                      · rw [if_neg (fun h => ea h.2), if_neg ea]
                        by_cases e1 : a < i
                        · rw [if_pos e1, if_pos (by omega)]
                        · rw [if_neg e1, if_neg (by omega)]))
                    clear P2 hc1 hc3 hf3
                    go_roundg (k - (i + 1))
                    case measure => omega
                    case rel => exact ⟨i + 1, rfl, by omega, by go_num, S6.out⟩
                  · obtain rfl : i = k := by omega
                    have S6 := Aside0.mk (S5.out.congr (T' := fun d a => if d < 0 then LA.clr T2 r r d a else T2 d a) (fun d a _ ha => by rw [if_pos ha, if_neg (by omega)]))
                    clear S5 HT2
                    go_wp2_with fail
                    go_loopg [13, 14, 15] n (fun kr v13 v14 v15 wr => ∃ c : Nat, kr = n - c ∧ c ≤ n ∧ v13 = .int .i64 (c : Int) ∧ SI w wr g N i n b cp (fun d a => if d < c then LA.clr T2 r r d a else T2 d a))
                    case atStart => exact ⟨0, rfl, Nat.zero_le _, rfl, S6.out⟩
                    case round => as_aux_lemma =>
                      obtain ⟨c, rfl, hcn, rfl, hS⟩ := hrel
                      have S7 := Aside0.mk hS
                      clear hS S6
                      by_cases hcl : c < n
                      · have hc1 := S7.out.grid.hcell hrk
                        have hc2 := S7.out.grid.rcell hrk hcl
                        have e2 : trs (fun d a => if d < c then LA.clr T2 r r d a else T2 d a) r c = T2 c r := if_neg (Nat.lt_irrefl c)
                        rw [e2] at hc2
                        clear e2
                        have skip : (c = r ∨ T2 c r = 0) → Aside0 (SI w wr g N i n b cp (fun d a => if d < c + 1 then LA.clr T2 r r d a else T2 d a)) := fun hh => ⟨S7.out.congr (fun d a _ _ => by
                          by_cases e1 : d < c
                          · rw [if_pos e1, if_pos (by omega)]
                          · rw [if_neg e1]
                            by_cases e2 : d = c
                            · rw [if_pos (by omega), e2]
                              unfold LA.clr
                              by_cases e3 : c = r
                              · rw [if_pos e3, e3]
                              · rw [if_neg e3]
                                rcases hh with z | z
                                · exact absurd z e3
                                · rw [z, LA.zero_mul, LA.Fld.add_zero]
                            · rw [if_neg (by omega)])⟩
                        have SK := Aside0.mk skip
                        clear skip
                        by_cases hcr : c = r
                        · have e1 : ((c : Int) == (r : Int)) = true := beq_iff_eq.2 (by omega)
                          have S8 := SK.out (.inl hcr)
                          clear SK hcr
                          go_wp2_with fail
                          clear S7 hc1 hc2 e1
                          go_roundg (n - (c + 1))
                          case measure => omega
                          case rel => exact ⟨c + 1, rfl, by omega, by go_num, S8.out⟩
                        · have e1 : ((c : Int) == (r : Int)) = false := beq_eq_false_iff_ne.2 (by omega)
                          by_cases ht : T2 c r = 0
                          · have e2 : (((T2 c r).v : Int) == 0) = true := by rw [ht]; rfl
                            have S8 := SK.out (.inr ht)
                            clear SK ht hcr
                            go_wp2_with fail
                            clear S7 hc1 hc2 e1 e2
                            go_roundg (n - (c + 1))
                            case measure => omega
                            case rel => exact ⟨c + 1, rfl, by omega, by go_num, S8.out⟩
                          · have e2 : (((T2 c r).v : Int) == 0) = false := beq_eq_false_iff_ne.2 (by have := g8_ne ht; omega)
                            have HCR := Aside0.mk hcr
                            clear SK ht hcr
                            go_wp2_with fail
                            clear hc1 hc2 e1 e2
                            have S8 := Aside0.mk (S7.out.congr (T' := fun d a => if d < c ∨ d = c ∧ a < 0 then LA.clr T2 r r d a else T2 d a) (fun d a _ _ => by
                              by_cases e1 : d < c
                              · rw [if_pos e1, if_pos (.inl e1)]
                              · rw [if_neg e1, if_neg (by omega)]))
                            clear S7
                            go_loopg [15] i (fun kr v15 wr => ∃ j : Nat, kr = i - j ∧ j ≤ i ∧ v15 = .int .i64 (j : Int) ∧ SI w wr g N i n b cp (fun d a => if d < c ∨ d = c ∧ a < j then LA.clr T2 r r d a else T2 d a))
                            case atStart => exact ⟨0, rfl, Nat.zero_le _, rfl, S8.out⟩
                            case round => as_aux_lemma =>
                              obtain ⟨j, rfl, hj, rfl, hS⟩ := hrel
                              have S9 := Aside0.mk hS
                              clear hS S8
                              by_cases hji : j < i
                              · have hc1 := S9.out.grid.hcell hji
                                have hc2 := S9.out.grid.rcell hji hcl
                                have hc3 := S9.out.grid.rcell hji hrn
                                have e2 : trs (fun d a => if d < c ∨ d = c ∧ a < j then LA.clr T2 r r d a else T2 d a) j c = T2 c j := if_neg (by omega)
                                have e3 : trs (fun d a => if d < c ∨ d = c ∧ a < j then LA.clr T2 r r d a else T2 d a) j r = T2 r j := by
                                  show (if r < c ∨ r = c ∧ j < j then LA.clr T2 r r r j else T2 r j) = _
                                  by_cases e : r < c ∨ r = c ∧ j < j
                                  · rw [if_pos e]; unfold LA.clr; rw [if_pos rfl]
                                  · rw [if_neg e]
                                rw [e2] at hc2
                                rw [e3] at hc3
                                have hf2 := S9.out.grid.rfrozen hji c
                                have hbx : Go.bits .xor .u8 ((T2 c j).v : Int) ((T2 c r * T2 r j).v : Int) = (((T2 c j + T2 c r * T2 r j).v : Nat) : Int) := bits_xor8 (T2 c j).lt (T2 c r * T2 r j).lt
                                clear e2 e3
                                go_wp2_with fail
                                refine wp_region_quiet_tail 23 (by kernel_rfl) (by kernel_rfl) ?_
                                simp only [List.take_succ_cons, List.take_zero, List.drop_succ_cons, List.drop_zero]
                                repeat (quiet_step ((go_at_call 81; exact quiet_drawn (syst_mul (T2 c r) (T2 r j) _))))
                                refine wpQuiet_nil ?_
                                intro wq hq2
                                obtain ⟨nq, rfl⟩ := hq2
                                go_wp2_with fail
                                have S10 := Aside0.mk (((S9.out.drawn ⟨⟨nq, rfl⟩⟩).put hji hcl (T2 c j + T2 c r * T2 r j)).congr (T' := fun d a => if d < c ∨ d = c ∧ a < j + 1 then LA.clr T2 r r d a else T2 d a) (fun d a hd ha => by
                                  show (if d = c ∧ a = j then T2 c j + T2 c r * T2 r j else (if d < c ∨ d = c ∧ a < j then LA.clr T2 r r d a else T2 d a)) = _
                                  by_cases e1 : d = c ∧ a = j
                                  · rw [if_pos e1, if_pos (by omega), e1.1, e1.2]
                                    unfold LA.clr
                                    rw [if_neg HCR.out]
                                  · rw [if_neg e1]
                                    by_cases e4 : d < c ∨ d = c ∧ a < j
                                    · rw [if_pos e4, if_pos (by omega)]
                                    · rw [if_neg e4, if_neg (by omega)]))
                                clear S9 hc1 hc2 hc3 hf2 hbx
                                go_roundg (i - (j + 1))
                                case measure => omega
                                case rel => exact ⟨j + 1, rfl, by omega, by go_num, S10.out⟩
                              · obtain rfl : j = i := by omega
                                have S10 := Aside0.mk (S9.out.congr (T' := fun d a => if d < c + 1 then LA.clr T2 r r d a else T2 d a) (fun d a _ ha => by
                                  by_cases e4 : d < c ∨ d = c ∧ a < j
                                  · rw [if_pos e4, if_pos (by omega)]
                                  · rw [if_neg e4, if_neg (by omega)]))
                                clear S9
                                go_wp2_with fail
                                go_roundg (n - (c + 1))
                                case measure => omega
                                case rel => exact ⟨c + 1, rfl, by omega, by go_num, S10.out⟩
                      · obtain rfl : c = n := by omega
                        have S8 := Aside0.mk (S7.out.congr (T' := LA.clr T2 r r) (fun d a hd _ => by rw [if_pos hd]))
                        clear S7
                        go_wp2_with fail
                        have hnext := HSU.out.trans (LA.turn_some (q := q) (by rw [HPL.out]; exact hrq) hq H00.out (by rw [HPL.out]; exact hz.out))
                        rw [HPL.out, ← HTT.out] at hnext
                        go_roundg (c - (r + 1))
                        case measure => omega
                        case rel => exact ⟨r + 1, rfl, by omega, by go_num, ⟨by rw [hnext]; simp [HPL.out]⟩, by rw [hnext]; exact S8.out⟩
            · obtain rfl : q = n := by omega
              have hqn' : ((q : Int) == (q : Int)) = true := beq_iff_eq.2 rfl
              go_wp2_with fail
              go_ret2
              have hnext := HSU.out.trans (LA.turn_none (fun i h1 h2 => hz.out i (by rw [← HPL.out]; exact h1) h2))
              have hshort : (LA.gj q (trs M) q).2.1.length < q := gj_short (c := r) (by rw [hnext]; exact Nat.le_of_eq HPL.out) hrn
              have h' := HH.out
              rw [if_neg (by omega)] at h'
              obtain ⟨rfl, rfl⟩ : r1 = [] ∧ r2 = 102 := by
                have := Option.some.inj h'
                simp only [Prod.mk.injEq] at this
                exact ⟨this.1.symm, this.2.symm⟩
              exact ⟨_, rfl, Kd.S_nil _ _ _ _ _, S2.out.bl⟩
        · obtain rfl : r = n := by omega
          go_wp2_with fail
          go_ret2
          have h' := HH.out
          rw [HSS.out, if_pos HPL.out] at h'
          obtain ⟨rfl, rfl⟩ : r1 = mt k r (trs T) ∧ r2 = 0 := by
            have := Option.some.inj h'
            simp only [Prod.mk.injEq] at this
            exact ⟨this.1.symm, this.2.symm⟩
          exact ⟨_, rfl, S1.out.grid.toS HN.out trivial (fun _ _ => trivial), S1.out.bl⟩
end Go.Proofs.Ytkdoilmfchlpdaa.A
