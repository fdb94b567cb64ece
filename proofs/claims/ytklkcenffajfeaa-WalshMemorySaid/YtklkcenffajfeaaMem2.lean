/- WalshMemory: the walk. -/
import Derived.Test.YtklkcenffajfeaaMem1
namespace Go.Proofs.Ytklkcenffajfeaa.A
open Go.RowKit Go.Deep Go.Proofs.YtklkcenffajfeaaW.PrintWords Go.Proofs.YtklkcenffajfeaaW.PrintLast Go.Proofs.YtklkcenffajfeaaW.PrintMore Go.Proofs.Ytklkcenffajfeaa.R Go.Proofs.Ytklkcenffajfeaa.Q
set_option linter.unusedVariables false
set_option linter.unusedSimpArgs false
set_option maxRecDepth 100000
theorem inf33 : (Try.prog.info? 33).map (fun i => (i.zero, i.size, i.bytes)) = some (some (.int .u16 0), 1, 2) := by kernel_rfl
theorem inf22 : (Try.prog.info? 22).map (fun i => (i.zero, i.size, i.bytes)) = some (some (.slice none 0 0), 1, 24) := by kernel_rfl
theorem and7 (n : Int) : bits .and .i64 n 7 = n % 8 := by
  have h127 : (BitVec.ofInt 64 7).toNat = 2 ^ 3 - 1 := by decide
  have key : (BitVec.ofInt 64 n &&& BitVec.ofInt 64 7).toNat = (n % ((2 ^ 64 : Nat) : Int)).toNat % 2 ^ 3 := by
    rw [BitVec.toNat_and, BitVec.toNat_ofInt, h127, Nat.and_two_pow_sub_one_eq_mod]
  show IntKind.i64.wrap ((BitVec.ofInt 64 n &&& BitVec.ofInt 64 7).toNat : Nat) = n % 8
  rw [key, IntKind.wrap_i64]
  omega
theorem okW_mem {l : List Int} (h : ∀ x ∈ l, 0 ≤ x ∧ x ≤ 65535) : okW l = true := by
  unfold okW
  rw [List.all_eq_true]
  intro x hx
  obtain ⟨h1, h2⟩ := h x hx
  rw [decide_eq_true h1, decide_eq_true h2]; rfl
theorem x1_ok {x : Int} (h : 0 ≤ x ∧ x ≤ 65535) : 0 ≤ bits .xor .u16 x 1 ∧ bits .xor .u16 x 1 ≤ 65535 := by
  obtain ⟨n, rfl⟩ := Int.eq_ofNat_of_zero_le h.1
  have := bits_xor16 (a := n) (b := 1) (by omega) (by decide)
  rw [show ((1 : Nat) : Int) = 1 from rfl] at this
  rw [this]
  have := xor16 (a := n) (b := 1) (by omega) (by decide)
  omega
def mw1 (i p : Nat) : Int := IntKind.u16.wrap (4096 * (i : Int) + ((p % 4000 : Nat) : Int))
def mw2 (i : Nat) : Int := IntKind.u16.wrap (60000 + (i : Int))
def nt (i p : Nat) : List Int := List.replicate p (mw2 i)
theorem nt_succ (i p : Nat) : nt i (p + 1) = nt i p ++ [mw2 i] := by unfold nt; rw [List.replicate_succ']
theorem nt_len (i p : Nat) : (nt i p).length = p := by simp [nt]
theorem nt_get {i p q : Nat} (h : q < p) : (nt i p).getD q 0 = mw2 i := by unfold nt; rw [List.getD_eq_getElem?_getD, List.getElem?_replicate, if_pos h]; rfl
def idx (p : Nat) : Nat := if p = 0 then 2 else p + 3
theorem idx_inj {p q : Nat} (h : idx p = idx q) : p = q := by unfold idx at h; split at h <;> split at h <;> omega
theorem idx_lt {p : Nat} (h : p < 10) : idx p < 13 := by unfold idx; split <;> omega
theorem idx_not (p : Nat) : idx p ≠ 0 ∧ idx p ≠ 1 ∧ idx p ≠ 3 := by unfold idx; split <;> omega
set_option maxHeartbeats 8000000 in
theorem memoryLaw (A0 : Option Addr) (c0 : Nat) (v : List Int) (r : Int) (w : World) (hv : Kd.C (Kd.int .u16) w A0 v.length v) (hc0 : v.length ≤ c0) (hl : v.length ≤ 70368744177664) (hok : ∀ x ∈ v, 0 ≤ x ∧ x ≤ 65535) :
    Calls Try.prog 9 #[.slice A0 v.length c0, .int .i64 r] w fun e w' => e = .returned (.bool true) ∧ Below w.heap.size w w' := by
  have HV := Aside0.mk (And.intro hv (And.intro hc0 (okW_mem hok)))
  have HO := Aside0.mk hok
  clear hv hc0 hok
  go_enter Try.func9, Try.ntmps9
  go_wp2_with fail
  (with_reducible refine (fixed_row w).mono ?_)
  rintro e w1 ⟨rfl, B1⟩
  have HB1 := Aside0.mk B1
  clear B1
  go_wp2_with fail
  (with_reducible refine (copied_row A0 c0 v w1 (Kd.C_below HV.out.1 HB1.out) HV.out.2.1 (by omega)).mono ?_)
  rintro e w2 ⟨Aa, ca, rfl, r2, B2⟩
  have HR2 := Aside0.mk (RowSet.snoc (RowSet.nil (W := w1) (k := .u16) (e := 33) (base := w1.heap.size)) B2 (Nat.le_refl _) r2)
  have HB2 := Aside0.mk (HB1.out.trans (B2.mono HB1.out.size))
  have HZ2 := Aside0.mk B2.size
  clear r2 B2
  go_wp2_with fail
  (with_reducible refine (copied_row A0 c0 v w2 (Kd.C_below HV.out.1 HB2.out) HV.out.2.1 (by omega)).mono ?_)
  rintro e w3 ⟨Ab, cb, rfl, r3, B3⟩
  have HR3 := Aside0.mk (RowSet.snoc HR2.out B3 HZ2.out r3)
  have HB3 := Aside0.mk (HB2.out.trans (B3.mono HB2.out.size))
  have HZ3 := Aside0.mk (Nat.le_trans HZ2.out B3.size)
  clear r3 B3 HR2
  go_wp2
  go_loopg [51] v.length (fun k v51 wr => ∃ (i : Nat) (yb : List Int), v51 = .int .i64 (i : Int) ∧ i ≤ v.length ∧ k = v.length - i ∧ RowSet wr .u16 33 w1.heap.size [((Aa, v.length, ca), v), ((Ab, v.length, cb), yb)] ∧ yb.length = v.length ∧ (∀ q, q < i → yb.getD q 0 = bits .xor .u16 (v.getD q 0) 1) ∧ (∀ q, i ≤ q → yb.getD q 0 = v.getD q 0) ∧ Below w.heap.size w wr ∧ w1.heap.size ≤ wr.heap.size)
  case atStart => exact ⟨0, v, rfl, Nat.zero_le _, rfl, HR3.out, rfl, fun q h => absurd h (Nat.not_lt_zero _), fun _ _ => rfl, HB3.out, HZ3.out⟩
  case round =>
  obtain ⟨i, yb, rfl, hi, rfl, hR, hyl, hy1, hy2, hB, hZ⟩ := hrel
  have HR := Aside0.mk (And.intro hR (And.intro hyl (And.intro hy1 (And.intro hy2 (And.intro hB hZ)))))
  clear hR hyl hy1 hy2 hB hZ
  by_cases hlt : i < v.length
  · have hlt0 : decide ((i : Int) < (v.length : Int)) = true := decide_eq_true (by omega)
    have hr := HR.out.1.at (i := 1) (h := (Ab, v.length, cb)) (x := yb) rfl
    obtain ⟨g, c3, hform⟩ := hr.form (by rw [HR.out.2.1]; omega)
    obtain ⟨hA, -, -⟩ := Prod.mk.inj hform |>.imp id Prod.mk.inj
    subst hA
    obtain ⟨hc, hf⟩ := hr.cell rfl i (by rw [HR.out.2.1]; exact hlt)
    rw [HR.out.2.2.2.1 i (Nat.le_refl _)] at hc
    obtain ⟨y, hy⟩ : ∃ y, y = v.getD i 0 := ⟨_, rfl⟩
    rw [← hy] at hc
    obtain ⟨z, hz⟩ : ∃ z, z = bits .xor .u16 y 1 := ⟨_, rfl⟩
    have e1 : bits .xor .u16 y 1 = z := hz.symm
    have HP := Aside0.mk (And.intro (HR.out.1.put (i := 1) (p := i) rfl z) (And.intro hy (And.intro hz (hr.ge g rfl))))
    have hpi : (0 : Int) ≤ (i : Int) ∧ (i : Int) < (v.length : Int) := by omega
    clear hy hz hr hform
    go_wp2
    go_roundg (v.length - (i + 1))
    case measure => omega
    case rel =>
      refine ⟨i + 1, yb.set i z, rfl, by omega, rfl, HP.out.1, by rw [List.length_set]; exact HR.out.2.1, fun q hq => ?_, fun q hq => ?_, HR.out.2.2.2.2.1.setCell (by have := HP.out.2.2.2; have := HB1.out.size; show w.heap.size ≤ g; omega) _, by have := HR.out.2.2.2.2.2; simpa [World.setCell] using this⟩
      · by_cases hqi : q = i
        · subst hqi
          rw [List.getD_eq_getElem?_getD, List.getElem?_set_self (by rw [HR.out.2.1]; exact hlt), ← HP.out.2.1, ← HP.out.2.2.1]; rfl
        · rw [List.getD_eq_getElem?_getD, List.getElem?_set_ne (fun e => hqi e.symm), ← List.getD_eq_getElem?_getD]; exact HR.out.2.2.1 q (by omega)
      · rw [List.getD_eq_getElem?_getD, List.getElem?_set_ne (by omega), ← List.getD_eq_getElem?_getD]; exact HR.out.2.2.2.1 q (by omega)
  have hlt0 : decide ((i : Int) < (v.length : Int)) = false := decide_eq_false (by omega)
  obtain rfl : i = v.length := by omega
  have HXB := Aside0.mk (And.intro HR.out.2.1 HR.out.2.2.1)
  have HR5 := Aside0.mk HR.out.1
  have HB5 := Aside0.mk HR.out.2.2.2.2.1
  have HZ5 := Aside0.mk HR.out.2.2.2.2.2
  have ha5 := (HR.out.1.at (i := 0) (h := (Aa, v.length, ca)) (x := v) rfl).C
  clear HR HR3 HB3 HZ3 HZ2 HB2
  obtain ⟨rT, hT, hTl⟩ := tr_yes HV.out.2.2
  obtain ⟨eT, heT⟩ : ∃ eT : Int, eT = if pwB v.length = true then 0 else 130 := ⟨_, rfl⟩
  rw [← heT] at hT
  have HT := Aside0.mk (And.intro hT (And.intro hTl heT))
  have T1 := Aside0.mk (trans_row Aa ca v rT eT wr ha5.2.2 ha5.2.1 hT)
  clear hT hTl heT ha5
  go_wp2_with fail
  (with_reducible refine T1.out.mono ?_)
  clear T1
  rintro e w6 ⟨Af, cf, rfl, r6, B6⟩
  have HR6 := Aside0.mk (RowSet.snoc HR5.out B6 HZ5.out r6)
  have HB6 := Aside0.mk (HB5.out.trans (B6.mono HB5.out.size))
  have HZ6 := Aside0.mk (Nat.le_trans HZ5.out B6.size)
  have C6 := Aside0.mk (copied_row Af cf rT w6 r6.C.2.2 r6.C.2.1 (by have := HT.out.2.1; omega))
  clear r6 B6 HR5 HB5 HZ5
  go_wp2_with fail
  (with_reducible refine C6.out.mono ?_)
  clear C6
  rintro e w7 ⟨Ak, ck, rfl, r7, B7⟩
  have HR7 := Aside0.mk (RowSet.snoc HR6.out B7 HZ6.out r7)
  have HB7 := Aside0.mk (HB6.out.trans (B7.mono HB6.out.size))
  have HZ7 := Aside0.mk (Nat.le_trans HZ6.out B7.size)
  clear r7 B7 HR6 HB6 HZ6
  have ha7 := (HR7.out.at (i := 0) (h := (Aa, v.length, ca)) (x := v) rfl).C
  have T7 := Aside0.mk (trans_row Aa ca v rT eT w7 ha7.2.2 ha7.2.1 HT.out.1)
  clear ha7
  go_wp2_with fail
  (with_reducible refine T7.out.mono ?_)
  clear T7
  rintro e w8 ⟨As, cs, rfl, r8, B8⟩
  have HR8 := Aside0.mk (RowSet.snoc HR7.out B8 HZ7.out r8)
  have HB8 := Aside0.mk (HB7.out.trans (B8.mono HB7.out.size))
  have HZ8 := Aside0.mk (Nat.le_trans HZ7.out B8.size)
  clear r8 B8 HR7 HB7 HZ7
  go_upto_region 13 with fail
  have hM := hdr_made (W := w8) (t := 22) (base := w1.heap.size) [(Af, rT.length, cf), (As, rT.length, cs)] HZ8.out (by simp)
  have hB := below_alloc (Below.refl w8.heap.size w8) (.cells ([(Af, rT.length, cf), (As, rT.length, cs)].map encH).toArray 22)
  have hcells : ([(Af, rT.length, cf), (As, rT.length, cs)].map encH).toArray = #[.slice Af rT.length cf, .slice As rT.length cs] := rfl
  rw [hcells] at hM hB
  generalize w8.alloc (.cells #[.slice Af rT.length cf, .slice As rT.length cs] 22) = w9 at hM hB ⊢
  have HM9 := Aside0.mk (show (Kd.scalar encH (fun _ => rfl)).R 22 w9 w1.heap.size (fun _ => True) (.slice (some ⟨w8.heap.size, 0, none⟩) 2 2) [(Af, rT.length, cf), (As, rT.length, cs)] from hM)
  have HR9 := Aside0.mk (HR8.out.below hB)
  have HB9 := Aside0.mk (HB8.out.trans (hB.mono HB8.out.size))
  have HZ9 := Aside0.mk (Nat.le_trans HZ8.out hB.size)
  clear hM hB hcells HR8 HB8 HZ8
  obtain ⟨r1, er1, hI, hIl⟩ := inv_yes HV.out.2.2
  have HI := Aside0.mk (And.intro hI hIl)
  clear hI hIl
  have ha9 := (HR9.out.at (i := 0) (h := (Aa, v.length, ca)) (x := v) rfl).C
  have T9 := Aside0.mk (inv_row Aa ca v r1 er1 w9 ha9.2.2 ha9.2.1 HI.out.1)
  clear ha9
  go_wp2_with fail
  (with_reducible refine T9.out.mono ?_)
  clear T9
  rintro e w10 ⟨A1, c1, rfl, r10, B10⟩
  have HR10 := Aside0.mk (RowSet.snoc HR9.out B10 HZ9.out r10)
  have HM10 := Aside0.mk (Kd.R_below HM9.out B10)
  have HB10 := Aside0.mk (HB9.out.trans (B10.mono HB9.out.size))
  have HZ10 := Aside0.mk (Nat.le_trans HZ9.out B10.size)
  clear r10 B10 HR9 HM9 HB9 HZ9
  obtain ⟨r2, er2, hC, hCl⟩ := conv_yes HV.out.2.2
  have HC := Aside0.mk (And.intro hC hCl)
  clear hC hCl
  have ha10 := (HR10.out.at (i := 0) (h := (Aa, v.length, ca)) (x := v) rfl).C
  have T10 := Aside0.mk (conv_row Aa ca v r2 er2 w10 ha10.2.2 ha10.2.1 HC.out.1)
  clear ha10
  go_wp2_with fail
  (with_reducible refine T10.out.mono ?_)
  clear T10
  rintro e w11 ⟨A2, c2, rfl, r11, B11⟩
  have HR11 := Aside0.mk (RowSet.snoc HR10.out B11 HZ10.out r11)
  have HM11 := Aside0.mk (Kd.R_below HM10.out B11)
  have HB11 := Aside0.mk (HB10.out.trans (B11.mono HB10.out.size))
  have HZ11 := Aside0.mk (Nat.le_trans HZ10.out B11.size)
  clear r11 B11 HR10 HM10 HB10 HZ10
  have HA := Aside0.mk (And.intro (Kd.R_alloc HM11.out (.cells #[.slice A1 r1.length c1, .slice A2 r2.length c2] 22)) (And.intro (blk_CH (hs := [(A1, r1.length, c1), (A2, r2.length, c2)]) (blk_new w11 (.cells #[.slice A1 r1.length c1, .slice A2 r2.length c2] 22 (0, 0))) (by simp)) (And.intro (show w1.heap.size ≤ (w11.alloc (.cells #[.slice A1 r1.length c1, .slice A2 r2.length c2] 22)).heap.size by have := HZ11.out; simp; omega) (below_alloc (Below.refl w11.heap.size w11) (.cells #[.slice A1 r1.length c1, .slice A2 r2.length c2] 22)))))
  go_upto_region 16 with (first
    | (refine Kd.R_append_row (w0 := w11.alloc (.cells #[.slice A1 r1.length c1, .slice A2 r2.length c2] 22)) encH (none, 0, 0) w1.heap.size rfl (.tmp 87) (.tmp 90) 52 22 (.slice none 0 0) 24 rfl Try.underlying52 inf22 rfl (by decide) (.slice (some ⟨w8.heap.size, 0, none⟩) 2 2) [(Af, rT.length, cf), (As, rT.length, cs)] [(A1, r1.length, c1), (A2, r2.length, c2)] (some ⟨w11.heap.size, 0, none⟩) 2 2 (fun _ => True) rfl rfl (fun _ _ => trivial) HA.out.1 HA.out.2.1 (Below.refl _ _) HA.out.2.2.1 (by simp) ?_
       intro v1 w12 hR hb hg hat
       obtain ⟨A3, c3, rfl⟩ := Kd.R_slice hR
       have HW := Aside0.mk (And.intro hR (And.intro hb (And.intro hg hat)))
       clear hR hb hg hat))
  have HM12 := Aside0.mk (show (Kd.scalar encH (fun _ => rfl)).R 22 w12 w1.heap.size (fun _ => True) (.slice A3 4 c3) [(Af, rT.length, cf), (As, rT.length, cs), (A1, r1.length, c1), (A2, r2.length, c2)] from HW.out.1)
  have HR12 := Aside0.mk (show RowSet w12 .u16 33 w1.heap.size _ from Lg.other (HR11.out.below HA.out.2.2.2) HA.out.1 (by decide) HW.out.2.2.1)
  have HB12 := Aside0.mk (((HB11.out.trans (HA.out.2.2.2.mono HB11.out.size))).grown HW.out.2.2.1 (by have := HB1.out.size; have := HA.out.2.2.1; omega) (fun b hb => by have := own_base (Kd.own_of_R HA.out.1) b hb; have := HB1.out.size; omega))
  have HZ12 := Aside0.mk (Nat.le_trans HA.out.2.2.1 HW.out.2.2.1.size)
  have HL7 := Aside0.mk (And.intro HT.out.2.1 (And.intro HI.out.2 HC.out.2))
  clear HW HA HR11 HM11 HB11 HZ11 HI HC
  simp only [List.nil_append, List.cons_append] at HR12
  obtain ⟨m7, hm7⟩ : ∃ m : Nat, bits .and .i64 r 7 = (m : Int) := ⟨(r % 8).toNat, by rw [and7]; omega⟩
  have hm7b : m7 ≤ 7 := by have := and7 r; omega
  go_wp2
  go_loopg [13, 18] 2 (fun k v13 v18 wr => ∃ (i : Nat) (L : List (Hd × List Int)) (gm : Hd), v13 = encH gm ∧ v18 = .int .i64 (i : Int) ∧ i ≤ 2 ∧ k = 2 - i ∧ L.length = 3 * i ∧ (∀ x ∈ L, x.2.length ≤ 65536) ∧ RowSet wr .u16 33 w1.heap.size ([((Aa, v.length, ca), v), ((Ab, v.length, cb), yb), ((Af, rT.length, cf), rT), ((Ak, rT.length, ck), rT), ((As, rT.length, cs), rT), ((A1, r1.length, c1), r1), ((A2, r2.length, c2), r2)] ++ L) ∧ (Kd.scalar encH (fun _ => rfl)).R 22 wr w1.heap.size (fun _ => True) (encH gm) ([(Af, rT.length, cf), (As, rT.length, cs), (A1, r1.length, c1), (A2, r2.length, c2)] ++ L.map (·.1)) ∧ Below w.heap.size w wr ∧ w1.heap.size ≤ wr.heap.size)
  case atStart => exact ⟨0, [], (A3, 4, c3), rfl, rfl, by omega, rfl, rfl, (fun x hx => absurd hx List.not_mem_nil), HR12.out, HM12.out, HB12.out, HZ12.out⟩
  case round =>
  clear HR12 HM12 HB12 HZ12
  obtain ⟨i, L, gm, rfl, rfl, hi, rfl, hLl, hL6, hR, hM, hB, hZ⟩ := hrel
  have HR := Aside0.mk (And.intro hR (And.intro hM (And.intro hB hZ)))
  have HLL := Aside0.mk (And.intro hLl hL6)
  clear hR hM hB hZ hLl hL6
  by_cases hlt : i < 2
  · have hlt0 : decide ((i : Int) < 2) = true := decide_eq_true (by omega)
    obtain ⟨r3, er3, hr3, hr3l⟩ := logs_yes hm7b
    obtain ⟨r4, hr4, hr4l⟩ := loc_yes hm7b
    obtain ⟨r5, er5, hr5, hr5l⟩ := prod_yes hm7b
    have HF := Aside0.mk (And.intro hr3 (And.intro hr4 (And.intro hr5 (And.intro hr3l (And.intro hr4l hr5l)))))
    clear hr3 hr4 hr5 hr3l hr4l hr5l
    go_wp2_with fail
    (with_reducible refine (logs_row _ r3 er3 _ HF.out.1).mono ?_)
    rintro e x1 ⟨A3', c3', rfl, q1, D1⟩
    have HQ1 := Aside0.mk (And.intro (RowSet.snoc HR.out.1 D1 HR.out.2.2.2 q1) (And.intro (Kd.R_below HR.out.2.1 D1) (And.intro (HR.out.2.2.1.trans (D1.mono HR.out.2.2.1.size)) (Nat.le_trans HR.out.2.2.2 D1.size))))
    clear q1 D1 HR
    have HA := Aside0.mk (And.intro (below_alloc (Below.refl x1.heap.size x1) (.cells #[.int .i64 0] 3)) (blk_Ci (k := .i64) (D := [0]) (blk_new x1 (.cells #[.int .i64 0] 3 (0, 0))) (by decide)))
    go_wp2_with fail
    (with_reducible refine (loc_row _ _ r4 0 _ HA.out.2 HF.out.2.1).mono ?_)
    rintro e x2 ⟨A4', c4', rfl, q2, D2⟩
    have D2' := HA.out.1.trans (D2.mono HA.out.1.size)
    have HQ2 := Aside0.mk (And.intro (RowSet.snoc HQ1.out.1 D2' HQ1.out.2.2.2 (q2.up HA.out.1.size)) (And.intro (Kd.R_below HQ1.out.2.1 D2') (And.intro (HQ1.out.2.2.1.trans (D2'.mono HQ1.out.2.2.1.size)) (Nat.le_trans HQ1.out.2.2.2 D2'.size))))
    clear q2 D2 D2' HQ1 HA
    have HA := Aside0.mk (And.intro (below_alloc (Below.refl x2.heap.size x2) (.cells #[.int .i64 0] 3)) (blk_Ci (k := .i64) (D := [0]) (blk_new x2 (.cells #[.int .i64 0] 3 (0, 0))) (by decide)))
    go_wp2_with fail
    (with_reducible refine (prod_row _ _ r5 er5 _ HA.out.2 HF.out.2.2.1).mono ?_)
    rintro e x3 ⟨A5', c5', rfl, q3, D3⟩
    have D3' := HA.out.1.trans (D3.mono HA.out.1.size)
    have HQ3 := Aside0.mk (And.intro (RowSet.snoc HQ2.out.1 D3' HQ2.out.2.2.2 (q3.up HA.out.1.size)) (And.intro (Kd.R_below HQ2.out.2.1 D3') (And.intro (HQ2.out.2.2.1.trans (D3'.mono HQ2.out.2.2.1.size)) (Nat.le_trans HQ2.out.2.2.2 D3'.size))))
    clear q3 D3 D3' HQ2 HA
    have HA := Aside0.mk (And.intro (Kd.R_alloc HQ3.out.2.1 (.cells #[.slice A3' r3.length c3', .slice A4' r4.length c4', .slice A5' r5.length c5'] 22)) (And.intro (blk_CH (hs := [(A3', r3.length, c3'), (A4', r4.length, c4'), (A5', r5.length, c5')]) (blk_new x3 (.cells #[.slice A3' r3.length c3', .slice A4' r4.length c4', .slice A5' r5.length c5'] 22 (0, 0))) (by simp)) (And.intro (show w1.heap.size ≤ (x3.alloc (.cells #[.slice A3' r3.length c3', .slice A4' r4.length c4', .slice A5' r5.length c5'] 22)).heap.size by have := HQ3.out.2.2.2; simp; omega) (below_alloc (Below.refl x3.heap.size x3) (.cells #[.slice A3' r3.length c3', .slice A4' r4.length c4', .slice A5' r5.length c5'] 22)))))
    go_wp2_with (first
      | (refine Kd.R_append_row (w0 := x3.alloc (.cells #[.slice A3' r3.length c3', .slice A4' r4.length c4', .slice A5' r5.length c5'] 22)) encH (none, 0, 0) w1.heap.size rfl (.tmp 116) (.tmp 120) 52 22 (.slice none 0 0) 24 rfl Try.underlying52 inf22 rfl (by decide) (encH gm) ([(Af, rT.length, cf), (As, rT.length, cs), (A1, r1.length, c1), (A2, r2.length, c2)] ++ L.map (·.1)) [(A3', r3.length, c3'), (A4', r4.length, c4'), (A5', r5.length, c5')] (some ⟨x3.heap.size, 0, none⟩) 3 3 (fun _ => True) rfl rfl (fun _ _ => trivial) HA.out.1 HA.out.2.1 (Below.refl _ _) HA.out.2.2.1 (by rw [List.length_append, List.length_map, HLL.out.1]; simp; omega) ?_
         intro v1 w12 hR hb hg hat
         obtain ⟨A3, c3, rfl⟩ := Kd.R_slice hR
         have hlen : ([(Af, rT.length, cf), (As, rT.length, cs), (A1, r1.length, c1), (A2, r2.length, c2)] ++ L.map (·.1) ++ [(A3', r3.length, c3'), (A4', r4.length, c4'), (A5', r5.length, c5')]).length = 7 + 3 * i := by
           rw [List.length_append, List.length_append, List.length_map, HLL.out.1]; simp; omega
         rw [hlen] at hR hat ⊢
         have HW := Aside0.mk (And.intro hR (And.intro hb (And.intro hg hat)))
         clear hR hb hg hat))
    go_roundg (2 - (i + 1))
    case measure => omega
    case rel =>
      have hR3 := Lg.other (HQ3.out.1.below HA.out.2.2.2) HA.out.1 (by decide) HW.out.2.2.1
      refine ⟨i + 1, L ++ [((A3', r3.length, c3'), r3), ((A4', r4.length, c4'), r4), ((A5', r5.length, c5'), r5)], (A3, 7 + 3 * i, c3), rfl, rfl, by omega, rfl, by rw [List.length_append, HLL.out.1]; simp; omega, fun x hx => ?_, ?_, ?_, ?_, Nat.le_trans HA.out.2.2.1 HW.out.2.2.1.size⟩
      · rcases List.mem_append.1 hx with hx | hx
        · exact HLL.out.2 x hx
        · simp only [List.mem_cons, List.not_mem_nil, or_false] at hx
          rcases hx with rfl | rfl | rfl
          · exact HF.out.2.2.2.1
          · exact HF.out.2.2.2.2.1
          · exact HF.out.2.2.2.2.2
      · have hR4 : RowSet w12 .u16 33 w1.heap.size _ := hR3
        rw [List.append_assoc, List.append_assoc, List.append_assoc] at hR4
        exact hR4
      · rw [List.map_append, ← List.append_assoc]; exact HW.out.1
      · exact (HQ3.out.2.2.1.trans (HA.out.2.2.2.mono HQ3.out.2.2.1.size)).grown HW.out.2.2.1 (by have := HB1.out.size; have := HA.out.2.2.1; omega) (fun b hb => by have := own_base (Kd.own_of_R HA.out.1) b hb; have := HB1.out.size; omega)
  have hlt0 : decide ((i : Int) < 2) = false := decide_eq_false (by omega)
  obtain rfl : i = 2 := by omega
  have HRW := Aside0.mk (And.intro HR.out.1 (And.intro HR.out.2.1 (And.intro HR.out.2.2.1 HR.out.2.2.2)))
  have s2 := (HR.out.1.at (i := 4) (h := (As, rT.length, cs)) (x := rT) rfl).C
  have s3 := (HR.out.1.at (i := 3) (h := (Ak, rT.length, ck)) (x := rT) rfl).C
  have S1 := Aside0.mk (same_row As Ak cs ck rT wr s2.2.2 s2.2.1 s3.2.2 s3.2.1 (by have := HT.out.2.1; omega))
  clear s2 s3 HR
  go_wp2_with fail
  (with_reducible refine S1.out.mono ?_)
  clear S1
  rintro e w' ⟨rfl, m1, rfl⟩
  have D1 := pw_below_drewN (Below.refl wr.heap.size wr) m1
  have a1 := ((HRW.out.1.below D1).at (i := 0) (h := (Aa, v.length, ca)) (x := v) rfl).C
  have S2 := Aside0.mk (same_row Aa A0 ca c0 v (wr.drewN m1) a1.2.2 a1.2.1 (Kd.C_below HV.out.1 (HRW.out.2.2.1.trans (D1.mono HRW.out.2.2.1.size))) HV.out.2.1 (by omega))
  clear a1 D1
  go_wp2_with fail
  (with_reducible refine S2.out.mono ?_)
  clear S2
  rintro e w' ⟨rfl, m2, rfl⟩
  go_upto_region 25 with fail
  have D2 : Below wr.heap.size wr ((wr.drewN m1).drewN m2) := pw_below_drewN (pw_below_drewN (Below.refl wr.heap.size wr) m1) m2
  rw [World.drewN_drewN] at D2
  generalize wr.drewN (m1 + m2) = v1 at D2 ⊢
  have hR := HRW.out.1.below D2
  have hM := Kd.R_below HRW.out.2.1 D2
  have hB := HRW.out.2.2.1.trans (D2.mono HRW.out.2.2.1.size)
  have hZ := Nat.le_trans HRW.out.2.2.2 D2.size
  obtain ⟨LL, hLL⟩ : ∃ LL, LL = [((Aa, v.length, ca), v), ((Ab, v.length, cb), yb), ((Af, rT.length, cf), rT), ((Ak, rT.length, ck), rT), ((As, rT.length, cs), rT), ((A1, r1.length, c1), r1), ((A2, r2.length, c2), r2)] ++ L := ⟨_, rfl⟩
  obtain ⟨MM, hMM⟩ : ∃ MM, MM = [(Af, rT.length, cf), (As, rT.length, cs), (A1, r1.length, c1), (A2, r2.length, c2)] ++ L.map (·.1) := ⟨_, rfl⟩
  rw [← hLL] at hR
  rw [← hMM] at hM
  have hl13 : LL.length = 13 := by rw [hLL, List.length_append, HLL.out.1]; rfl
  have hl10 : MM.length = 10 := by rw [hMM, List.length_append, List.length_map, HLL.out.1]; rfl
  have hidx : ∀ p, p < 10 → MM[p]? = some (rAt LL (idx p)).1 ∧ (rAt LL (idx p)).2.length ≤ 65536 := by
    intro p hp
    by_cases h4 : p < 4
    · rw [hMM, hLL]
      rcases (show p = 0 ∨ p = 1 ∨ p = 2 ∨ p = 3 by omega) with rfl | rfl | rfl | rfl
      · exact ⟨rfl, HT.out.2.1⟩
      · exact ⟨rfl, HT.out.2.1⟩
      · exact ⟨rfl, HL7.out.2.1⟩
      · exact ⟨rfl, HL7.out.2.2⟩
    · obtain ⟨q, rfl⟩ : ∃ q, p = q + 4 := ⟨p - 4, by omega⟩
      have hq : q < L.length := by rw [HLL.out.1]; omega
      have e1 : LL[idx (q + 4)]? = some L[q] := by
        rw [hLL, show idx (q + 4) = q + 7 by unfold idx; rw [if_neg (by omega)], List.getElem?_append_right (by simp)]
        simp only [List.length_cons, List.length_nil]
        rw [show q + 7 - (0 + 1 + 1 + 1 + 1 + 1 + 1 + 1) = q by omega, List.getElem?_eq_getElem hq]
      have e2 : MM[q + 4]? = some L[q].1 := by
        rw [hMM, List.getElem?_append_right (by simp)]
        simp only [List.length_cons, List.length_nil]
        rw [show q + 4 - (0 + 1 + 1 + 1 + 1) = q by omega, List.getElem?_map, List.getElem?_eq_getElem hq]; rfl
      rw [rAt_of e1]
      exact ⟨e2, HLL.out.2 _ (List.getElem_mem hq)⟩
  have hx0 : rAt LL 0 = ((Aa, v.length, ca), v) ∧ rAt LL 1 = ((Ab, v.length, cb), yb) ∧ rAt LL 3 = ((Ak, rT.length, ck), rT) := by rw [hLL]; exact ⟨rfl, rfl, rfl⟩
  have hLg : Lg v1 .u16 33 w1.heap.size 13 (fun j => (rAt LL j).1) (fun j => (rAt LL j).1) (fun j => (rAt LL j).2) (fun j => (rAt LL j).2) := by have := hR; unfold RowSet at this; rw [hl13] at this; exact this
  obtain ⟨hs, hhs⟩ : ∃ hs : Nat → Hd, hs = fun j => (rAt LL j).1 := ⟨_, rfl⟩
  obtain ⟨xs, hxs⟩ : ∃ xs : Nat → List Int, xs = fun j => (rAt LL j).2 := ⟨_, rfl⟩
  rw [← hhs, ← hxs] at hLg
  have hix : ∀ p, p < 10 → MM[p]? = some (hs (idx p)) ∧ (xs (idx p)).length ≤ 65536 := by rw [hhs, hxs]; exact hidx
  have h0 : hs 0 = (Aa, v.length, ca) ∧ xs 0 = v ∧ hs 1 = (Ab, v.length, cb) ∧ xs 1 = yb ∧ hs 3 = (Ak, rT.length, ck) ∧ xs 3 = rT := by
    rw [hhs, hxs]
    obtain ⟨e1, e2, e3⟩ := hx0
    simp only [e1, e2, e3, and_self]
  obtain ⟨gb, cbm, hgm⟩ : ∃ gb cb, gm = (some ⟨gb, 0, none⟩, 10, cb) := by
    obtain ⟨gb, cb, he, _⟩ := Kd.R_form hM (by omega)
    rw [hl10] at he
    exact ⟨gb, cb, encH_inj he⟩
  subst hgm
  have HX := Aside0.mk (And.intro hLg (And.intro hM (And.intro hB hZ)))
  have HI := Aside0.mk (And.intro hix (And.intro h0 hl10))
  clear hLL hMM hhs hxs hR hM hB hZ hl13 hl10 hidx hx0 hLg hix h0 D2 HRW HLL hlt hlt0 hi
  rw [show encH (some ⟨gb, 0, none⟩, 10, cbm) = .slice (some ⟨gb, 0, none⟩) 10 cbm from rfl]
  go_wp2
  go_loopg [139] 10 (fun k v139 wr => ∃ (i : Nat) (zs : Nat → List Int), v139 = .int .i64 (i : Int) ∧ i ≤ 10 ∧ k = 10 - i ∧ Lg wr .u16 33 w1.heap.size 13 hs hs zs zs ∧ (∀ j, (zs j).length = (xs j).length) ∧ (∀ j q, j < i → q < (xs (idx j)).length → (zs (idx j)).getD q 0 = mw1 j q) ∧ (∀ j, (∀ p, idx p ≠ j) → zs j = xs j) ∧ (Kd.scalar encH (fun _ => rfl)).R 22 wr w1.heap.size (fun _ => True) (encH (some ⟨gb, 0, none⟩, 10, cbm)) MM ∧ Below w.heap.size w wr ∧ w1.heap.size ≤ wr.heap.size)
  case atStart => exact ⟨0, xs, rfl, Nat.zero_le _, rfl, HX.out.1, fun _ => rfl, fun j q h => absurd h (Nat.not_lt_zero _), fun _ _ => rfl, HX.out.2.1, HX.out.2.2.1, HX.out.2.2.2⟩
  case round =>
  obtain ⟨i, zs, rfl, hi, rfl, hL, hzl, hz, hzx, hM, hB, hZ⟩ := hrel
  have HR := Aside0.mk (And.intro hL (And.intro hzl (And.intro hz (And.intro hzx (And.intro hM (And.intro hB hZ))))))
  clear hL hzl hz hzx hM hB hZ
  by_cases hlt : i < 10
  · have hlt0 : decide ((i : Int) < 10) = true := decide_eq_true (by omega)
    obtain ⟨A, m, c2', hhs⟩ : ∃ A m c2, hs (idx i) = (A, m, c2) := ⟨_, _, _, rfl⟩
    have hcell : wr.cell? ⟨gb, i, none⟩ = some (.slice A m c2') := by
      have := (Kd.R_celln (enc := encH) (h1 := fun _ => rfl) (n := 10) (g := gb) (cap := cbm) ((none, 0, 0) : Hd) HR.out.2.2.2.2.1 (i : Int) (by omega) (by omega)).1
      rw [Int.toNat_natCast] at this
      rw [this]
      unfold rdOf
      rw [Int.toNat_natCast, List.getD_eq_getElem?_getD, (HI.out.1 i hlt).1, hhs]; rfl
    have hmx : m = (xs (idx i)).length := by have := (HR.out.1.old (idx i) (idx_lt hlt)).len.1; rw [hhs] at this; rw [← HR.out.2.1 (idx i)]; exact this
    have HM := Aside0.mk (And.intro hmx hhs)
    have hmb : m ≤ 65536 := by rw [hmx]; exact (HI.out.1 i hlt).2
    clear hmx hhs
    go_wp2
    go_loopg [146] m (fun k v146 wr' => ∃ (p : Nat) (zs' : Nat → List Int), v146 = .int .i64 (p : Int) ∧ p ≤ m ∧ k = m - p ∧ Lg wr' .u16 33 w1.heap.size 13 hs hs zs' zs' ∧ (∀ j, (zs' j).length = (xs j).length) ∧ (∀ j q, (j < i ∨ (j = i ∧ q < p)) → q < (xs (idx j)).length → (zs' (idx j)).getD q 0 = mw1 j q) ∧ (∀ j, (∀ p, idx p ≠ j) → zs' j = xs j) ∧ (Kd.scalar encH (fun _ => rfl)).R 22 wr' w1.heap.size (fun _ => True) (encH (some ⟨gb, 0, none⟩, 10, cbm)) MM ∧ Below w.heap.size w wr' ∧ w1.heap.size ≤ wr'.heap.size)
    case atStart => exact ⟨0, zs, rfl, Nat.zero_le _, rfl, HR.out.1, HR.out.2.1, fun j q h => HR.out.2.2.1 j q (by omega), HR.out.2.2.2.1, HR.out.2.2.2.2.1, HR.out.2.2.2.2.2.1, HR.out.2.2.2.2.2.2⟩
    case round =>
    clear hcell HR
    obtain ⟨p, zs', rfl, hp, rfl, hL, hzl, hz, hzx, hM, hB, hZ⟩ := hrel
    have HR := Aside0.mk (And.intro hL (And.intro hzl (And.intro hz (And.intro hzx (And.intro hM (And.intro hB hZ))))))
    clear hL hzl hz hzx hM hB hZ
    by_cases hpl : p < m
    · have hpl0 : decide ((p : Int) < (m : Int)) = true := decide_eq_true (by omega)
      have hlz : (zs' (idx i)).length = m := by rw [HR.out.2.1 (idx i)]; exact HM.out.1.symm
      have hr := HR.out.1.old (idx i) (idx_lt hlt)
      rw [HM.out.2] at hr
      obtain ⟨g, c3, hform⟩ := hr.form (by omega)
      obtain ⟨hA, -, hc3⟩ := Prod.mk.inj hform |>.imp id Prod.mk.inj
      subst hA
      obtain ⟨hc, hf⟩ := hr.cell rfl p (by omega)
      obtain ⟨z, hz⟩ : ∃ z, z = mw1 i p := ⟨_, rfl⟩
      have hPut := HR.out.1.put (p := p) (idx_lt hlt) HM.out.2 z
      obtain ⟨m4, hm4⟩ : ∃ m4 : Nat, m4 = p % 4000 := ⟨_, rfl⟩
      have e0 : Int.tmod (p : Int) 4000 = (m4 : Int) := by rw [hm4, Int.tmod_eq_emod_of_nonneg (by omega)]; omega
      have em4 : m4 < 4000 := by omega
      have ew : IntKind.i64.wrap (m4 : Int) = (m4 : Int) := by rw [IntKind.wrap_i64]; omega
      have e1 : IntKind.i64.wrap (4096 * (i : Int)) = 4096 * (i : Int) := by rw [IntKind.wrap_i64]; omega
      have e2 : IntKind.i64.wrap (4096 * (i : Int) + (m4 : Int)) = 4096 * (i : Int) + (m4 : Int) := by rw [IntKind.wrap_i64]; omega
      have e4 : IntKind.u16.wrap (4096 * (i : Int) + (m4 : Int)) = z := by rw [hz, hm4]; rfl
      have hpi : (0 : Int) ≤ (p : Int) ∧ (p : Int) < (m : Int) := by omega
      obtain ⟨y, hy⟩ : ∃ y, y = (zs' (idx i)).getD p 0 := ⟨_, rfl⟩
      rw [← hy] at hc
      have HP := Aside0.mk (And.intro hPut (And.intro hz (And.intro hr.typed (And.intro hr.ge hlz))))
      clear hPut hz hr hform hc3 hy hlz hm4
      go_wp2
      go_roundg (m - (p + 1))
      case measure => omega
      case rel =>
        refine ⟨p + 1, _, rfl, by omega, rfl, HP.out.1, fun j => ?_, fun j q hq hq2 => ?_, fun j hj => ?_, ?_, HR.out.2.2.2.2.2.1.setCell (by have := HP.out.2.2.2.1 g rfl; have := HB1.out.size; show w.heap.size ≤ g; omega) _, by have := HR.out.2.2.2.2.2.2; simpa [World.setCell] using this⟩
        · by_cases hji : j = idx i
          · subst hji; rw [if_pos rfl, List.length_set]; exact HR.out.2.1 _
          · rw [if_neg hji]; exact HR.out.2.1 j
        · by_cases hji : j = i
          · subst hji
            rw [if_pos rfl]
            by_cases hqp : q = p
            · subst hqp
              rw [List.getD_eq_getElem?_getD, List.getElem?_set_self (by rw [HP.out.2.2.2.2]; omega), HP.out.2.1]; rfl
            · rw [List.getD_eq_getElem?_getD, List.getElem?_set_ne (fun e => hqp e.symm), ← List.getD_eq_getElem?_getD]
              exact HR.out.2.2.1 j q (by omega) hq2
          · rw [if_neg (fun e => hji (idx_inj e))]; exact HR.out.2.2.1 j q (by omega) hq2
        · rw [if_neg (fun e => hj i e.symm)]; exact HR.out.2.2.2.1 j hj
        · refine scal_keep HR.out.2.2.2.2.1 (fun b cells hb hblt hbc => Below.heap_setCell _ _ _ b (fun he => ?_))
          obtain ⟨c5, hc5⟩ := HP.out.2.2.1 g rfl
          rw [he, hc5] at hbc
          injection hbc with hbc
          injection hbc with _ hbc
          cases hbc
    have hpl0 : decide ((p : Int) < (m : Int)) = false := decide_eq_false (by omega)
    go_wp2
    go_roundg (10 - (i + 1))
    case measure => omega
    case rel => exact ⟨i + 1, zs', rfl, by omega, rfl, HR.out.1, HR.out.2.1, fun j q hj hq => HR.out.2.2.1 j q (by have := HM.out.1; by_cases hji : j = i; (subst hji; exact .inr ⟨rfl, by omega⟩); exact .inl (by omega)) hq, HR.out.2.2.2.1, HR.out.2.2.2.2.1, HR.out.2.2.2.2.2.1, HR.out.2.2.2.2.2.2⟩
  have hlt0 : decide ((i : Int) < 10) = false := decide_eq_false (by omega)
  obtain rfl : i = 10 := by omega
  go_wp2
  have HY := Aside0.mk HR.out
  clear HR HX hlt0 hlt hi
  generalize wr = w2 at HY ⊢
  go_loopg [28, 162] 10 (fun k v28 v162 wr => ∃ (i : Nat) (gs : Nat → Hd) (ys : Nat → List Int) (gt : Hd), v28 = encH gt ∧ v162 = .int .i64 (i : Int) ∧ i ≤ 10 ∧ k = 10 - i ∧ Lg wr .u16 33 w1.heap.size 13 hs gs zs ys ∧ (∀ j, i ≤ j → gs (idx j) = hs (idx j) ∧ ys (idx j) = zs (idx j)) ∧ (∀ j, j < i → ys (idx j) = zs (idx j) ++ nt j 40) ∧ (Kd.scalar encH (fun _ => rfl)).R 22 wr w1.heap.size (fun _ => True) (encH gt) ((List.range i).map (fun p => gs (idx p))) ∧ (Kd.scalar encH (fun _ => rfl)).R 22 wr w1.heap.size (fun _ => True) (encH (some ⟨gb, 0, none⟩, 10, cbm)) MM ∧ hown gt ≠ some gb ∧ Below w.heap.size w wr ∧ w1.heap.size ≤ wr.heap.size)
  case atStart => exact ⟨0, hs, zs, (none, 0, 0), rfl, rfl, Nat.zero_le _, rfl, HY.out.1, fun _ _ => ⟨rfl, rfl⟩, fun j h => absurd h (Nat.not_lt_zero _), Kd.R_nil _ _ _ _ _, HY.out.2.2.2.2.1, by simp [hown], HY.out.2.2.2.2.2.1, HY.out.2.2.2.2.2.2⟩
  case round =>
  obtain ⟨i, gs, ys, gt, rfl, rfl, hi, rfl, hL, hge, hlo, hT, hM, hne, hB, hZ⟩ := hrel
  have HR := Aside0.mk (And.intro hL (And.intro hge (And.intro hlo (And.intro hT (And.intro hM (And.intro hne (And.intro hB hZ)))))))
  clear hL hge hlo hT hM hne hB hZ
  by_cases hlt : i < 10
  · have hlt0 : decide ((i : Int) < 10) = true := decide_eq_true (by omega)
    have hcell : wr.cell? ⟨gb, i, none⟩ = some (encH (hs (idx i))) := by
      have := (Kd.R_celln (enc := encH) (h1 := fun _ => rfl) (n := 10) (g := gb) (cap := cbm) ((none, 0, 0) : Hd) HR.out.2.2.2.2.1 (i : Int) (by omega) (by omega)).1
      rw [Int.toNat_natCast] at this
      rw [this]
      unfold rdOf
      rw [Int.toNat_natCast, List.getD_eq_getElem?_getD, (HI.out.1 i hlt).1]; rfl
    have hzb : (zs (idx i)).length ≤ 65536 := by rw [HY.out.2.1 (idx i)]; exact (HI.out.1 i hlt).2
    go_wp2
    go_loopg [30, 31] 40 (fun k v30 v31 wr' => ∃ (p : Nat) (g : Hd), v30 = encH g ∧ v31 = .int .i64 (p : Int) ∧ p ≤ 40 ∧ k = 40 - p ∧ Lg wr' .u16 33 w1.heap.size 13 hs (fun j => if j = idx i then g else gs j) zs (fun j => if j = idx i then zs (idx i) ++ nt i p else ys j) ∧ (Kd.scalar encH (fun _ => rfl)).R 22 wr' w1.heap.size (fun _ => True) (encH gt) ((List.range i).map (fun p => gs (idx p))) ∧ (Kd.scalar encH (fun _ => rfl)).R 22 wr' w1.heap.size (fun _ => True) (encH (some ⟨gb, 0, none⟩, 10, cbm)) MM ∧ Below w.heap.size w wr' ∧ w1.heap.size ≤ wr'.heap.size)
    case atStart =>
      obtain ⟨e1, e2⟩ := HR.out.2.1 i (Nat.le_refl _)
      refine ⟨0, hs (idx i), rfl, rfl, Nat.zero_le _, rfl, ?_, HR.out.2.2.2.1, HR.out.2.2.2.2.1, HR.out.2.2.2.2.2.2.1, HR.out.2.2.2.2.2.2.2⟩
      have f1 : (fun j => if j = idx i then hs (idx i) else gs j) = gs := by
        funext j; by_cases hji : j = idx i
        · subst hji; rw [if_pos rfl, e1]
        · rw [if_neg hji]
      have f2 : (fun j => if j = idx i then zs (idx i) ++ nt i 0 else ys j) = ys := by
        funext j; by_cases hji : j = idx i
        · subst hji; rw [if_pos rfl, e2]; simp [nt]
        · rw [if_neg hji]
      rw [f1, f2]; exact HR.out.1
    case round =>
    clear hcell
    obtain ⟨p, g, rfl, rfl, hp, rfl, hL, hT, hM, hB, hZ⟩ := hrel
    have HS := Aside0.mk (And.intro hL (And.intro hT (And.intro hM (And.intro hB hZ))))
    clear hL hT hM hB hZ
    by_cases hpl : p < 40
    · have hpl0 : decide ((p : Int) < 40) = true := decide_eq_true (by omega)
      obtain ⟨z, hz⟩ : ∃ z, z = mw2 i := ⟨_, rfl⟩
      have e1 : IntKind.i64.wrap (60000 + (i : Int)) = 60000 + (i : Int) := by rw [IntKind.wrap_i64]; omega
      have e4 : IntKind.u16.wrap (60000 + (i : Int)) = z := hz.symm
      have hrow := HS.out.1.new (idx i) (idx_lt hlt)
      simp only [if_pos] at hrow
      have HA := Aside0.mk (And.intro (Row.keep (W' := wr.alloc (.cells #[.int .u16 z] 33)) hrow (fun b hb => (below_alloc (Below.refl _ _) _).block b (hrow.lt b hb))) (And.intro (blk_new wr (.cells #[.int .u16 z] 33 (0, 0))) (And.intro (show w1.heap.size ≤ (wr.alloc (.cells #[.int .u16 z] 33)).heap.size by have := HS.out.2.2.2.2; simp; omega) (And.intro hz (below_alloc (Below.refl wr.heap.size wr) (.cells #[.int .u16 z] 33))))))
      clear hrow hz
      go_wp2_with (first
        | (refine wp_app (k := .u16) (base := w1.heap.size) rfl (.tmp 171) (.tmp 175) rfl Try.underlying22 inf33 rfl g (zs (idx i) ++ nt i p) z ⟨wr.heap.size, 0, none⟩ 1 rfl rfl HA.out.1 (by rw [blk_cell HA.out.2.1 0]; rfl) HA.out.2.2.1 (by rw [List.length_append, nt_len]; omega) (by decide) ?_
           intro g' x1 hr hor
           have HW := Aside0.mk (And.intro hr hor)
           clear hr hor))
      go_roundg (40 - (p + 1))
      case measure => omega
      case rel =>
        have hL1 : Lg (wr.alloc (.cells #[.int .u16 z] 33)) .u16 33 w1.heap.size 13 hs (fun j => if j = idx i then g else gs j) zs (fun j => if j = idx i then zs (idx i) ++ nt i p else ys j) := HS.out.1.below HA.out.2.2.2.2
        have hL2 := hL1.grow (idx_lt hlt) (g' := g') (y := z) (by simp only [if_pos]; exact HW.out.1) (by simp only [if_pos]; exact HW.out.2)
        have hgrow : ∃ ro, (wr.alloc (.cells #[.int .u16 z] 33)).grownBy x1 ro ∧ ∀ b, ro = some b → ∃ cells, (wr.alloc (.cells #[.int .u16 z] 33)).heap[b]? = some (.cells cells 33 (0, 0)) ∧ w1.heap.size ≤ b := by
          rcases HW.out.2 with ⟨_, _, hg⟩ | ⟨_, hg⟩
          · exact ⟨_, hg, fun b hb => (HA.out.1.typed b hb).imp fun cells hc => ⟨hc, HA.out.1.ge b hb⟩⟩
          · exact ⟨none, hg, fun b hb => by cases hb⟩
        obtain ⟨ro, hg, hro⟩ := hgrow
        have keep22 : ∀ {v : Value} {zz : List Hd}, (Kd.scalar encH (fun _ => rfl)).R 22 wr w1.heap.size (fun _ => True) v zz → (Kd.scalar encH (fun _ => rfl)).R 22 x1 w1.heap.size (fun _ => True) v zz := fun hR => scal_keep (Kd.R_below hR HA.out.2.2.2.2) (fun b cells hb hblt hbc => hg.block b hblt (fun he => by
          obtain ⟨c5, hc5, _⟩ := hro b he.symm
          rw [hbc] at hc5
          injection hc5 with hc5
          injection hc5 with _ hc5
          cases hc5))
        refine ⟨p + 1, g', rfl, rfl, by omega, rfl, ?_, keep22 HS.out.2.1, keep22 HS.out.2.2.1, ?_, Nat.le_trans HA.out.2.2.1 hg.size⟩
        · have f1 : (fun j => if j = idx i then g' else (if j = idx i then g else gs j)) = (fun j => if j = idx i then g' else gs j) := by
            funext j; by_cases hji : j = idx i
            · rw [if_pos hji, if_pos hji]
            · rw [if_neg hji, if_neg hji, if_neg hji]
          have f2 : (fun j => if j = idx i then (if idx i = idx i then zs (idx i) ++ nt i p else ys (idx i)) ++ [z] else (if j = idx i then zs (idx i) ++ nt i p else ys j)) = (fun j => if j = idx i then zs (idx i) ++ nt i (p + 1) else ys j) := by
            funext j; by_cases hji : j = idx i
            · rw [if_pos hji, if_pos hji, if_pos rfl, nt_succ, ← HA.out.2.2.2.1, List.append_assoc]
            · rw [if_neg hji, if_neg hji, if_neg hji]
          rw [f1, f2] at hL2
          exact hL2
        · exact (HS.out.2.2.2.1.trans (HA.out.2.2.2.2.mono HS.out.2.2.2.1.size)).grown hg (by have := HB1.out.size; have := HA.out.2.2.1; omega) (fun k hk => by obtain ⟨_, _, h⟩ := hro k hk; have := HB1.out.size; omega)
    have hpl0 : decide ((p : Int) < 40) = false := decide_eq_false (by omega)
    obtain rfl : p = 40 := by omega
    obtain ⟨Ag, mg, cg, rfl⟩ : ∃ A m c, g = (A, m, c) := ⟨_, _, _, rfl⟩
    rw [show encH (Ag, mg, cg) = .slice Ag mg cg from rfl]
    have HA := Aside0.mk (And.intro (Kd.R_alloc HS.out.2.1 (.cells #[.slice Ag mg cg] 22)) (And.intro (blk_CH (hs := [(Ag, mg, cg)]) (blk_new wr (.cells #[.slice Ag mg cg] 22 (0, 0))) (by simp)) (And.intro (show w1.heap.size ≤ (wr.alloc (.cells #[.slice Ag mg cg] 22)).heap.size by have := HS.out.2.2.2.2; simp; omega) (below_alloc (Below.refl wr.heap.size wr) (.cells #[.slice Ag mg cg] 22)))))
    go_wp2_with (first
      | (refine Kd.R_append_row (w0 := wr.alloc (.cells #[.slice Ag mg cg] 22)) encH (none, 0, 0) w1.heap.size rfl (.tmp 177) (.tmp 179) 52 22 (.slice none 0 0) 24 rfl Try.underlying52 inf22 rfl (by decide) (encH gt) ((List.range i).map (fun p => gs (idx p))) [(Ag, mg, cg)] (some ⟨wr.heap.size, 0, none⟩) 1 1 (fun _ => True) rfl rfl (fun _ _ => trivial) HA.out.1 HA.out.2.1 (Below.refl _ _) HA.out.2.2.1 (by rw [List.length_map, List.length_range]; omega) ?_
         intro v1' x1 hR hb hg hat
         obtain ⟨At, ct, rfl⟩ := Kd.R_slice hR
         have hlen1 : ((List.range i).map (fun p => gs (idx p)) ++ [(Ag, mg, cg)]).length = i + 1 := by simp
         rw [hlen1] at hR hat ⊢
         have HW := Aside0.mk (And.intro hR (And.intro hb (And.intro hg hat)))
         clear hR hb hg hat))
    go_roundg (10 - (i + 1))
    case measure => omega
    case rel =>
      have hL2 := Lg.other (HS.out.1.below HA.out.2.2.2) HA.out.1 (by decide) HW.out.2.2.1
      have hmap : (List.range (i + 1)).map (fun p => if idx p = idx i then (Ag, mg, cg) else gs (idx p)) = (List.range i).map (fun p => gs (idx p)) ++ [(Ag, mg, cg)] := by
        rw [List.range_succ, List.map_append]
        congr 1
        · refine List.map_congr_left (fun j hj => ?_)
          have := List.mem_range.1 hj
          rw [if_neg (fun e => by have := idx_inj e; omega)]
        · simp
      have hgbn : some gb ≠ (encH gt).ownBlock := fun e => HR.out.2.2.2.2.2.1 (by rw [← own_encH]; exact e.symm)
      refine ⟨i + 1, _, _, (At, i + 1, ct), rfl, rfl, by omega, rfl, hL2, fun j hj => ?_, fun j hj => ?_, ?_, ?_, ?_, ?_, Nat.le_trans HA.out.2.2.1 HW.out.2.2.1.size⟩
      · rw [if_neg (fun e => by have := idx_inj e; omega), if_neg (fun e => by have := idx_inj e; omega)]; exact HR.out.2.1 j (by omega)
      · by_cases hji : j = i
        · subst hji; rw [if_pos rfl]
        · rw [if_neg (fun e => hji (idx_inj e))]; exact HR.out.2.2.1 j (by omega)
      · rw [hmap]; exact HW.out.1
      · refine scal_keep (Kd.R_below HS.out.2.2.1 HA.out.2.2.2) (fun b cells hb hblt hbc => HW.out.2.2.1.block b hblt (fun he => ?_))
        have : b = gb := by rw [own_encH] at hb; exact (Option.some.inj hb).symm
        subst this
        exact hgbn he
      · intro hown2
        have hb3 : (Value.slice At (i + 1) ct).ownBlock = some gb := by have := own_encH (At, i + 1, ct); exact this.trans hown2
        rcases HW.out.2.2.2 with hat | ⟨b', hb', hle⟩
        · exact hgbn (hb3.symm.trans hat)
        · have h4 := Option.some.inj (hb'.symm.trans hb3)
          have := Kd.R_lt HS.out.2.2.1 gb (by rw [own_encH]; rfl)
          have h5 : (wr.alloc (.cells #[.slice Ag mg cg] 22)).heap.size = wr.heap.size + 1 := by simp
          omega
      · exact (HS.out.2.2.2.1.trans (HA.out.2.2.2.mono HS.out.2.2.2.1.size)).grown HW.out.2.2.1 (by have := HB1.out.size; have := HA.out.2.2.1; omega) (fun b hb => by have := own_base (Kd.own_of_R HA.out.1) b hb; have := HB1.out.size; omega)
  have hlt0 : decide ((i : Int) < 10) = false := decide_eq_false (by omega)
  obtain rfl : i = 10 := by omega
  go_wp2
  have HZ3 := Aside0.mk HR.out
  clear HR hlt0 hlt hi
  generalize wr = w3' at HZ3 ⊢
  obtain ⟨gtb, ctb, hgt⟩ : ∃ gb cb, gt = (some ⟨gb, 0, none⟩, 10, cb) := by
    obtain ⟨gb, cb, he, _⟩ := Kd.R_form HZ3.out.2.2.2.1 (by rw [List.length_map, List.length_range]; omega)
    rw [List.length_map, List.length_range] at he
    exact ⟨gb, cb, encH_inj he⟩
  subst hgt
  rw [show encH (some ⟨gtb, 0, none⟩, 10, ctb) = .slice (some ⟨gtb, 0, none⟩) 10 ctb from rfl]
  go_loopg [184] 10 (fun k v184 wr => ∃ i : Nat, v184 = .int .i64 (i : Int) ∧ i ≤ 10 ∧ k = 10 - i ∧ w3' = wr)
  case atStart => exact ⟨0, rfl, Nat.zero_le _, rfl, rfl⟩
  case round =>
  obtain ⟨i, rfl, hi, rfl, rfl⟩ := hrel
  by_cases hlt : i < 10
  · have hlt0 : decide ((i : Int) < 10) = true := decide_eq_true (by omega)
    obtain ⟨A, m, c2', hhs⟩ : ∃ A m c2, hs (idx i) = (A, m, c2) := ⟨_, _, _, rfl⟩
    obtain ⟨A', m', c3', hgs⟩ : ∃ A m c2, gs (idx i) = (A, m, c2) := ⟨_, _, _, rfl⟩
    have hcell : w3'.cell? ⟨gb, i, none⟩ = some (.slice A m c2') := by
      have := (Kd.R_celln (enc := encH) (h1 := fun _ => rfl) (n := 10) (g := gb) (cap := cbm) ((none, 0, 0) : Hd) HZ3.out.2.2.2.2.1 (i : Int) (by omega) (by omega)).1
      rw [Int.toNat_natCast] at this
      rw [this]
      unfold rdOf
      rw [Int.toNat_natCast, List.getD_eq_getElem?_getD, (HI.out.1 i hlt).1, hhs]; rfl
    have hcell2 : w3'.cell? ⟨gtb, i, none⟩ = some (.slice A' m' c3') := by
      have := (Kd.R_celln (enc := encH) (h1 := fun _ => rfl) (n := 10) (g := gtb) (cap := ctb) ((none, 0, 0) : Hd) HZ3.out.2.2.2.1 (i : Int) (by omega) (by omega)).1
      rw [Int.toNat_natCast] at this
      rw [this]
      unfold rdOf
      rw [Int.toNat_natCast, List.getD_eq_getElem?_getD, List.getElem?_map, List.getElem?_range hlt]
      show some (encH (gs (idx i))) = _
      rw [hgs]; rfl
    have hold := HZ3.out.1.old (idx i) (idx_lt hlt)
    have hnew := HZ3.out.1.new (idx i) (idx_lt hlt)
    have hyi := HZ3.out.2.2.1 i hlt
    rw [hhs] at hold
    rw [hgs, hyi] at hnew
    have hm1 : m = (xs (idx i)).length := by have := hold.len.1; rw [← HY.out.2.1 (idx i)]; exact this
    have hm2 : m' = m + 40 := by have := hnew.len.1; rw [List.length_append, nt_len, HY.out.2.1 (idx i)] at this; rw [hm1]; exact this
    have hmb : m ≤ 65536 := by rw [hm1]; exact (HI.out.1 i hlt).2
    obtain ⟨g2, c4, hf2⟩ := hnew.form (by rw [List.length_append, nt_len]; omega)
    obtain ⟨hA2, -, -⟩ := Prod.mk.inj hf2 |>.imp id Prod.mk.inj
    subst hA2
    have HO := Aside0.mk (And.intro hold (And.intro hnew hm1))
    have e40 : IntKind.i64.wrap ((m : Int) + 40) = (m : Int) + 40 := by rw [IntKind.wrap_i64]; omega
    have e40b : ((m' : Int) != (m : Int) + 40) = false := by rw [hm2]; simp
    have hi2 : (0 : Int) ≤ (i : Int) ∧ (i : Int) < 10 := by omega
    clear hold hnew hyi hm1 hf2 hhs hgs
    go_upto_region 50 with fail
    go_loopg [200] m (fun k v200 wr => ∃ p : Nat, v200 = .int .i64 (p : Int) ∧ p ≤ m ∧ k = m - p ∧ w3' = wr)
    case atStart => exact ⟨0, rfl, Nat.zero_le _, rfl, rfl⟩
    case round =>
    obtain ⟨p, rfl, hp, rfl, rfl⟩ := hrel
    by_cases hpl : p < m
    · have hpl0 : decide ((p : Int) < (m : Int)) = true := decide_eq_true (by omega)
      have hxl : (zs (idx i)).length = m := by rw [HY.out.2.1 (idx i)]; exact HO.out.2.2.symm
      obtain ⟨g5, c5, hf5⟩ := HO.out.1.form (by omega)
      obtain ⟨hA5, -, -⟩ := Prod.mk.inj hf5 |>.imp id Prod.mk.inj
      subst hA5
      obtain ⟨z, hz⟩ : ∃ z, z = mw1 i p := ⟨_, rfl⟩
      have hc := (HO.out.1.cell rfl p (by omega)).1
      rw [HY.out.2.2.1 i p hlt (by rw [← HY.out.2.1 (idx i)]; omega), ← hz] at hc
      obtain ⟨m4, hm4⟩ : ∃ m4 : Nat, m4 = p % 4000 := ⟨_, rfl⟩
      have e0 : Int.tmod (p : Int) 4000 = (m4 : Int) := by rw [hm4, Int.tmod_eq_emod_of_nonneg (by omega)]; omega
      have em4 : m4 < 4000 := by omega
      have ew : IntKind.i64.wrap (m4 : Int) = (m4 : Int) := by rw [IntKind.wrap_i64]; omega
      have e1 : IntKind.i64.wrap (4096 * (i : Int)) = 4096 * (i : Int) := by rw [IntKind.wrap_i64]; omega
      have e2 : IntKind.i64.wrap (4096 * (i : Int) + (m4 : Int)) = 4096 * (i : Int) + (m4 : Int) := by rw [IntKind.wrap_i64]; omega
      have e4 : IntKind.u16.wrap (4096 * (i : Int) + (m4 : Int)) = z := by rw [hz, hm4]; rfl
      have hpi : (0 : Int) ≤ (p : Int) ∧ (p : Int) < (m : Int) := by omega
      clear hz hf5 hxl hm4
      go_wp2
      go_roundg (m - (p + 1))
      case measure => omega
      case rel => exact ⟨p + 1, rfl, by omega, rfl, rfl⟩
    have hpl0 : decide ((p : Int) < (m : Int)) = false := decide_eq_false (by omega)
    go_wp2
    clear hpl0 hpl
    go_loopg [35] 40 (fun k v35 wr => ∃ p : Nat, v35 = .int .i64 (p : Int) ∧ p ≤ 40 ∧ k = 40 - p ∧ w3' = wr)
    case atStart => exact ⟨0, rfl, Nat.zero_le _, rfl, rfl⟩
    case round =>
    obtain ⟨p, rfl, hp, rfl, rfl⟩ := hrel
    by_cases hpl : p < 40
    · have hpl0 : decide ((p : Int) < 40) = true := decide_eq_true (by omega)
      have hxl : (zs (idx i)).length = m := by rw [HY.out.2.1 (idx i)]; exact HO.out.2.2.symm
      obtain ⟨z, hz⟩ : ∃ z, z = mw2 i := ⟨_, rfl⟩
      have hc := (HO.out.2.1.cell rfl (m + p) (by rw [List.length_append, nt_len]; omega)).1
      rw [List.getD_eq_getElem?_getD, List.getElem?_append_right (by omega), hxl, Nat.add_sub_cancel_left, ← List.getD_eq_getElem?_getD, nt_get hpl, ← hz] at hc
      have e1 : IntKind.i64.wrap (60000 + (i : Int)) = 60000 + (i : Int) := by rw [IntKind.wrap_i64]; omega
      have e4 : IntKind.u16.wrap (60000 + (i : Int)) = z := hz.symm
      have e5 : IntKind.i64.wrap ((m : Int) + (p : Int)) = (m : Int) + (p : Int) := by rw [IntKind.wrap_i64]; omega
      have e6 : ((m : Int) + (p : Int)).toNat = m + p := by omega
      have hpi : (0 : Int) ≤ (m : Int) + (p : Int) ∧ (m : Int) + (p : Int) < (m' : Int) := by omega
      clear hz hxl
      go_wp2
      go_roundg (40 - (p + 1))
      case measure => omega
      case rel => exact ⟨p + 1, rfl, by omega, rfl, rfl⟩
    have hpl0 : decide ((p : Int) < 40) = false := decide_eq_false (by omega)
    go_wp2
    go_roundg (10 - (i + 1))
    case measure => omega
    case rel => exact ⟨i + 1, rfl, by omega, rfl, rfl⟩
  have hlt0 : decide ((i : Int) < 10) = false := decide_eq_false (by omega)
  have hz0 : hs 0 = (Aa, v.length, ca) ∧ zs 0 = v ∧ hs 1 = (Ab, v.length, cb) ∧ zs 1 = yb ∧ hs 3 = (Ak, rT.length, ck) ∧ zs 3 = rT := by
    obtain ⟨q1, q2, q3, q4, q5, q6⟩ := HI.out.2.1
    rw [HY.out.2.2.2.1 0 (fun p => (idx_not p).1), HY.out.2.2.2.1 1 (fun p => (idx_not p).2.1), HY.out.2.2.2.1 3 (fun p => (idx_not p).2.2)]
    exact ⟨q1, q2, q3, q4, q5, q6⟩
  have ra := HZ3.out.1.old 0 (by omega)
  have rb := HZ3.out.1.old 1 (by omega)
  have rk := HZ3.out.1.old 3 (by omega)
  have hab : ∀ b, hown (hs 0) = some b → hown (hs 1) = some b → False := fun b h1 h2 => absurd (HZ3.out.1.apart 0 1 b (by omega) (by omega) (.inl h1) (.inl h2)) (by decide)
  rw [hz0.1, hz0.2.1] at ra
  rw [hz0.2.2.1, hz0.2.2.2.1] at rb
  rw [hz0.2.2.2.2.1, hz0.2.2.2.2.2] at rk
  rw [hz0.1, hz0.2.2.1] at hab
  have HP := Aside0.mk (And.intro (RowSet.pair ra rb hab) (And.intro rk (And.intro HZ3.out.2.2.2.2.2.2.1 HZ3.out.2.2.2.2.2.2.2)))
  clear ra rb rk hab hz0
  go_wp2_with fail
  have ha := (HP.out.1.at (i := 0) (h := (Aa, v.length, ca)) (x := v) rfl).C
  (with_reducible refine (trans_row Aa ca v rT eT _ ha.2.2 ha.2.1 HT.out.1).mono ?_)
  clear ha
  rintro e y1 ⟨A9, c9, rfl, q9, D9⟩
  have HQ := Aside0.mk (And.intro (HP.out.1.below D9) (And.intro (HP.out.2.1.keep (fun b hb => D9.block b (HP.out.2.1.lt b hb))) (And.intro (HP.out.2.2.1.trans (D9.mono HP.out.2.2.1.size)) (Nat.le_trans HP.out.2.2.2 D9.size))))
  have S9 := Aside0.mk (same_row A9 Ak c9 ck rT y1 q9.C.2.2 q9.C.2.1 HQ.out.2.1.C.2.2 HQ.out.2.1.C.2.1 (by have := HT.out.2.1; omega))
  clear q9 D9
  go_wp2_with fail
  (with_reducible refine S9.out.mono ?_)
  clear S9
  rintro e w' ⟨rfl, m3, rfl⟩
  have D3 := pw_below_drewN (Below.refl y1.heap.size y1) m3
  have a3 := ((HQ.out.1.below D3).at (i := 0) (h := (Aa, v.length, ca)) (x := v) rfl).C
  have S3 := Aside0.mk (same_row Aa A0 ca c0 v (y1.drewN m3) a3.2.2 a3.2.1 (Kd.C_below HV.out.1 (HQ.out.2.2.1.trans (D3.mono HQ.out.2.2.1.size))) HV.out.2.1 (by omega))
  clear a3 D3
  go_wp2_with fail
  (with_reducible refine S3.out.mono ?_)
  clear S3
  rintro e w' ⟨rfl, m4, rfl⟩
  go_upto_region 64 with fail
  have D4 : Below y1.heap.size y1 ((y1.drewN m3).drewN m4) := pw_below_drewN (pw_below_drewN (Below.refl y1.heap.size y1) m3) m4
  rw [World.drewN_drewN] at D4
  generalize y1.drewN (m3 + m4) = y2 at D4 ⊢
  have HQ2 := Aside0.mk (And.intro (HQ.out.1.below D4) (And.intro (HQ.out.2.2.1.trans (D4.mono HQ.out.2.2.1.size)) (Nat.le_trans HQ.out.2.2.2 D4.size)))
  clear HQ D4 HP HZ3 HY HI
  have hb2 := (HQ2.out.1.at (i := 1) (h := (Ab, v.length, cb)) (x := yb) rfl).C
  have hbl : yb.length = v.length := HXB.out.1
  rw [hbl] at hb2
  have C2 := Aside0.mk (copied_row Ab cb yb y2 (by rw [hbl]; exact hb2.2.2) (by rw [hbl]; exact hb2.2.1) (by omega))
  rw [hbl] at C2
  clear hb2
  go_wp2_with fail
  (with_reducible refine C2.out.mono ?_)
  clear C2
  rintro e y3 ⟨Ac, cc, rfl, q3, D3⟩
  have HQ3 := Aside0.mk (And.intro (HQ2.out.1.below D3) (And.intro (HQ2.out.2.1.trans (D3.mono HQ2.out.2.1.size)) (Nat.le_trans HQ2.out.2.2 D3.size)))
  have hyok : okW yb = true := by
    rw [okW_iff]
    intro j hj
    rw [HXB.out.2 j (by omega)]
    have hjv : j < v.length := by omega
    rw [List.getD_eq_getElem?_getD, List.getElem?_eq_getElem hjv]
    exact x1_ok (HO.out _ (List.getElem_mem hjv))
  obtain ⟨rB, hTB, hTBl⟩ := tr_yes hyok
  rw [hbl, ← HT.out.2.2] at hTB
  have HTB := Aside0.mk (And.intro hTB hTBl)
  clear hTB hTBl hyok
  have hq3 := q3.C
  rw [hbl] at hq3
  have T3 := Aside0.mk (trans_row Ac cc yb rB eT y3 (by rw [hbl]; exact hq3.2.2) (by rw [hbl]; exact hq3.2.1) HTB.out.1)
  rw [hbl] at T3
  clear q3 D3 hq3 HQ2
  go_wp2_with fail
  (with_reducible refine T3.out.mono ?_)
  clear T3
  rintro e y4 ⟨Ao, co, rfl, q4, D4⟩
  have HQ4 := Aside0.mk (And.intro (HQ3.out.1.snoc D4 HQ3.out.2.2 q4) (And.intro (HQ3.out.2.1.trans (D4.mono HQ3.out.2.1.size)) (Nat.le_trans HQ3.out.2.2 D4.size)))
  clear q4 D4 HQ3
  go_wp2
  go_loopg [262] v.length (fun k v262 wr => ∃ (i : Nat) (za : List Int), v262 = .int .i64 (i : Int) ∧ i ≤ v.length ∧ k = v.length - i ∧ RowSet wr .u16 33 w1.heap.size [((Aa, v.length, ca), za), ((Ab, v.length, cb), yb), ((Ao, rB.length, co), rB)] ∧ za.length = v.length ∧ (∀ q, q < i → za.getD q 0 = yb.getD q 0) ∧ Below w.heap.size w wr ∧ w1.heap.size ≤ wr.heap.size)
  case atStart => exact ⟨0, v, rfl, Nat.zero_le _, rfl, HQ4.out.1, rfl, fun q h => absurd h (Nat.not_lt_zero _), HQ4.out.2.1, HQ4.out.2.2⟩
  case round =>
  clear HQ4
  obtain ⟨i, za, rfl, hi, rfl, hR, hzl, hz1, hB, hZ⟩ := hrel
  have HR := Aside0.mk (And.intro hR (And.intro hzl (And.intro hz1 (And.intro hB hZ))))
  clear hR hzl hz1 hB hZ
  by_cases hlt : i < v.length
  · have hlt0 : decide ((i : Int) < (v.length : Int)) = true := decide_eq_true (by omega)
    have hr := HR.out.1.at (i := 0) (h := (Aa, v.length, ca)) (x := za) rfl
    have hrb := HR.out.1.at (i := 1) (h := (Ab, v.length, cb)) (x := yb) rfl
    obtain ⟨g, c3, hform⟩ := hr.form (by rw [HR.out.2.1]; omega)
    obtain ⟨hA, -, -⟩ := Prod.mk.inj hform |>.imp id Prod.mk.inj
    subst hA
    obtain ⟨g', c3', hform'⟩ := hrb.form (by omega)
    obtain ⟨hA', -, -⟩ := Prod.mk.inj hform' |>.imp id Prod.mk.inj
    subst hA'
    obtain ⟨hc, hf⟩ := hr.cell rfl i (by rw [HR.out.2.1]; exact hlt)
    have hcb := (hrb.cell rfl i (by omega)).1
    obtain ⟨y, hy⟩ : ∃ y, y = za.getD i 0 := ⟨_, rfl⟩
    rw [← hy] at hc
    obtain ⟨z, hz⟩ : ∃ z, z = yb.getD i 0 := ⟨_, rfl⟩
    rw [← hz] at hcb
    have HP := Aside0.mk (And.intro (HR.out.1.put (i := 0) (p := i) rfl z) (And.intro hz (hr.ge g rfl)))
    have hpi : (0 : Int) ≤ (i : Int) ∧ (i : Int) < (v.length : Int) := by omega
    clear hy hz hr hrb hform hform'
    go_wp2
    go_roundg (v.length - (i + 1))
    case measure => omega
    case rel =>
      refine ⟨i + 1, za.set i z, rfl, by omega, rfl, HP.out.1, by rw [List.length_set]; exact HR.out.2.1, fun q hq => ?_, HR.out.2.2.2.1.setCell (by have := HP.out.2.2; have := HB1.out.size; show w.heap.size ≤ g; omega) _, by have := HR.out.2.2.2.2; simpa [World.setCell] using this⟩
      by_cases hqi : q = i
      · subst hqi
        rw [List.getD_eq_getElem?_getD, List.getElem?_set_self (by rw [HR.out.2.1]; exact hlt), HP.out.2.1]; rfl
      · rw [List.getD_eq_getElem?_getD, List.getElem?_set_ne (fun e => hqi e.symm), ← List.getD_eq_getElem?_getD]; exact HR.out.2.2.1 q (by omega)
  have hlt0 : decide ((i : Int) < (v.length : Int)) = false := decide_eq_false (by omega)
  obtain rfl : i = v.length := by omega
  have hzy : za = yb := by
    refine List.ext_getElem (by rw [HR.out.2.1, hbl]) (fun j h1 h2 => ?_)
    have := HR.out.2.2.1 j (by rw [← HR.out.2.1]; exact h1)
    rw [List.getD_eq_getElem?_getD, List.getD_eq_getElem?_getD, List.getElem?_eq_getElem h1, List.getElem?_eq_getElem h2] at this
    exact this
  subst hzy
  have ha := (HR.out.1.at (i := 0) (h := (Aa, v.length, ca)) (x := za) rfl).C
  have T5 := Aside0.mk (trans_row Aa ca za rB eT wr ha.2.2 ha.2.1 HTB.out.1)
  rw [hbl] at T5
  have HR5 := Aside0.mk HR.out
  clear ha HR
  go_wp2_with fail
  (with_reducible refine T5.out.mono ?_)
  clear T5
  rintro e y5 ⟨Ap, cp, rfl, q5, D5⟩
  have ho := ((HR5.out.1.below D5).at (i := 2) (h := (Ao, rB.length, co)) (x := rB) rfl).C
  have S5 := Aside0.mk (same_row Ap Ao cp co rB y5 q5.C.2.2 q5.C.2.1 ho.2.2 ho.2.1 (by have := HTB.out.2; omega))
  have HB5' := Aside0.mk (HR5.out.2.2.2.1.trans (D5.mono HR5.out.2.2.2.1.size))
  clear q5 D5 ho HR5
  go_wp2_with fail
  (with_reducible refine S5.out.mono ?_)
  clear S5
  rintro e w' ⟨rfl, m5, rfl⟩
  go_wp2_with fail
  go_ret
  exact ⟨rfl, pw_below_drewN HB5'.out m5⟩
end Go.Proofs.Ytklkcenffajfeaa.A
