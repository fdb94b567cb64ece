import Derived.Test.YtklkcenffajfeaaH4
import Derived.Test.YtklkcenffajfeaaAx2
import Derived.Test.YtklkcenffajfeaaTab16
import Derived.Test.YtklkcenffajfeaaCantorFns
namespace Go.Proofs.Ytklkcenffajfeaa.A
open Go.RowKit Go.Deep Go.Proofs.YtklkcenffajfeaaW.PrintWords Go.Proofs.YtklkcenffajfeaaW.PrintLast Go.Proofs.YtklkcenffajfeaaW.PrintMore WH
set_option linter.unusedVariables false
set_option linter.unusedSimpArgs false
/-- W' is W but for what block g holds. -/
structure ButW (g : Nat) (W W' : World) : Prop where
  os : W'.os = W.os
  tape : W'.tape = W.tape
  output : W'.output = W.output
  size : W'.heap.size = W.heap.size
  block : ∀ k, k ≠ g → W'.heap[k]? = W.heap[k]?
theorem ButW.below {g B : Nat} {W W' : World} (h : ButW g W W') (hB : B ≤ g) : Below B W W' := ⟨h.os, h.tape, h.output, by rw [h.size]; exact Nat.le_refl _, fun k hk => h.block k (by omega)⟩
/-- append of one cell, where there is room. -/
theorem wpList_append1 {P : Program} {W : World} {ops : Array Oper} {rest : List Oper} {o : Oper} {a : Act} {Q : Exit → Act → World → Prop} (hgd : o.guard = none) (s x : Operand) (t e : TypeId) (i : TypeInfo)
    (ho : o.op = .call { callee := .builtin .append, args := #[s, x], argTypes := #[t, t] }) (ht : P.underlying t = some (.slice e)) (hi : P.info? e = some i) (hsz : i.size = 1)
    {g n N c : Nat} {ad : Addr} {f : Nat → Value} {v : Value} (hs : a.eval s = .slice (some ⟨g, 0, none⟩) n N) (hx : a.eval x = .slice (some ad) 1 c) (hg : W.rowIs g e N f) (hn : n < N) (hv : W.cell? ad = some v) (h1 : v.oneCell' = true)
    (h : ∀ W', W'.rowIs g e N (fun j => if j = n then v else f j) → ButW g W W' → wpList P ops Q rest (a.put o.dst (.slice (some ⟨g, 0, none⟩) (n + 1) N)) W') : wpList P ops Q (o :: rest) a W := by
  obtain ⟨cur, hb, hN, hc⟩ := hg
  have hr := run_append_room (P := P) W t o.type e i ht hi g n N cur hb ad 1 c [v] (by rw [hsz]; rfl) (fun j u hj => by
    match j, hj with
    | 0, hj => simp at hj; subst hj; simpa [Addr.add] using hv) (fun u hu => by simp at hu; subst hu; exact h1) (by omega) (by rw [hsz]; simp; omega)
  have hrun : (execOp a.eval o).run P W = .ok (.value (.slice (some ⟨g, 0, none⟩) (n + 1) N)) (W.setRow g (cur.toList.take (n * i.size) ++ [v] ++ cur.toList.drop (n * i.size + [v].length)).toArray) := by
    unfold execOp
    simp only [ho, resolve, invoke, builtin, Sem.run_bind, Sem.run_pure, Result.andThen_ok, List.map_toArray, List.map_cons, List.map_nil, hs, hx, hr]
  refine Kd.event_run hgd hrun (h _ ⟨_, setRow_heap W g cur _ e _ hb, ?_, fun j hj => ?_⟩ ⟨rfl, rfl, rfl, setRow_size _ _ _, fun k hk => setRow_other W g k _ hk⟩)
  · rw [hsz]; simp; omega
  · rw [hsz, Nat.mul_one]
    show _ = some (if j = n then v else f j)
    rw [List.getElem?_toArray, List.append_assoc, List.getElem?_append]
    have e3 : (cur.toList.take n).length = n := by simp; omega
    by_cases e1 : j < n
    · rw [if_pos (by rw [e3]; exact e1), List.getElem?_take, if_pos e1, if_neg (by omega), Array.getElem?_toList]
      exact hc j hj
    · rw [if_neg (by rw [e3]; exact e1), e3]
      by_cases e2 : j = n
      · subst e2; rw [if_pos rfl, Nat.sub_self]; rfl
      · rw [if_neg e2]
        obtain ⟨d, hd⟩ : ∃ d, j - n = d + 1 := ⟨j - n - 1, by omega⟩
        rw [hd]
        show (cur.toList.drop (n + 1))[d]? = _
        rw [List.getElem?_drop, show n + 1 + d = j by omega, Array.getElem?_toList]
        exact hc j hj
theorem pow_wrap {r : Nat} (h : r ≤ 16) : wrap64 (2 ^ r) = ((2 ^ r : Nat) : Int) := by
  have : ∀ r : Fin 17, wrap64 (2 ^ r.val) = ((2 ^ r.val : Nat) : Int) := by decide +kernel
  exact this ⟨r, by omega⟩
theorem bsum_low {s j : Nat} (hj : j < 2 ^ s) (L : List Nat) : GP.bsum L j (s + 1) = GP.bsum L j s := by
  show (if j.testBit s then _ else GP.bsum L j s) = _
  rw [Nat.testBit_lt_two_pow hj]; rfl
theorem bsum_high {s j : Nat} (hj : j < 2 ^ s) (L : List Nat) : GP.bsum L (2 ^ s + j) (s + 1) = GP.bsum L j s ^^^ L.getD s 0 := by
  show (if (2 ^ s + j).testBit s then GP.bsum L (2 ^ s + j) s ^^^ L.getD s 0 else _) = _
  rw [testBit_pow_add hj, if_pos rfl]
  have : ∀ n, n ≤ s → GP.bsum L (2 ^ s + j) n = GP.bsum L j n := by
    intro n
    induction n with
    | zero => intro _; rfl
    | succ n ih =>
      intro hn
      show (if (2 ^ s + j).testBit n then GP.bsum L (2 ^ s + j) n ^^^ _ else GP.bsum L (2 ^ s + j) n) = (if j.testBit n then GP.bsum L j n ^^^ _ else GP.bsum L j n)
      rw [ih (by omega), Nat.add_comm, testBit_add_pow (by omega)]
  rw [this s (Nat.le_refl _)]
theorem bsum_wel {r j : Nat} (hr : r ≤ 16) (hj : j < 2 ^ r) : GP.bsum GP.BL j r = GP.wel j := by
  have : ∀ d, r + d ≤ 16 → GP.bsum GP.BL j (r + d) = GP.bsum GP.BL j r := by
    intro d
    induction d with
    | zero => intro _; rfl
    | succ d ih =>
      intro h
      rw [← Nat.add_assoc, bsum_low (Nat.lt_of_lt_of_le hj (Nat.pow_le_pow_right (by decide) (by omega))), ih (by omega)]
  have h := this (16 - r) (by omega)
  rw [show r + (16 - r) = 16 by omega] at h
  exact h.symm
/-- The logarithm of an element, 0 of 0. -/
def lgN (a : Nat) : Nat := if a = 0 then 0 else (tab16.lg 65535 a).getD 0
theorem log_ev {a : Nat} (ha : a < 65536) : lgN a < 65535 ∧ ∃ e : Int, gf16_Tables_Log.f (a : Int) = some ((lgN a : Int), e) := by
  unfold lgN
  by_cases h0 : a = 0
  · subst h0; exact ⟨by simp, 20, R.TLog16_zero⟩
  · obtain ⟨i, hi, hp, hl⟩ := R.log16 ha h0
    rw [if_neg h0, hl]
    exact ⟨hi, 0, R.TLog16 hi hp⟩
/-- The logarithm of the element of the index i, 0 at 0. -/
def lgE (i : Nat) : Int := if i = 0 then 0 else (lgN (GP.wel i) : Int)
set_option maxHeartbeats 4000000 in
set_option maxRecDepth 100000 in
theorem logs_wd (gt r : Nat) (hr : r ≤ 16) (w : World) (hI : IsS69 w w gt) :
    Calls Try.prog 46 #[.pointer (some ⟨gt, 0, none⟩), .int .i64 (r : Int)] w fun e w' => ∃ g, e = .returned (.slice (some ⟨g, 0, none⟩) (2 ^ r) (2 ^ r)) ∧ Wd w' w.heap.size (fun _ => True) g (2 ^ r) (2 ^ r) lgE ∧ w.heap.size ≤ g ∧ Below w.heap.size w w' := by
  obtain ⟨n, hn⟩ : ∃ n, n = 2 ^ r := ⟨_, rfl⟩
  have hsh : wrap64 (2 ^ r) = (n : Int) := by rw [hn]; exact pow_wrap hr
  have hn0 : 1 ≤ n := by rw [hn]; exact Nat.two_pow_pos _
  have hn1 : n ≤ 65536 := by rw [hn]; exact Nat.pow_le_pow_right (by decide) hr
  rw [← hn]
  have HNr := Aside0.mk hn
  have HI := Aside0.mk hI
  obtain ⟨i33, hi33, hz33, hs33, hb33⟩ := info_parts info33'
  have hmk := run_make_row' (P := Try.prog) 22 33 (.int .u16 0) 2 Try.underlying22 info33' rfl .i64 .i64 n (by omega) (by omega)
  have hmk2 : ∀ W : World, (Instr.makeSlice 22 (.int .i64 1) (.int .i64 (n : Int))).run Try.prog W = .ok (.slice (some ⟨W.heap.size, 0, none⟩) 1 n) (W.alloc (.cells (madeCells #[.int .u16 0] n) 33)) := by
    intro W
    have := run_make (P := Try.prog) W 22 33 i33 (.int .u16 0) Try.underlying22 hi33 hz33 .i64 .i64 (1 : Int) (n : Int) (by omega) (by omega) (by rw [hb33]; omega) (by omega)
    simp only [Int.toNat_natCast, hs33, Nat.mul_one] at this
    exact this
  clear hn hI hz33 hb33
  go_enter Try.func46, Try.ntmps46
  go_wp2_with fail
  refine (gf16_Basis.calls _ _ rfl).mono ?_
  rintro e w2 ⟨v7, rfl, hR7, hB7⟩
  obtain ⟨Ab, cb, hv7, hcb, hC7⟩ := Kd.R_reads hR7
  subst hv7
  obtain ⟨ab, rfl, hab⟩ := words_get hC7 (by decide)
  have hbb : w.heap.size + 2 ≤ ab.block := by
    obtain ⟨inner, -, ho⟩ := Kd.R_own hR7
    rcases ho with ⟨e, -⟩ | ⟨g', cp, cur, e, hge, -⟩
    · cases e
    · injection e with e1; injection e1 with e1; rw [e1]; simpa using hge
  obtain ⟨gl, hgl⟩ : ∃ gl, gl = w.heap.size := ⟨_, rfl⟩
  obtain ⟨gw, hgw⟩ : ∃ gw, gw = w.heap.size + 1 := ⟨_, rfl⟩
  have hs2 : w.heap.size + 2 ≤ w2.heap.size := by have := hB7.size; simpa using this
  have hl0 := wd_made w (base := w.heap.size) (n := n) (Nat.le_refl _) (by unfold maxLen; omega)
  have RL : Aside0 (Wd w2 w.heap.size (fun _ => True) gl n n (fun _ => 0)) := ⟨by
    rw [hgl]
    refine Wd.block hl0 ?_
    rw [hB7.block _ (by simp; omega), Below.heap_alloc _ _ _ (by simp)]⟩
  have RW : Aside0 (w2.rowIs gw 33 n (fun _ => .int .u16 0)) := ⟨by
    have h0 := World.rowIs_made (w.alloc (.cells (madeCells #[.int .u16 0] n) 33)) (.int .u16 0) n 33
    rw [show (w.alloc (.cells (madeCells #[.int .u16 0] n) 33)).heap.size = gw by rw [hgw]; simp] at h0
    exact h0.of_block (hB7.block _ (by rw [hgw]; simp))⟩
  have B2 : Aside0 (Below w.heap.size w w2) := ⟨(((Below.refl w.heap.size w).alloc (Nat.le_refl _) _).alloc (by simp) _).trans (hB7.mono (by simp; omega))⟩
  have I2 := Aside0.mk (HI.out.below B2.out)
  have HAB := Aside0.mk hab
  have hgt := IsS69.lt HI.out
  have HGL := Aside0.mk hgl
  have HGW := Aside0.mk hgw
  have HBB := Aside0.mk hbb
  have HS2 := Aside0.mk hs2
  have HGT := Aside0.mk hgt
  rw [show w.heap.size + 1 = gw from hgw.symm, ← hgl]
  clear hR7 hB7 hC7 hab hl0 hmk hmk2 hgt hgl hgw hbb hs2 HI hcb
  go_wp2_with fail
  go_loopg [6, 8, 10, 22, 28, 29, 30] r (fun kq v6 v8 v10 v22 v28 v29 v30 wr => ∃ i p : Nat, kq = r - i ∧ i ≤ r ∧ Aside0 (p = 2 ^ i) ∧ v22 = .int .i64 (i : Int) ∧ v6 = .slice (some ⟨gw, 0, none⟩) p n ∧ p ≤ n ∧ wr.rowIs gw 33 n (fun j => .int .u16 (if j < p then ((GP.bsum GP.BL j i : Nat) : Int) else 0)) ∧ Kept w2 wr (fun k => k = gw) ∧ Below gl w wr)
  case atStart => exact ⟨0, 1, rfl, Nat.zero_le _, ⟨rfl⟩, rfl, rfl, hn0, RW.out.congr (fun j _ => by by_cases e : j < 1; (· rw [if_pos e]; rfl); (· rw [if_neg e])), Kept.refl _ _, by rw [HGL.out]; exact B2.out⟩
  case round =>
    obtain ⟨i, p, rfl, hi, HP, rfl, rfl, hpn, hR, hK, hB⟩ := hrel
    have R1 := Aside0.mk hR
    have K1 := Aside0.mk hK
    have B1 := Aside0.mk hB
    clear hR hK hB RW
    by_cases hlt : i < r
    · have hp2 : 2 * p ≤ n := by
        rw [HP.out, HNr.out, show 2 * 2 ^ i = 2 ^ (i + 1) by rw [Nat.pow_succ]; omega]
        exact Nat.pow_le_pow_right (by decide) (by omega)
      have hshi : wrap64 (2 ^ i) = (p : Int) := by rw [HP.out]; exact pow_wrap (by omega)
      have hp0 : 1 ≤ p := by rw [HP.out]; exact Nat.two_pow_pos _
      have hcut := cut_to (P := Try.prog) 22 33 .i64 Try.underlying22 hi33 (some ⟨gw, 0, none⟩) p n (p : Int) (by omega) (by omega) hpn
      rw [Int.toNat_natCast] at hcut
      have hib : i < gf16_basis.L.length := by show i < 16; omega
      go_wp2_with fail
      have R2 : Aside0 (wr.rowIs gw 33 n (fun j => .int .u16 (if j < p then ((GP.bsum GP.BL j (i + 1) : Nat) : Int) else 0))) := ⟨R1.out.congr (fun j _ => by
        by_cases e : j < p
        · rw [if_pos e, if_pos e, bsum_low (by rw [← HP.out]; exact e)]
        · rw [if_neg e, if_neg e])⟩
      clear R1 hcut hshi
      go_loopg [6, 10, 30] p (fun kq v6 v10 v30 wr => ∃ k : Nat, kq = p - k ∧ k ≤ p ∧ v30 = .int .i64 (k : Int) ∧ v6 = .slice (some ⟨gw, 0, none⟩) (p + k) n ∧ wr.rowIs gw 33 n (fun j => .int .u16 (if j < p + k then ((GP.bsum GP.BL j (i + 1) : Nat) : Int) else 0)) ∧ Kept w2 wr (fun k => k = gw) ∧ Below gl w wr)
      case atStart => exact ⟨0, rfl, Nat.zero_le _, rfl, rfl, R2.out, K1.out, B1.out⟩
      case round =>
        obtain ⟨k, rfl, hk, rfl, rfl, hR, hK, hB⟩ := hrel
        have R3 := Aside0.mk hR
        have K3 := Aside0.mk hK
        have B3 := Aside0.mk hB
        clear hR hK hB R2 K1 B1
        by_cases hkp : k < p
        · have c1 := R3.out.cell (i := k) (by omega)
          rw [if_pos (by omega)] at c1
          have hw2b : ab.block < w2.heap.size := World.block_lt_of_cell? w2 _ (by have := HAB.out 0 (by decide); rwa [Addr.add_zero'] at this)
          have c2 : wr.cell? (ab.add i) = some (.int .u16 (gf16_basis.L.getD i 0)) := by
            refine cell_kept (HAB.out i hib) K3.out ?_
            have := HBB.out
            have := HGW.out
            show ¬ (ab.add i).block = gw
            have e : (ab.add i).block = ab.block := by unfold Addr.add; split <;> rfl
            omega
          rw [R.basis_getD] at c2
          obtain ⟨x, hx⟩ : ∃ x, x = GP.bsum GP.BL k (i + 1) := ⟨_, rfl⟩
          obtain ⟨b, hb⟩ : ∃ b, b = GP.BL.getD i 0 := ⟨_, rfl⟩
          rw [← hx] at c1
          rw [← hb] at c2
          have x1 : x < 65536 := by rw [hx]; exact GP.bsum_lt _ (GP.getD_lt (by decide)) _ _
          have b1 : b < 65536 := by rw [hb]; exact R.BL_lt i
          have hxr : Go.bits .xor .u16 (x : Int) (b : Int) = ((x ^^^ b : Nat) : Int) := R.bits_xor16 x1 b1
          obtain ⟨y, hy⟩ : ∃ y, y = x ^^^ b := ⟨_, rfl⟩
          rw [← hy] at hxr
          have HY : Aside0 (y = GP.bsum GP.BL (p + k) (i + 1)) := ⟨by
            rw [hy, hx, hb, HP.out, bsum_high (by rw [← HP.out]; exact hkp), bsum_low (by rw [← HP.out]; exact hkp)]⟩
          clear hx hb hy
          go_wp2_with (at_builtin; refine wpList_append1 rfl (.tmp 34) (.tmp 41) 22 33 i33 rfl Try.underlying22 hi33 hs33 rfl rfl (R3.out.alloc _) (by omega) (ad := ⟨wr.heap.size, 0, none⟩) (v := .int .u16 (y : Int)) ?a1 rfl ?_)
          case a1 => simp
          intro W1 hrow hbut
          have R4 := Aside0.mk (hrow.congr (g := fun j => .int .u16 (if j < p + (k + 1) then ((GP.bsum GP.BL j (i + 1) : Nat) : Int) else 0)) (fun j hj => by
            by_cases e : j = p + k
            · rw [if_pos e, if_pos (by omega), HY.out, e]
            · rw [if_neg e]
              have : j < p + k ↔ j < p + (k + 1) := by omega
              simp only [this]))
          have K4 := Aside0.mk ((K3.out.alloc (.cells #[.int .u16 (y : Int)] 33)).then_ (S2 := fun k => k = gw) ⟨Nat.le_of_eq hbut.size.symm, fun i hi hn => hbut.block i hn⟩ (fun k hk => .inl hk))
          have B4 := Aside0.mk ((B3.out.alloc (by have := B3.out.size; have := HGL.out; omega) (.cells #[.int .u16 (y : Int)] 33)).trans (hbut.below (B := gl) (by have := HGL.out; have := HGW.out; omega)))
          clear hrow hbut R3 K3 B3 c1 c2 hxr
          go_wp2_with fail
          go_roundg (p - (k + 1))
          case measure => omega
          case rel => exact ⟨k + 1, rfl, by omega, by go_num, rfl, R4.out, K4.out, B4.out⟩
        · have hkk : k = p := by omega
          subst hkk
          go_wp2_with fail
          go_roundg (r - (i + 1))
          case measure => omega
          case rel => exact ⟨i + 1, k + k, rfl, by omega, ⟨by rw [Nat.pow_succ, ← HP.out]; omega⟩, by go_num, rfl, by omega, R3.out, K3.out, B3.out⟩
    · have hir : i = r := by omega
      subst hir
      have hpn' : p = n := by rw [HP.out, HNr.out]
      subst hpn'
      have R5 : Aside0 (wr.rowIs gw 33 p (fun j => .int .u16 ((GP.wel j : Nat) : Int))) := ⟨R1.out.congr (fun j hj => by rw [if_pos hj, bsum_wel hr (by rw [← HP.out]; exact hj)])⟩
      have hgl2 := RL.out.lt hn0
      have L5 : Aside0 (Wd wr w.heap.size (fun _ => True) gl p p (fun j => if j < 1 then lgE j else 0)) := ⟨(RL.out.block (K1.out.2 gl hgl2 (by have := HGL.out; have := HGW.out; omega))).congr (fun j _ => by
        by_cases e : j < 1
        · rw [if_pos e]; unfold lgE; rw [if_pos (by omega)]
        · rw [if_neg e])⟩
      have I5 : Aside0 (IsS69 wr wr gt) := ⟨IsS69.kept I2.out K1.out (by have := HGT.out; have := HGW.out; omega)⟩
      obtain ⟨w5, hw5⟩ : ∃ w5, w5 = wr := ⟨_, rfl⟩
      clear R1 RL K1 hgl2 I2
      have B5 := Aside0.mk B1.out
      clear B1
      have K5 : Aside0 (Kept w5 wr (fun k => k = gl)) := ⟨by rw [hw5]; exact Kept.refl _ _⟩
      rw [← hw5] at R5 I5
      clear hw5
      go_wp2_with fail
      go_loopg [11, 12, 13] (p - 1) (fun kq v11 v12 v13 wr => ∃ q : Nat, kq = p - q ∧ 1 ≤ q ∧ q ≤ p ∧ v11 = .int .i64 (q : Int) ∧ Wd wr w.heap.size (fun _ => True) gl p p (fun j => if j < q then lgE j else 0) ∧ Kept w5 wr (fun k => k = gl) ∧ Below gl w wr)
      case atStart => exact ⟨1, rfl, Nat.le_refl _, hn0, rfl, L5.out, K5.out, B5.out⟩
      case round =>
        obtain ⟨q, rfl, hq1, hq, rfl, hR, hK, hB⟩ := hrel
        have L6 := Aside0.mk hR
        have K6 := Aside0.mk hK
        have B6 := Aside0.mk hB
        clear hR hK hB L5 K5 B5
        by_cases hqp : q < p
        · have c1 : wr.cell? ⟨gw, q, none⟩ = some (.int .u16 ((GP.wel q : Nat) : Int)) := (R5.out.of_block (K6.out.2 gw R5.out.lt (by have := HGL.out; have := HGW.out; omega))).cell hqp
          obtain ⟨c2, f2⟩ := L6.out.at_ hqp
          rw [if_neg (Nat.lt_irrefl q)] at c2
          obtain ⟨x, hx⟩ : ∃ x, x = GP.wel q := ⟨_, rfl⟩
          rw [← hx] at c1
          have x1 : x < 65536 := by rw [hx]; exact GP.wel_lt q
          obtain ⟨hl1, el, hl2⟩ := log_ev x1
          obtain ⟨y, hy⟩ : ∃ y, y = lgN x := ⟨_, rfl⟩
          rw [← hy] at hl1 hl2
          have HLG := Aside0.mk hl2
          have I6 : Aside0 (IsS69 wr wr gt) := ⟨IsS69.kept I5.out K6.out (by have := HGT.out; have := HGL.out; omega)⟩
          have HY : Aside0 ((y : Int) = lgE q) := ⟨by unfold lgE; rw [if_neg (by omega), hy, hx]⟩
          clear hx hy hl2
          go_wp2_with (go_at_call 58; refine (gf16_Tables_Log.calls gt _ _ _ _ I6.out HLG.out).mono ?_; rintro e w' ⟨rfl, hD⟩; obtain ⟨nd, rfl⟩ := hD.out)
          have L7 := ((L6.out.drewN nd).put q (y : Int)).congr (G := fun j => if j < q + 1 then lgE j else 0) (fun j hj => by
            show (if j = q then (y : Int) else if j < q then lgE j else 0) = _
            by_cases e : j = q
            · rw [if_pos e, if_pos (by omega), HY.out, e]
            · rw [if_neg e]
              have : j < q ↔ j < q + 1 := by omega
              simp only [this])
          go_roundg (p - (q + 1))
          case measure => omega
          case rel => exact ⟨q + 1, rfl, by omega, by omega, by go_num, L7, (K6.out.drewN nd).setCell (p := ⟨gl, q, none⟩) (.inl rfl) _, (pw_below_drewN B6.out nd).setCell (p := ⟨gl, q, none⟩) (Nat.le_refl _) _⟩
        · go_wp2_with fail
          go_ret
          exact ⟨gl, rfl, L6.out.congr (fun j hj => by rw [if_pos (by omega)]), by rw [HGL.out]; exact Nat.le_refl _, by rw [← HGL.out]; exact B6.out⟩
end Go.Proofs.Ytklkcenffajfeaa.A
