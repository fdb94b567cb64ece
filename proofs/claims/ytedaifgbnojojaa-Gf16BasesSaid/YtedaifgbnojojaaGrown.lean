/- grown: marks are written into each list, each is grown; all hold what was written. -/
import Derived.Test.YtedaifgbnojojaaLists
import Derived.Test.YtedaifgbnojojaaAx2
import Derived.Outline
import Derived.Deep.LoopGhost
namespace Go.Proofs.Ytedaifgbnojojaa.A
open Go.RowKit Go.Deep Go.Proofs.YtedaifgbnojojaaW.PrintWords Go.Proofs.YtedaifgbnojojaaW.PrintLast Go.Proofs.YtedaifgbnojojaaW.PrintMore Go.Proofs.Ytedaifgbnojojaa.R
set_option linter.unusedVariables false
set_option linter.unusedSimpArgs false
set_option maxRecDepth 100000
theorem inf25 : (Try.prog.info? 25).map (fun i => (i.zero, i.size, i.bytes)) = some (some (.int .u16 0), 1, 2) := by kernel_rfl
theorem inf48 : (Try.prog.info? 48).map (fun i => (i.zero, i.size, i.bytes)) = some (some (.slice none 0 0), 1, 24) := by kernel_rfl
def mk1 (i p : Nat) : Int := IntKind.u16.wrap (1000 * (i : Int) + (p : Int) + 7)
def mk2 (i p : Nat) : Int := IntKind.u16.wrap (30000 + 100 * (i : Int) + (p : Int))
def nw (i p : Nat) : List Int := (List.range p).map (mk2 i)
theorem nw_succ (i p : Nat) : nw i (p + 1) = nw i p ++ [mk2 i p] := by unfold nw; rw [List.range_succ, List.map_append]; rfl
theorem nw_len (i p : Nat) : (nw i p).length = p := by simp [nw]
theorem nw_get {i p q : Nat} (h : q < p) : (nw i p).getD q 0 = mk2 i q := by unfold nw; rw [List.getD_eq_getElem?_getD, List.getElem?_map, List.getElem?_range h]; rfl
theorem hdr_cell {W : World} {hb t : Nat} {H : List Value} (h : W.heap[hb]? = some (.cells H.toArray t (0, 0))) (i : Nat) {v : Value} (hv : H[i]? = some v) : W.cell? ⟨hb, i, none⟩ = some v := by
  rw [blk_cell h i, List.getElem?_toArray, hv]
theorem blk_CH {W : World} {b : Nat} {t : TypeId} {hs : List Hd} (h : W.heap[b]? = some (.cells (hs.map encH).toArray t (0, 0))) (hl : hs.length ≤ 9223372036854775807) : (Kd.scalar encH (fun _ => rfl)).C W (some ⟨b, 0, none⟩) hs.length hs := by
  refine ⟨rfl, hl, fun _ => ⟨_, rfl, fun j p hj => ⟨[encH p], rfl, rfl, fun i u hi => ?_⟩⟩⟩
  have hi0 : i = 0 := by
    rcases i with _ | i
    · rfl
    · simp at hi
  subst hi0
  have hu : u = encH p := by simpa using hi.symm
  subst hu
  have : ((⟨b, 0, none⟩ : Addr).add (j * (Kd.scalar encH (fun _ => rfl)).sz + 0)) = ⟨b, j, none⟩ := by
    show (⟨b, 0, none⟩ : Addr).add (j * 1 + 0) = _
    unfold Addr.add; split <;> simp_all
  rw [this, blk_cell h j, List.getElem?_toArray, List.getElem?_map, hj]; rfl
set_option maxHeartbeats 4000000 in
theorem grown_is (n hb c base : Nat) (hs : Nat → Hd) (xs : Nat → List Int) (H : List Value) (w : World) (hH : w.heap[hb]? = some (.cells H.toArray 48 (0, 0))) (hHi : ∀ i, i < n → H[i]? = some (encH (hs i))) (L : Lg w .u16 25 base n hs hs xs xs) (hn : n ≤ 1000) (hm : ∀ i, i < n → (xs i).length ≤ 1000000) (hbase : base ≤ w.heap.size) :
    Calls Try.prog 50 #[.slice (some ⟨hb, 0, none⟩) n c] w fun e w' => e = .returned (.bool true) ∧ Below base w w' := by
  have HH := Aside0.mk (And.intro hHi hm)
  have HL := Aside0.mk (And.intro L (And.intro hH hbase))
  clear hH hHi L hm hbase
  go_enter Try.func50, Try.ntmps50
  go_wp2
  go_loopg [16] n (fun k v16 wr => ∃ (i : Nat) (zs : Nat → List Int), v16 = .int .i64 (i : Int) ∧ i ≤ n ∧ k = n - i ∧ Lg wr .u16 25 base n hs hs zs zs ∧ (∀ j, (zs j).length = (xs j).length) ∧ (∀ j p, j < i → p < (xs j).length → (zs j).getD p 0 = mk1 j p) ∧ Below base w wr ∧ wr.heap[hb]? = some (.cells H.toArray 48 (0, 0)))
  case atStart => exact ⟨0, xs, rfl, Nat.zero_le _, rfl, HL.out.1, fun _ => rfl, fun j p h => absurd h (Nat.not_lt_zero _), Below.refl _ _, HL.out.2.1⟩
  case round =>
  obtain ⟨i, zs, rfl, hi, rfl, hL, hzl, hz, hB, hhb⟩ := hrel
  have HR := Aside0.mk (And.intro hL (And.intro hzl (And.intro hz (And.intro hB hhb))))
  clear hL hzl hz hB hhb
  by_cases hlt : i < n
  · have hlt0 : decide ((i : Int) < (n : Int)) = true := decide_eq_true (by omega)
    obtain ⟨A, m, c2, hhs⟩ : ∃ A m c2, hs i = (A, m, c2) := ⟨_, _, _, rfl⟩
    have hcell : wr.cell? ⟨hb, i, none⟩ = some (.slice A m c2) := hdr_cell HR.out.2.2.2.2 i (by rw [HH.out.1 i hlt, hhs]; rfl)
    have hmx : m = (xs i).length := by have := (HR.out.1.old i hlt).len.1; rw [hhs] at this; rw [← HR.out.2.1 i]; exact this
    have HM := Aside0.mk (And.intro hmx hhs)
    have hmb : m ≤ 1000000 := by rw [hmx]; exact HH.out.2 i hlt
    clear hmx hhs
    go_wp2
    go_loopg [23] m (fun k v23 wr' => ∃ (p : Nat) (zs' : Nat → List Int), v23 = .int .i64 (p : Int) ∧ p ≤ m ∧ k = m - p ∧ Lg wr' .u16 25 base n hs hs zs' zs' ∧ (∀ j, (zs' j).length = (xs j).length) ∧ (∀ j q, (j < i ∨ (j = i ∧ q < p)) → q < (xs j).length → (zs' j).getD q 0 = mk1 j q) ∧ Below base w wr' ∧ wr'.heap[hb]? = some (.cells H.toArray 48 (0, 0)))
    case atStart => exact ⟨0, zs, rfl, Nat.zero_le _, rfl, HR.out.1, HR.out.2.1, fun j q h => HR.out.2.2.1 j q (by omega), HR.out.2.2.2.1, HR.out.2.2.2.2⟩
    case round =>
    clear hcell HR
    obtain ⟨p, zs', rfl, hp, rfl, hL, hzl, hz, hB, hhb⟩ := hrel
    have HR := Aside0.mk (And.intro hL (And.intro hzl (And.intro hz (And.intro hB hhb))))
    clear hL hzl hz hB hhb
    by_cases hpl : p < m
    · have hpl0 : decide ((p : Int) < (m : Int)) = true := decide_eq_true (by omega)
      have hlz : (zs' i).length = m := by rw [HR.out.2.1 i]; exact HM.out.1.symm
      have hr := HR.out.1.old i hlt
      rw [HM.out.2] at hr
      obtain ⟨g, c3, hform⟩ := hr.form (by omega)
      obtain ⟨hA, -, hc3⟩ := Prod.mk.inj hform |>.imp id Prod.mk.inj
      subst hA
      obtain ⟨hc, hf⟩ := hr.cell rfl p (by omega)
      obtain ⟨z, hz⟩ : ∃ z, z = mk1 i p := ⟨_, rfl⟩
      have hPut := HR.out.1.put (p := p) hlt HM.out.2 z
      have e1 : IntKind.i64.wrap (1000 * (i : Int)) = 1000 * (i : Int) := by rw [IntKind.wrap_i64]; omega
      have e2 : IntKind.i64.wrap (1000 * (i : Int) + (p : Int)) = 1000 * (i : Int) + (p : Int) := by rw [IntKind.wrap_i64]; omega
      have e3 : IntKind.i64.wrap (1000 * (i : Int) + (p : Int) + 7) = 1000 * (i : Int) + (p : Int) + 7 := by rw [IntKind.wrap_i64]; omega
      have e4 : IntKind.u16.wrap (1000 * (i : Int) + (p : Int) + 7) = z := hz.symm
      have hpi : (0 : Int) ≤ (p : Int) ∧ (p : Int) < (m : Int) := by omega
      obtain ⟨y, hy⟩ : ∃ y, y = (zs' i).getD p 0 := ⟨_, rfl⟩
      rw [← hy] at hc
      have hne : g ≠ hb := fun e => hr.other HR.out.2.2.2.2 (by decide) (by rw [← e]; rfl)
      have HP := Aside0.mk (And.intro hPut (And.intro hz (And.intro hne (And.intro hr.ge hlz))))
      clear hPut hz hne hr hform hc3 hy hlz
      go_wp2
      go_roundg (m - (p + 1))
      case measure => omega
      case rel =>
        refine ⟨p + 1, _, rfl, by omega, rfl, HP.out.1, fun j => ?_, fun j q hq hq2 => ?_, HR.out.2.2.2.1.setCell (by have := HP.out.2.2.2.1 g rfl; exact this) _, blk_far HR.out.2.2.2.2 (p := ⟨g, p, none⟩) (fun e => HP.out.2.2.1 e.symm) _⟩
        · by_cases hji : j = i
          · subst hji; rw [if_pos rfl, List.length_set]; exact HR.out.2.1 j
          · rw [if_neg hji]; exact HR.out.2.1 j
        · by_cases hji : j = i
          · subst hji
            rw [if_pos rfl]
            by_cases hqp : q = p
            · subst hqp
              rw [List.getD_eq_getElem?_getD, List.getElem?_set_self (by rw [HP.out.2.2.2.2]; omega), HP.out.2.1]; rfl
            · rw [List.getD_eq_getElem?_getD, List.getElem?_set_ne (fun e => hqp e.symm), ← List.getD_eq_getElem?_getD]
              exact HR.out.2.2.1 j q (by omega) hq2
          · rw [if_neg hji]; exact HR.out.2.2.1 j q (by omega) hq2
    have hpl0 : decide ((p : Int) < (m : Int)) = false := decide_eq_false (by omega)
    go_wp2
    go_roundg (n - (i + 1))
    case measure => omega
    case rel => exact ⟨i + 1, zs', rfl, by omega, rfl, HR.out.1, HR.out.2.1, fun j q hj hq => HR.out.2.2.1 j q (by have := HM.out.1; by_cases hji : j = i; (subst hji; exact .inr ⟨rfl, by omega⟩); exact .inl (by omega)) hq, HR.out.2.2.2.1, HR.out.2.2.2.2⟩
  have hlt0 : decide ((i : Int) < (n : Int)) = false := decide_eq_false (by omega)
  obtain rfl : n = i := by omega
  go_wp2
  have HX := Aside0.mk HR.out
  clear HR hlt0 hlt
  generalize wr = w2 at HX ⊢
  go_loopg [6, 39] n (fun k v6 v39 wr => ∃ (i : Nat) (gs : Nat → Hd) (ys : Nat → List Int) (gm : Hd), v6 = encH gm ∧ v39 = .int .i64 (i : Int) ∧ i ≤ n ∧ k = n - i ∧ Lg wr .u16 25 base n hs gs zs ys ∧ (∀ j, i ≤ j → gs j = hs j ∧ ys j = zs j) ∧ (∀ j, j < i → ys j = zs j ++ nw j 80) ∧ (Kd.scalar encH (fun _ => rfl)).R 48 wr base (fun _ => True) (encH gm) ((List.range i).map gs) ∧ Below base w wr ∧ wr.heap[hb]? = some (.cells H.toArray 48 (0, 0)) ∧ (∀ b, hown gm = some b → b ≠ hb) ∧ base ≤ wr.heap.size)
  case atStart => exact ⟨0, hs, zs, (none, 0, 0), rfl, rfl, Nat.zero_le _, rfl, HX.out.1, fun _ _ => ⟨rfl, rfl⟩, fun j h => absurd h (Nat.not_lt_zero _), Kd.R_nil _ _ _ _ _, HX.out.2.2.2.1, HX.out.2.2.2.2, fun b hb => by simp [hown] at hb, Nat.le_trans HL.out.2.2 HX.out.2.2.2.1.size⟩
  case round =>
  obtain ⟨i, gs, ys, gm, rfl, rfl, hi, rfl, hL, hge, hlo, hM, hB, hhb, hmo, hbs⟩ := hrel
  have HR := Aside0.mk (And.intro hL (And.intro hge (And.intro hlo (And.intro hM (And.intro hB (And.intro hhb (And.intro hmo hbs)))))))
  clear hL hge hlo hM hB hhb hmo hbs
  by_cases hlt : i < n
  · have hlt0 : decide ((i : Int) < (n : Int)) = true := decide_eq_true (by omega)
    have hcell : wr.cell? ⟨hb, i, none⟩ = some (encH (hs i)) := hdr_cell HR.out.2.2.2.2.2.1 i (HH.out.1 i hlt)
    have hzb : (zs i).length ≤ 1000000 := by rw [HX.out.2.1 i]; exact HH.out.2 i hlt
    go_wp2
    go_loopg [8, 9] 80 (fun k v8 v9 wr' => ∃ (p : Nat) (g : Hd), v8 = encH g ∧ v9 = .int .i64 (p : Int) ∧ p ≤ 80 ∧ k = 80 - p ∧ Lg wr' .u16 25 base n hs (fun j => if j = i then g else gs j) zs (fun j => if j = i then zs i ++ nw i p else ys j) ∧ (Kd.scalar encH (fun _ => rfl)).R 48 wr' base (fun _ => True) (encH gm) ((List.range i).map gs) ∧ Below base w wr' ∧ wr'.heap[hb]? = some (.cells H.toArray 48 (0, 0)) ∧ base ≤ wr'.heap.size)
    case atStart =>
      obtain ⟨e1, e2⟩ := HR.out.2.1 i (Nat.le_refl _)
      refine ⟨0, hs i, rfl, rfl, Nat.zero_le _, rfl, ?_, HR.out.2.2.2.1, HR.out.2.2.2.2.1, HR.out.2.2.2.2.2.1, HR.out.2.2.2.2.2.2.2⟩
      have f1 : (fun j => if j = i then hs i else gs j) = gs := by
        funext j; by_cases hji : j = i
        · subst hji; rw [if_pos rfl, e1]
        · rw [if_neg hji]
      have f2 : (fun j => if j = i then zs i ++ nw i 0 else ys j) = ys := by
        funext j; by_cases hji : j = i
        · subst hji; rw [if_pos rfl, e2]; simp [nw]
        · rw [if_neg hji]
      rw [f1, f2]; exact HR.out.1
    case round =>
    clear hcell
    obtain ⟨p, g, rfl, rfl, hp, rfl, hL, hM, hB, hhb, hbs⟩ := hrel
    have HS := Aside0.mk (And.intro hL (And.intro hM (And.intro hB (And.intro hhb hbs))))
    clear hL hM hB hhb hbs
    by_cases hpl : p < 80
    · have hpl0 : decide ((p : Int) < 80) = true := decide_eq_true (by omega)
      obtain ⟨z, hz⟩ : ∃ z, z = mk2 i p := ⟨_, rfl⟩
      have e1 : IntKind.i64.wrap (100 * (i : Int)) = 100 * (i : Int) := by rw [IntKind.wrap_i64]; omega
      have e2 : IntKind.i64.wrap (30000 + 100 * (i : Int)) = 30000 + 100 * (i : Int) := by rw [IntKind.wrap_i64]; omega
      have e3 : IntKind.i64.wrap (30000 + 100 * (i : Int) + (p : Int)) = 30000 + 100 * (i : Int) + (p : Int) := by rw [IntKind.wrap_i64]; omega
      have e4 : IntKind.u16.wrap (30000 + 100 * (i : Int) + (p : Int)) = z := hz.symm
      have hrow := HS.out.1.new i hlt
      simp only [if_pos] at hrow
      have HA := Aside0.mk (And.intro (Row.keep (W' := wr.alloc (.cells #[.int .u16 z] 25)) hrow (fun b hb => (below_alloc (Below.refl _ _) _).block b (hrow.lt b hb))) (And.intro (blk_new wr (.cells #[.int .u16 z] 25 (0, 0))) (And.intro (show base ≤ (wr.alloc (.cells #[.int .u16 z] 25)).heap.size by have := HS.out.2.2.2.2; simp; omega) hz)))
      clear hrow hz
      go_wp2_with (first
        | (refine wp_app (k := .u16) (base := base) rfl (.tmp 48) (.tmp 55) rfl Try.underlying48 inf25 rfl g (zs i ++ nw i p) z ⟨wr.heap.size, 0, none⟩ 1 rfl rfl HA.out.1 (by rw [blk_cell HA.out.2.1 0]; rfl) HA.out.2.2.1 (by rw [List.length_append, nw_len]; omega) (by decide) ?_
           intro g' w1 hr hor
           have HW := Aside0.mk (And.intro hr hor)
           clear hr hor))
      go_roundg (80 - (p + 1))
      case measure => omega
      case rel =>
        have hL1 : Lg (wr.alloc (.cells #[.int .u16 z] 25)) .u16 25 base n hs (fun j => if j = i then g else gs j) zs (fun j => if j = i then zs i ++ nw i p else ys j) := HS.out.1.below (below_alloc (Below.refl _ _) _)
        have hL2 := hL1.grow hlt (g' := g') (y := z) (by simp only [if_pos]; exact HW.out.1) (by simp only [if_pos]; exact HW.out.2)
        have hgrow : ∃ ro, (wr.alloc (.cells #[.int .u16 z] 25)).grownBy w1 ro ∧ ∀ b, ro = some b → ∃ cells, (wr.alloc (.cells #[.int .u16 z] 25)).heap[b]? = some (.cells cells 25 (0, 0)) ∧ base ≤ b := by
          rcases HW.out.2 with ⟨_, _, hg⟩ | ⟨_, hg⟩
          · exact ⟨_, hg, fun b hb => (HA.out.1.typed b hb).imp fun cells hc => ⟨hc, HA.out.1.ge b hb⟩⟩
          · exact ⟨none, hg, fun b hb => by cases hb⟩
        obtain ⟨ro, hg, hro⟩ := hgrow
        refine ⟨p + 1, g', rfl, rfl, by omega, rfl, ?_, ?_, ?_, ?_, Nat.le_trans HA.out.2.2.1 hg.size⟩
        · have f1 : (fun j => if j = i then g' else (if j = i then g else gs j)) = (fun j => if j = i then g' else gs j) := by
            funext j; by_cases hji : j = i
            · rw [if_pos hji, if_pos hji]
            · rw [if_neg hji, if_neg hji, if_neg hji]
          have f2 : (fun j => if j = i then (if i = i then zs i ++ nw i p else ys i) ++ [z] else (if j = i then zs i ++ nw i p else ys j)) = (fun j => if j = i then zs i ++ nw i (p + 1) else ys j) := by
            funext j; by_cases hji : j = i
            · rw [if_pos hji, if_pos hji, if_pos rfl, nw_succ, ← HA.out.2.2.2, List.append_assoc]
            · rw [if_neg hji, if_neg hji, if_neg hji]
          rw [f1, f2] at hL2
          exact hL2
        · refine Kd.R_mono (ok := fun b => (encH gm).ownBlock = some b) (Kd.R_step (Kd.R_of_own (ok := fun b => (encH gm).ownBlock = some b) (Kd.own_of_R HS.out.2.1) (fun b hb => hb)) (fun b hb hlt2 => ?_)) (fun _ _ => trivial)
          have h1 : (wr.alloc (.cells #[.int .u16 z] 25)).heap[b]? = wr.heap[b]? := (below_alloc (Below.refl _ _) _).block b hlt2
          refine (hg.block b (Nat.lt_of_lt_of_le hlt2 (below_alloc (Below.refl _ _) (.cells #[.int .u16 z] 25 (0, 0))).size) (fun he => ?_)).trans h1
          obtain ⟨cells, hc, _⟩ := hro b he.symm
          obtain ⟨cells2, hc2⟩ := own_typed (Kd.own_of_R HS.out.2.1) b hb
          rw [h1, hc2] at hc
          injection hc with hc
          injection hc with _ hc
          cases hc
        · exact (HS.out.2.2.1.alloc HS.out.2.2.2.2 _).grown hg HA.out.2.2.1 (fun k hk => by obtain ⟨_, _, h⟩ := hro k hk; exact h)
        · have h1 : (wr.alloc (.cells #[.int .u16 z] 25)).heap[hb]? = some (.cells H.toArray 48 (0, 0)) := blk_alloc HS.out.2.2.2.1 _
          refine (hg.block hb (blk_lt h1) (fun he => ?_)).trans h1
          obtain ⟨cells, hc, _⟩ := hro hb he.symm
          rw [h1] at hc
          injection hc with hc
          injection hc with _ hc
          cases hc
    have hpl0 : decide ((p : Int) < 80) = false := decide_eq_false (by omega)
    obtain rfl : p = 80 := by omega
    obtain ⟨Ag, mg, cg, rfl⟩ : ∃ A m c, g = (A, m, c) := ⟨_, _, _, rfl⟩
    rw [show encH (Ag, mg, cg) = .slice Ag mg cg from rfl]
    have HA := Aside0.mk (And.intro (Kd.R_alloc HS.out.2.1 (.cells #[.slice Ag mg cg] 48)) (And.intro (blk_CH (hs := [(Ag, mg, cg)]) (blk_new wr (.cells #[.slice Ag mg cg] 48 (0, 0))) (by simp)) (show base ≤ (wr.alloc (.cells #[.slice Ag mg cg] 48)).heap.size by have := HS.out.2.2.2.2; simp; omega)))
    go_wp2_with (first
      | (refine Kd.R_append_row (w0 := wr.alloc (.cells #[.slice Ag mg cg] 48)) encH (none, 0, 0) base rfl (.tmp 57) (.tmp 59) 75 48 (.slice none 0 0) 24 rfl Try.underlying75 inf48 rfl (by decide) (encH gm) ((List.range i).map gs) [(Ag, mg, cg)] (some ⟨wr.heap.size, 0, none⟩) 1 1 (fun _ => True) rfl rfl (fun _ _ => trivial) HA.out.1 HA.out.2.1 (Below.refl _ _) HA.out.2.2 (by rw [List.length_map, List.length_range]; omega) ?_
         intro v1 w1 hR hb hg hat
         obtain ⟨A1, c1, rfl⟩ := Kd.R_slice hR
         have HW := Aside0.mk (And.intro hR (And.intro hb (And.intro hg hat)))
         clear hR hb hg hat))
    go_roundg (n - (i + 1))
    case measure => omega
    case rel =>
      have hL1 : Lg (wr.alloc (.cells #[.slice Ag mg cg] 48)) .u16 25 base n hs (fun j => if j = i then (Ag, mg, cg) else gs j) zs (fun j => if j = i then zs i ++ nw i 80 else ys j) := HS.out.1.below (below_alloc (Below.refl _ _) _)
      have hnot : ∀ b cells, (wr.alloc (.cells #[.slice Ag mg cg] 48)).heap[b]? = some (.cells cells 25 (0, 0)) → some b ≠ (encH gm).ownBlock := fun b cells hc he => by
        obtain ⟨cells2, hc2⟩ := own_typed (Kd.own_of_R HA.out.1) b he.symm
        rw [hc] at hc2
        injection hc2 with hc2
        injection hc2 with _ hc2
        cases hc2
      have hL2 : Lg w1 .u16 25 base n hs (fun j => if j = i then (Ag, mg, cg) else gs j) zs (fun j => if j = i then zs i ++ nw i 80 else ys j) := hL1.keep (fun j b hj hbj => HW.out.2.2.1.block b (by rcases hbj with h | h; exact (hL1.old j hj).lt b h; exact (hL1.new j hj).lt b h) (by
        rcases hbj with h | h
        · obtain ⟨cells, hc⟩ := (hL1.old j hj).typed b h; exact hnot b cells hc
        · obtain ⟨cells, hc⟩ := (hL1.new j hj).typed b h; exact hnot b cells hc))
      have hlen1 : ((List.range i).map gs ++ [(Ag, mg, cg)]).length = i + 1 := by simp
      have hmap : (List.range (i + 1)).map (fun j => if j = i then (Ag, mg, cg) else gs j) = (List.range i).map gs ++ [(Ag, mg, cg)] := by
        rw [List.range_succ, List.map_append]
        congr 1
        · refine List.map_congr_left (fun j hj => ?_)
          have := List.mem_range.1 hj
          rw [if_neg (by omega)]
        · simp
      have hR1 := HW.out.1
      rw [hlen1] at hR1
      refine ⟨i + 1, _, _, (A1, i + 1, c1), rfl, rfl, by omega, rfl, hL2, fun j hj => ?_, fun j hj => ?_, ?_, ?_, ?_, ?_, Nat.le_trans HA.out.2.2 HW.out.2.2.1.size⟩
      · rw [if_neg (by omega), if_neg (by omega)]; exact HR.out.2.1 j (by omega)
      · by_cases hji : j = i
        · subst hji; rw [if_pos rfl]
        · rw [if_neg hji]; exact HR.out.2.2.1 j (by omega)
      · rw [hmap]; exact hR1
      · exact (HS.out.2.2.1.alloc HS.out.2.2.2.2 _).grown HW.out.2.2.1 HA.out.2.2 (fun k hk => own_base (Kd.own_of_R HA.out.1) k hk)
      · have h1 : (wr.alloc (.cells #[.slice Ag mg cg] 48)).heap[hb]? = some (.cells H.toArray 48 (0, 0)) := blk_alloc HS.out.2.2.2.1 _
        exact (HW.out.2.2.1.block hb (blk_lt h1) (fun he => HR.out.2.2.2.2.2.2.1 hb (by rw [← own_encH]; exact he.symm) rfl)).trans h1
      · intro b hb2 hbe
        subst hbe
        have hat := HW.out.2.2.2
        rw [hlen1] at hat
        have hb3 : (Value.slice A1 (i + 1) c1).ownBlock = some b := by have := own_encH (A1, i + 1, c1); exact this.trans hb2
        rcases hat with hat | ⟨b', hb', hle⟩
        · exact HR.out.2.2.2.2.2.2.1 b (by rw [← own_encH]; exact hat.symm.trans hb3) rfl
        · have h4 := Option.some.inj (hb'.symm.trans hb3)
          have := blk_lt HS.out.2.2.2.1
          have h5 : (wr.alloc (.cells #[.slice Ag mg cg] 48)).heap.size = wr.heap.size + 1 := by simp
          omega
  have hlt0 : decide ((i : Int) < (n : Int)) = false := decide_eq_false (by omega)
  obtain rfl : n = i := by omega
  have HY := Aside0.mk HR.out
  clear HR hlt0 hlt
  go_wp2
  generalize wr = w3 at HY ⊢
  go_loopg [64] n (fun k v64 wr => ∃ i : Nat, v64 = .int .i64 (i : Int) ∧ i ≤ n ∧ k = n - i ∧ w3 = wr)
  case atStart => exact ⟨0, rfl, Nat.zero_le _, rfl, rfl⟩
  case round =>
  obtain ⟨i, rfl, hi, rfl, rfl⟩ := hrel
  by_cases hlt : i < n
  · have hlt0 : decide ((i : Int) < (n : Int)) = true := decide_eq_true (by omega)
    obtain ⟨A, m, c2, hhs⟩ : ∃ A m c2, hs i = (A, m, c2) := ⟨_, _, _, rfl⟩
    obtain ⟨A', m', c3, hgs⟩ : ∃ A m c2, gs i = (A, m, c2) := ⟨_, _, _, rfl⟩
    have hcell : w3.cell? ⟨hb, i, none⟩ = some (.slice A m c2) := hdr_cell HY.out.2.2.2.2.2.1 i (by rw [HH.out.1 i hlt, hhs]; rfl)
    obtain ⟨gb, cb, hform⟩ : ∃ gb cb, gm = (some ⟨gb, 0, none⟩, n, cb) := by
      obtain ⟨gb, cb, he, _⟩ := Kd.R_form HY.out.2.2.2.1 (by rw [List.length_map, List.length_range]; omega)
      rw [List.length_map, List.length_range] at he
      exact ⟨gb, cb, encH_inj he⟩
    subst hform
    rw [show encH (some ⟨gb, 0, none⟩, n, cb) = .slice (some ⟨gb, 0, none⟩) n cb from rfl]
    have hcell2 : w3.cell? ⟨gb, i, none⟩ = some (.slice A' m' c3) := by
      have := (Kd.R_celln (enc := encH) (h1 := fun _ => rfl) (n := n) (g := gb) (cap := cb) ((none, 0, 0) : Hd) HY.out.2.2.2.1 (i : Int) (by omega) (by omega)).1
      rw [Int.toNat_natCast] at this
      rw [this]
      unfold rdOf
      rw [Int.toNat_natCast, List.getD_eq_getElem?_getD, List.getElem?_map, List.getElem?_range hlt]
      show some (encH (gs i)) = _
      rw [hgs]; rfl
    have hold := HY.out.1.old i hlt
    have hnew := HY.out.1.new i hlt
    have hyi := HY.out.2.2.1 i hlt
    rw [hhs] at hold
    rw [hgs, hyi] at hnew
    have hm1 : m = (xs i).length := by have := hold.len.1; rw [← HX.out.2.1 i]; exact this
    have hm2 : m' = m + 80 := by have := hnew.len.1; rw [List.length_append, nw_len, HX.out.2.1 i] at this; rw [hm1]; exact this
    have hmb : m ≤ 1000000 := by rw [hm1]; exact HH.out.2 i hlt
    obtain ⟨g2, c4, hf2⟩ := hnew.form (by rw [List.length_append, nw_len]; omega)
    obtain ⟨hA2, -, -⟩ := Prod.mk.inj hf2 |>.imp id Prod.mk.inj
    subst hA2
    have HO := Aside0.mk (And.intro hold (And.intro hnew hm1))
    have e80 : IntKind.i64.wrap ((m : Int) + 80) = (m : Int) + 80 := by rw [IntKind.wrap_i64]; omega
    have e80b : ((m' : Int) != (m : Int) + 80) = false := by rw [hm2]; simp
    have hi2 : (0 : Int) ≤ (i : Int) ∧ (i : Int) < (n : Int) := by omega
    clear hold hnew hyi hm1 hf2 hhs hgs
    go_upto_region 26 with fail
    go_loopg [80] m (fun k v80 wr => ∃ p : Nat, v80 = .int .i64 (p : Int) ∧ p ≤ m ∧ k = m - p ∧ w3 = wr)
    case atStart => exact ⟨0, rfl, Nat.zero_le _, rfl, rfl⟩
    case round =>
    obtain ⟨p, rfl, hp, rfl, rfl⟩ := hrel
    by_cases hpl : p < m
    · have hpl0 : decide ((p : Int) < (m : Int)) = true := decide_eq_true (by omega)
      have hxl : (zs i).length = m := by rw [HX.out.2.1 i]; exact HO.out.2.2.symm
      obtain ⟨g5, c5, hf5⟩ := HO.out.1.form (by omega)
      obtain ⟨hA5, -, -⟩ := Prod.mk.inj hf5 |>.imp id Prod.mk.inj
      subst hA5
      obtain ⟨z, hz⟩ : ∃ z, z = mk1 i p := ⟨_, rfl⟩
      have hc := (HO.out.1.cell rfl p (by omega)).1
      rw [HX.out.2.2.1 i p hlt (by rw [← HX.out.2.1 i]; omega), ← hz] at hc
      have e1 : IntKind.i64.wrap (1000 * (i : Int)) = 1000 * (i : Int) := by rw [IntKind.wrap_i64]; omega
      have e2 : IntKind.i64.wrap (1000 * (i : Int) + (p : Int)) = 1000 * (i : Int) + (p : Int) := by rw [IntKind.wrap_i64]; omega
      have e3 : IntKind.i64.wrap (1000 * (i : Int) + (p : Int) + 7) = 1000 * (i : Int) + (p : Int) + 7 := by rw [IntKind.wrap_i64]; omega
      have e4 : IntKind.u16.wrap (1000 * (i : Int) + (p : Int) + 7) = z := hz.symm
      have hpi : (0 : Int) ≤ (p : Int) ∧ (p : Int) < (m : Int) := by omega
      clear hz hf5 hxl
      go_wp2
      go_roundg (m - (p + 1))
      case measure => omega
      case rel => exact ⟨p + 1, rfl, by omega, rfl, rfl⟩
    have hpl0 : decide ((p : Int) < (m : Int)) = false := decide_eq_false (by omega)
    go_wp2
    clear hpl0 hpl
    go_loopg [13] 80 (fun k v13 wr => ∃ p : Nat, v13 = .int .i64 (p : Int) ∧ p ≤ 80 ∧ k = 80 - p ∧ w3 = wr)
    case atStart => exact ⟨0, rfl, Nat.zero_le _, rfl, rfl⟩
    case round =>
    obtain ⟨p, rfl, hp, rfl, rfl⟩ := hrel
    by_cases hpl : p < 80
    · have hpl0 : decide ((p : Int) < 80) = true := decide_eq_true (by omega)
      have hxl : (zs i).length = m := by rw [HX.out.2.1 i]; exact HO.out.2.2.symm
      obtain ⟨z, hz⟩ : ∃ z, z = mk2 i p := ⟨_, rfl⟩
      have hc := (HO.out.2.1.cell rfl (m + p) (by rw [List.length_append, nw_len]; omega)).1
      rw [List.getD_eq_getElem?_getD, List.getElem?_append_right (by omega), hxl, Nat.add_sub_cancel_left, ← List.getD_eq_getElem?_getD, nw_get hpl, ← hz] at hc
      have e1 : IntKind.i64.wrap (100 * (i : Int)) = 100 * (i : Int) := by rw [IntKind.wrap_i64]; omega
      have e2 : IntKind.i64.wrap (30000 + 100 * (i : Int)) = 30000 + 100 * (i : Int) := by rw [IntKind.wrap_i64]; omega
      have e3 : IntKind.i64.wrap (30000 + 100 * (i : Int) + (p : Int)) = 30000 + 100 * (i : Int) + (p : Int) := by rw [IntKind.wrap_i64]; omega
      have e4 : IntKind.u16.wrap (30000 + 100 * (i : Int) + (p : Int)) = z := hz.symm
      have e5 : IntKind.i64.wrap ((m : Int) + (p : Int)) = (m : Int) + (p : Int) := by rw [IntKind.wrap_i64]; omega
      have e6 : ((m : Int) + (p : Int)).toNat = m + p := by omega
      have hpi : (0 : Int) ≤ (m : Int) + (p : Int) ∧ (m : Int) + (p : Int) < (m' : Int) := by omega
      clear hz hxl
      go_wp2
      go_roundg (80 - (p + 1))
      case measure => omega
      case rel => exact ⟨p + 1, rfl, by omega, rfl, rfl⟩
    have hpl0 : decide ((p : Int) < 80) = false := decide_eq_false (by omega)
    go_wp2
    go_roundg (n - (i + 1))
    case measure => omega
    case rel => exact ⟨i + 1, rfl, by omega, rfl, rfl⟩
  have hlt0 : decide ((i : Int) < (n : Int)) = false := decide_eq_false (by omega)
  go_wp2
  go_ret
  exact ⟨rfl, HY.out.2.2.2.2.1⟩
end Go.Proofs.Ytedaifgbnojojaa.A
