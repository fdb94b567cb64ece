/-
Gf16Tables: every Mul, Inv, Div, Exp and Log of two tables in turns, and of nil ones, at every element and every int, is the document's. No condition.
-/
import Derived.Test.YtedaifgbnojojaaTab16
import Derived.Test.YtedaifgbnojojaaQx11
import Derived.Test.YtedaifgbnojojaaQx10
namespace Go.Proofs.Ytedaifgbnojojaa.Pure
open Go.RowKit Go.Proofs.Ytedaifgbnojojaa.Q Go.Proofs.YtedaifgbnojojaaW.PrintWords Go.Proofs.YtedaifgbnojojaaW.PrintLast Go.Proofs.YtedaifgbnojojaaW.PrintMore Go.Proofs.Ytedaifgbnojojaa.R GP
set_option linter.unusedVariables false
set_option linter.unusedSimpArgs false

theorem TDiv16 {a b : Nat} (ha : a < 65536) (hb : b < 65536) (h0 : b ≠ 0) : gf16_Tables_Div.f a b = some (((m16 a (i16 b) : Nat) : Int), (0 : Int)) := by
  unfold gf16_Tables_Div.f
  simp only [TInv16 hb h0, Option.bind_some, if_true, TMul16 ha (i16_lt b)]
theorem inv_zero {a : Int} (h : a = 0) : gf16_Tables_Inv.f a = some (0, 20) := by rw [h]; exact TInv16_zero
theorem div_zero {a b : Int} (h : b = 0) : gf16_Tables_Div.f a b = some (0, 20) := by
  unfold gf16_Tables_Div.f
  simp only [inv_zero h, Option.bind_some, if_neg (show ¬ (20 : Int) = 0 by decide)]
theorem tlog_zero {a : Int} (h : a = 0) : gf16_Tables_Log.f a = some (0, 20) := by rw [h]; exact TLog16_zero
theorem rinv_zero {a : Int} (h : a = 0) : Ev (fun k => culletref03_Inv.f k a) (0, 20) := by
  unfold culletref03_Inv.f; simp only [if_pos h]; exact Ev.now _
theorem rdiv_zero {a b : Int} (h : b = 0) : Ev (fun k => culletref03_Div.f k a b) (0, 20) := by
  unfold culletref03_Div.f; simp only [if_pos h]; exact Ev.now _
theorem rlog_zero {a : Int} (h : a = 0) : Ev (fun k => culletref03_Log.f k a) (0, 20) := by
  unfold culletref03_Log.f; simp only [if_pos h]; exact Ev.now _
theorem RefExp (n : Int) : Ev (fun k => culletref03_Exp.f k n) ((p16 2 (res n) : Nat) : Int) := by
  unfold culletref03_Exp.f
  have hr := res_lt n
  simp only [RefMod, Option.bind_some]
  exact Ev.bind (Power (a := 2) (n := res n) (by decide) (by omega)) (Ev.now _)
theorem RefLog_l0 {i : Nat} (hi : i < 65535) : ∀ m e : Nat, i - e ≤ m → e ≤ i → Ev (fun k => culletref03_Log.l0 k ((tab16.pw i : Nat) : Int) ((tab16.pw e : Nat) : Int) (e : Int)) ((i : Int), (0 : Int)) := by
  have hp := tab16.pw_lt i
  have fin : Ev (fun k => culletref03_Log.l0 k ((tab16.pw i : Nat) : Int) ((tab16.pw i : Nat) : Int) (i : Int)) ((i : Int), (0 : Int)) := by
    refine Ev.step (fun k => culletref03_Log.l0.eq_2 _ _ _ k) ?_
    simp only [if_pos (show ((i : Nat) : Int) < 65535 by omega), if_pos (show ((tab16.pw i : Nat) : Int) = ((tab16.pw i : Nat) : Int) % 4294967296 by omega)]
    exact Ev.now _
  intro m
  induction m with
  | zero =>
    intro e h he
    obtain rfl : e = i := by omega
    exact fin
  | succ m ih =>
    intro e h he
    by_cases e1 : e = i
    · subst e1; exact fin
    · have hpe := tab16.pw_lt e
      have hne : ¬ tab16.pw e = tab16.pw i := fun k => e1 (pw16_inj (by omega) hi k)
      refine Ev.step (fun k => culletref03_Log.l0.eq_2 _ _ _ k) ?_
      have h2 : (((tab16.pw e : Nat) : Int) * 2) % 4294967296 = ((2 * tab16.pw e : Nat) : Int) := by omega
      simp only [if_pos (show ((e : Nat) : Int) < 65535 by omega), if_neg (show ¬ ((tab16.pw e : Nat) : Int) = ((tab16.pw i : Nat) : Int) % 4294967296 by omega), h2, wrap64_id (n := (e : Int) + 1) (by omega) (by omega)]
      have nx := ih (e + 1) (by omega) (by omega)
      have hd : tab16.pw (e + 1) = if 65535 < 2 * tab16.pw e then (2 * tab16.pw e) ^^^ 65581 else 2 * tab16.pw e := rfl
      by_cases hg : 65535 < 2 * tab16.pw e
      · rw [if_pos hg] at hd
        rw [hd] at nx
        have hx := bits_xor32 (a := 2 * tab16.pw e) (b := 65581) (by omega) (by decide)
        simp only [if_pos (show ((2 * tab16.pw e : Nat) : Int) > 65535 by omega)]
        rw [show ((65581 : Int)) = ((65581 : Nat) : Int) from rfl, hx]
        exact nx
      · rw [if_neg hg] at hd
        rw [hd] at nx
        simp only [if_neg (show ¬ ((2 * tab16.pw e : Nat) : Int) > 65535 by omega)]
        exact nx
theorem RefLog {i a : Nat} (hi : i < 65535) (ha : tab16.pw i = a) : Ev (fun k => culletref03_Log.f k (a : Int)) ((i : Int), (0 : Int)) := by
  have h0 := pw16_ne i
  unfold culletref03_Log.f
  simp only [if_neg (show ¬ ((a : Nat) : Int) = 0 by omega)]
  rw [← ha]
  exact RefLog_l0 hi i 0 (by omega) (by omega)
theorem same_pair {f g : Nat → Option (Int × Int)} {p : Int × Int} (hf : Ev f p) (hg : Ev g p) : Ev (fun k => (f k).bind fun x => (g k).bind fun y => if x.1 = y.1 then some (x.2 == y.2) else some false) true := by
  refine Ev.bind hf (Ev.bind hg ?_)
  simp only [if_true, beq_self_eq_true]
  exact Ev.now _
theorem same_one {f g : Nat → Option Int} {p : Int} (hf : Ev f p) (hg : Ev g p) : Ev (fun k => (f k).bind fun x => (g k).bind fun y => some (x == y)) true := by
  refine Ev.bind hf (Ev.bind hg ?_)
  simp only [beq_self_eq_true]
  exact Ev.now _
theorem ev_of {α : Type} {x : Option α} {r : α} (h : x = some r) : Ev (fun _ => x) r := by rw [h]; exact Ev.now _
theorem tabled (o : S28) (ho : okT28 o) : Ev (fun k => culletlaw03_tabled.f k o.f0 o.f1 o.f2 o.f3) true := by
  obtain ⟨kind, x, y, n⟩ := o
  obtain ⟨_, hx, hy, _⟩ := ho
  obtain ⟨a, rfl, ha⟩ := of_u16 hx
  obtain ⟨b, rfl, hb⟩ := of_u16 hy
  unfold culletlaw03_tabled.f
  show Ev (fun k => if kind = 0 then _ else _) true
  by_cases k0 : kind = 0
  · simp only [if_pos k0]
    exact same_one (ev_of (TMul16 ha hb)) (RefMul ha hb)
  simp only [if_neg k0]
  by_cases k1 : kind = 1
  · simp only [if_pos k1]
    by_cases h0 : a = 0
    · exact same_pair (ev_of (inv_zero (by omega))) (rinv_zero (by omega))
    · exact same_pair (ev_of (TInv16 ha h0)) (RefInv ha h0)
  simp only [if_neg k1]
  by_cases k2 : kind = 2
  · simp only [if_pos k2]
    by_cases h0 : b = 0
    · exact same_pair (ev_of (div_zero (by omega))) (rdiv_zero (by omega))
    · exact same_pair (ev_of (TDiv16 ha hb h0)) (RefDiv ha hb h0)
  simp only [if_neg k2]
  by_cases k3 : kind = 3
  · simp only [if_pos k3]
    refine same_one (ev_of (TExp16 n)) ?_
    rw [pw16_eq]
    exact RefExp n
  simp only [if_neg k3]
  by_cases k4 : kind = 4
  · simp only [if_pos k4]
    by_cases h0 : a = 0
    · exact same_pair (ev_of (tlog_zero (by omega))) (rlog_zero (by omega))
    · obtain ⟨i, hi, ei, _⟩ := log16 ha h0
      exact same_pair (ev_of (TLog16 hi ei)) (RefLog hi ei)
  simp only [if_neg k4]
  exact Ev.now _
theorem exp_m1 : gf16_Tables_Exp.f (-1) = some 32790 := by
  rw [TExp16, show res (-1) = 65534 from rfl, pw16_eq]
  have : p16 2 65534 = 32790 := by
    have := powf_eq (p := 65581) (d := 16) (by decide) bl65581 (by decide) (by decide) 16 2 65534 (by decide) (by decide)
    show fpow 65581 2 65534 = 32790
    rw [← this]; decide +kernel
  rw [this]; rfl
theorem exp_16 : gf16_Tables_Exp.f 16 = some 45 := by
  rw [TExp16, show res 16 = 16 from rfl, show tab16.pw 16 = 45 by decide +kernel]; rfl
theorem tables_l0 (l : List S28) (hl : l.length * 24 ≤ 140737488351232) (hok : ∀ x ∈ l, okT28 x) : ∀ (n i : Nat), l.length - i ≤ n → i ≤ l.length → Ev (fun k => culletlaw03_Gf16Tables.l0 k l (l.length : Int) i) true := by
  have fin : ∀ i : Nat, ¬ i < l.length → Ev (fun k => culletlaw03_Gf16Tables.l0 k l (l.length : Int) i) true := by
    intro i hi
    refine Ev.step (fun k => culletlaw03_Gf16Tables.l0.eq_2 _ _ _ k) ?_
    simp only [if_neg (show ¬ ((i : Nat) : Int) < (l.length : Int) by omega), exp_m1, Option.bind_some, if_true, beq_self_eq_true]
    exact Ev.now _
  intro n
  induction n with
  | zero => intro i h _; exact fin i (by omega)
  | succ n ih =>
    intro i h hi
    by_cases hlt : i < l.length
    · refine Ev.step (fun k => culletlaw03_Gf16Tables.l0.eq_2 _ _ _ k) ?_
      simp only [if_pos (show ((i : Nat) : Int) < (l.length : Int) by omega), if_pos (show (0 : Int) ≤ ((i : Nat) : Int) by omega)]
      have hm : okT28 (rd_T28 l i) := by
        unfold rd_T28
        rw [Int.toNat_natCast, List.getD_eq_getElem?_getD, List.getElem?_eq_getElem hlt]
        exact hok _ (List.getElem_mem hlt)
      have nx := ih (i + 1) (by omega) (by omega)
      have hw : wrap64 (((i : Nat) : Int) + 1) = ((i + 1 : Nat) : Int) := by rw [wrap64_id (by omega) (by omega)]; omega
      by_cases h2 : Int.tmod ((i : Nat) : Int) 2 = 0
      · simp only [if_pos h2]
        refine Ev.bind (tabled _ hm) ?_
        simp only [if_true, culletlaw03_none.f, Option.bind_some, hw]
        exact nx
      · simp only [if_neg h2]
        refine Ev.bind (tabled _ hm) ?_
        simp only [if_true, culletlaw03_none.f, Option.bind_some, hw]
        exact nx
    · exact fin i hlt
theorem Gf16Tables : culletlaw03_Gf16Tables.Pure := by
  rintro l ⟨hl, hok⟩
  apply Ev.rounds
  unfold culletlaw03_Gf16Tables.f gf16_New.f
  simp only [Option.bind_some, exp_16, if_true]
  exact tables_l0 l hl hok l.length 0 (by omega) (by omega)
end Go.Proofs.Ytedaifgbnojojaa.Pure
