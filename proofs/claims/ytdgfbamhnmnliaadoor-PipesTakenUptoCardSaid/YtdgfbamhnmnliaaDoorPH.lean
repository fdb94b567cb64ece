/- Reads of both sides, all cases; the document's model. -/
import Derived.Test.YtdgfbamhnmnliaaDoorPG
namespace Go.Proofs.YtdgfbamhnmnliaaDoor.A
open Go.RowKit Go.Deep Go.Proofs.YtdgfbamhnmnliaaDoor.R Go.Proofs.YtdgfbamhnmnliaaDoorW.PrintWords Go.Proofs.YtdgfbamhnmnliaaDoorW.PrintLast Go.Proofs.YtdgfbamhnmnliaaDoorW.PrintMore
set_option linter.unusedVariables false
set_option linter.unusedSimpArgs false
set_option maxRecDepth 100000
/-- How many bytes a read gives; how many turns are done behind it; the error's kind. -/
def rdK (D C : List Int) (f : Int) (pl tu n : Nat) : Nat := if n = 0 then 0 else if 0 ≤ f ∧ (pl : Int) = f then 0 else if pl = D.length then 0 else (rdM D C f pl tu n).toNat
def rdT (D C : List Int) (f : Int) (pl tu n : Nat) : Nat := if n = 0 then tu else if 0 ≤ f ∧ (pl : Int) = f then tu else if pl = D.length then tu else tu + 1
def rdE (D C : List Int) (f : Int) (pl tu n : Nat) : Int := if n = 0 then 0 else if 0 ≤ f ∧ (pl : Int) = f then 2 else if pl = D.length then 1 else 0
def errV (k : Int) (bk : Nat) (ae : Addr) : Value := if k = 0 then .nilIface else if k = 2 then .iface 59 (.pointer (some ⟨bk, 0, none⟩)) else .iface 109 (.pointer (some ae))
def failV (f : Int) (bk : Nat) : Value := if f < 0 then .nilIface else .iface 59 (.pointer (some ⟨bk, 0, none⟩))
theorem rdK_le (D C : List Int) (f : Int) (pl tu n : Nat) (hpl : pl ≤ D.length) : rdK D C f pl tu n ≤ n ∧ pl + rdK D C f pl tu n ≤ D.length ∧ (0 ≤ f → (pl : Int) ≤ f → ((pl + rdK D C f pl tu n : Nat) : Int) ≤ f) := by
  unfold rdK
  obtain ⟨h1, h2⟩ := rdA_le D pl n
  obtain ⟨h3, h4⟩ := rdB_le D f pl n
  have h5 := rdM_le D C f pl tu n
  split
  · exact ⟨by omega, by omega, fun _ h => by omega⟩
  · split
    · exact ⟨by omega, by omega, fun _ h => by omega⟩
    · split
      · exact ⟨by omega, by omega, fun _ h => by omega⟩
      · exact ⟨by omega, by omega, fun h h' => by have := h4 h; omega⟩
theorem rdT_le (D C : List Int) (f : Int) (pl tu n : Nat) : rdT D C f pl tu n ≤ tu + 1 := by
  unfold rdT
  split
  · omega
  · split
    · omega
    · split <;> omega
theorem splice_nil (cur : List Value) (off : Nat) : splice cur off [] = cur := by simp [splice]
theorem readU (lo hi g bk : Nat) (vD vC : Value) (D C : List Int) (f code : Int) (pl tu : Nat) (gp off n cap : Nat) (cur : List Value) (ae : Addr) (w : World) (hS : Src w lo hi g bk vD vC D C f code pl tu) (hn2 : n ≤ 140737488355328) (hpf : 0 ≤ f → (pl : Int) ≤ f) (hf2 : f ≤ 9223372036854775807) (hpl : pl ≤ D.length) (hD : D.length ≤ 140737488355328) (hCl : C.length ≤ 140737488355328) (htu : tu < 2 ^ 60)
    (hgp : w.heap[gp]? = some (.cells cur.toArray 5 (0, 0))) (hfit : off + n ≤ cur.length) (hne : gp < lo ∨ hi ≤ gp) (hE : w.cell? ⟨0, 0, none⟩ = some (.iface 109 (.pointer (some ae)))) :
    Calls Tryd.prog 12 #[.pointer (some ⟨g, 0, none⟩), .slice (some ⟨gp, off, none⟩) n cap] w fun e w' => e = .returned (.tuple #[.int .i64 ((rdK D C f pl tu n : Nat) : Int), errV (rdE D C f pl tu n) bk ae]) ∧
      Src w' lo hi g bk vD vC D C f code ((pl + rdK D C f pl tu n : Nat) : Int) ((rdT D C f pl tu n : Nat) : Int) ∧ Fr (fun k => k = g ∨ k = gp) w w' ∧ w'.heap[gp]? = some (.cells (splice cur off (((D.drop pl).take (rdK D C f pl tu n)).map (Value.int .u8))).toArray 5 (0, 0)) := by
  have hdr : ∀ m, Src (w.drewN m) lo hi g bk vD vC D C f code pl tu := fun m => hS.keep (Nat.le_refl _) (fun _ _ _ => rfl)
  by_cases h0 : n = 0
  · subst h0
    refine (read_none g _ cap w).mono ?_
    rintro e w' ⟨rfl, rfl⟩
    exact ⟨by simp [rdK, rdE, errV], by simpa [rdK, rdT] using hS, Fr.refl _ _, by simpa [rdK, splice_nil] using hgp⟩
  · by_cases h1 : 0 ≤ f ∧ (pl : Int) = f
    · refine (read_broken lo hi g bk vD vC D C f code pl tu _ n cap w hS (by omega) hn2 h1.1 h1.2).mono ?_
      rintro e w' ⟨rfl, m, rfl⟩
      have e1 : rdK D C f pl tu n = 0 := by unfold rdK; rw [if_neg h0, if_pos h1]
      have e2 : rdT D C f pl tu n = tu := by unfold rdT; rw [if_neg h0, if_pos h1]
      have e3 : rdE D C f pl tu n = 2 := by unfold rdE; rw [if_neg h0, if_pos h1]
      rw [e1, e2, e3]
      exact ⟨by simp [errV], hdr m, (Fr.refl _ _).drewN m, by simpa [splice_nil] using blk_drewN hgp m⟩
    · by_cases h2 : pl = D.length
      · refine (read_end lo hi g bk vD vC D C f code pl tu _ n cap ae 109 w hS (by omega) hn2 (fun h h' => h1 ⟨h, h'⟩) h2 hE).mono ?_
        rintro e w' ⟨rfl, m, rfl⟩
        have e1 : rdK D C f pl tu n = 0 := by unfold rdK; rw [if_neg h0, if_neg h1, if_pos h2]
        have e2 : rdT D C f pl tu n = tu := by unfold rdT; rw [if_neg h0, if_neg h1, if_pos h2]
        have e3 : rdE D C f pl tu n = 1 := by unfold rdE; rw [if_neg h0, if_neg h1, if_pos h2]
        rw [e1, e2, e3]
        exact ⟨by simp [errV], hdr m, (Fr.refl _ _).drewN m, by simpa [splice_nil] using blk_drewN hgp m⟩
      · have e1 : rdK D C f pl tu n = (rdM D C f pl tu n).toNat := by unfold rdK; rw [if_neg h0, if_neg h1, if_neg h2]
        have e2 : rdT D C f pl tu n = tu + 1 := by unfold rdT; rw [if_neg h0, if_neg h1, if_neg h2]
        have e3 : rdE D C f pl tu n = 0 := by unfold rdE; rw [if_neg h0, if_neg h1, if_neg h2]
        rw [e1, e2, e3]
        refine (read_main lo hi g bk vD vC D C f code pl tu gp off n cap cur w hS (by omega) hn2 (fun h => by have := hpf h; have h3 : ¬ (pl : Int) = f := fun e => h1 ⟨h, e⟩; omega) hf2 (by omega) hD hCl htu hgp hfit hne _ rfl).mono ?_
        rintro e w' ⟨rfl, h⟩
        exact ⟨by simp [errV], h⟩
theorem refU (h : Nat) (A A' : Option Addr) (cD cC : Nat) (D C : List Int) (f : Int) (pl tu : Nat) (n : Nat) (w : World) (hS : Rsr w h A cD A' cC D C f pl tu) (hn2 : n ≤ 140737488355328) (hpf : 0 ≤ f → (pl : Int) ≤ f) (hf2 : f ≤ 9223372036854775807) (hpl : pl ≤ D.length) (hD : D.length ≤ 140737488355328) (hcD : D.length ≤ cD) (hCl : C.length ≤ 140737488355328) (htu : tu < 2 ^ 60) :
    Calls Tryd.prog 13 #[.pointer (some ⟨h, 0, none⟩), .int .i64 (n : Int)] w fun e w' => ∃ v, e = .returned (.tuple #[v, .int .i64 (rdE D C f pl tu n)]) ∧ Kd.R (Kd.int .u8) 5 w' w.heap.size (fun _ => True) v ((D.drop pl).take (rdK D C f pl tu n)) ∧
      w'.heap[h]? = some (.cells #[.slice A D.length cD, .slice A' C.length cC, .int .i64 f, .int .i64 ((pl + rdK D C f pl tu n : Nat) : Int), .int .i64 ((rdT D C f pl tu n : Nat) : Int)] 68 (0, 0)) ∧ Fr (fun k => k = h) w w' := by
  by_cases h0 : n = 0
  · subst h0
    refine (ref_none h _ w (by omega)).mono ?_
    rintro e w' ⟨rfl, rfl⟩
    exact ⟨.slice none 0 0, by simp [rdE], by simpa [rdK] using Kd.R_nil _ _ _ _ _, by simpa [rdK, rdT] using hS.blk, Fr.refl _ _⟩
  · by_cases h1 : 0 ≤ f ∧ (pl : Int) = f
    · refine (ref_broken h A A' cD cC D C f pl tu n w hS (by omega) hn2 h1.1 h1.2).mono ?_
      rintro e w' ⟨rfl, m, rfl⟩
      have e1 : rdK D C f pl tu n = 0 := by unfold rdK; rw [if_neg h0, if_pos h1]
      have e2 : rdT D C f pl tu n = tu := by unfold rdT; rw [if_neg h0, if_pos h1]
      have e3 : rdE D C f pl tu n = 2 := by unfold rdE; rw [if_neg h0, if_pos h1]
      rw [e1, e2, e3]
      exact ⟨_, rfl, Kd.R_nil _ _ _ _ _, blk_drewN hS.blk m, (Fr.refl _ _).drewN m⟩
    · by_cases h2 : pl = D.length
      · refine (ref_end h A A' cD cC D C f pl tu n w hS (by omega) hn2 (fun h h' => h1 ⟨h, h'⟩) h2).mono ?_
        rintro e w' ⟨rfl, m, rfl⟩
        have e1 : rdK D C f pl tu n = 0 := by unfold rdK; rw [if_neg h0, if_neg h1, if_pos h2]
        have e2 : rdT D C f pl tu n = tu := by unfold rdT; rw [if_neg h0, if_neg h1, if_pos h2]
        have e3 : rdE D C f pl tu n = 1 := by unfold rdE; rw [if_neg h0, if_neg h1, if_pos h2]
        rw [e1, e2, e3]
        exact ⟨_, rfl, Kd.R_nil _ _ _ _ _, blk_drewN hS.blk m, (Fr.refl _ _).drewN m⟩
      · have e1 : rdK D C f pl tu n = (rdM D C f pl tu n).toNat := by unfold rdK; rw [if_neg h0, if_neg h1, if_neg h2]
        have e2 : rdT D C f pl tu n = tu + 1 := by unfold rdT; rw [if_neg h0, if_neg h1, if_neg h2]
        have e3 : rdE D C f pl tu n = 0 := by unfold rdE; rw [if_neg h0, if_neg h1, if_neg h2]
        rw [e1, e2, e3]
        exact ref_main h A A' cD cC D C f pl tu n w hS (by omega) hn2 (fun h => by have := hpf h; have h3 : ¬ (pl : Int) = f := fun e => h1 ⟨h, e⟩; omega) hf2 (by omega) hD hcD hCl htu _ rfl
theorem failU (lo hi g bk : Nat) (vD vC : Value) (D C : List Int) (f code pl tu : Int) (w : World) (hS : Src w lo hi g bk vD vC D C f code pl tu) : Calls Tryd.prog 15 #[.pointer (some ⟨g, 0, none⟩)] w fun e w' => e = .returned (failV f bk) ∧ w = w' := by
  unfold failV
  by_cases h : f < 0
  · rw [if_pos h]; exact fail_none lo hi g bk vD vC D C f code pl tu w hS h
  · rw [if_neg h]; exact fail_is lo hi g bk vD vC D C f code pl tu w hS (by omega)
theorem isU (D C : List Int) (f : Int) (pl tu n bk : Nat) (ae : Addr) (w : World) (hE : w.cell? ⟨0, 0, none⟩ = some (.iface 109 (.pointer (some ae)))) :
    Calls Tryd.prog 14 #[errV (rdE D C f pl tu n) bk ae, .int .i64 (rdE D C f pl tu n), failV f bk] w fun e w' => e = .returned (.bool true) ∧ w = w' := by
  unfold rdE
  split
  · exact isw_none _ w
  · split
    · rename_i h
      have : failV f bk = .iface 59 (.pointer (some ⟨bk, 0, none⟩)) := by unfold failV; rw [if_neg (by omega)]
      rw [this]
      exact isw_fail _ w
    · split
      · exact isw_end ae _ w hE
      · exact isw_none _ w
theorem model (vD vC : Value) (f code : Int) (A A' : Option Addr) (n n' c c' : Nat) (hD : vD = .slice A n c) (hC : vC = .slice A' n' c') (w : World) : Calls Tryd.prog 11 #[.agg #[vD, vC, .int .i64 f, .int .i64 code]] w fun e w' => ∃ h, e = .returned (.pointer (some ⟨h, 0, none⟩)) ∧ w'.heap[h]? = some (.cells #[vD, vC, .int .i64 f, .int .i64 0, .int .i64 0] 68 (0, 0)) ∧ w.heap.size ≤ h ∧ Below w.heap.size w w' := by
  subst hD hC
  go_enter Tryd.func11, Tryd.ntmps11
  go_wp2
  go_ret
  exact ⟨w.heap.size + 1, by simp, blk_new (w.alloc (.cells #[.slice A n c, .slice A' n' c', .int .i64 f, .int .i64 code] 25 (0, 0))) _ |> fun h => by simpa using h, by omega, below_alloc (below_alloc (Below.refl _ _) _) _⟩
end Go.Proofs.YtdgfbamhnmnliaaDoor.A
