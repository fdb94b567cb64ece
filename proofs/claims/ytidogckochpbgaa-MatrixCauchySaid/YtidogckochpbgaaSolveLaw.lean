/- What a system's elimination gives: the plain law, and the printed Invert. -/
import Derived.Test.YtidogckochpbgaaL2
import Derived.Test.YtidogckochpbgaaH4
import Derived.Test.YtidogckochpbgaaH5
namespace Go.Proofs.Ytidogckochpbgaa.R
open Go.RowKit Go.Proofs.YtidogckochpbgaaW.PrintWords Go.Proofs.YtidogckochpbgaaW.PrintLast Go.Proofs.YtidogckochpbgaaW.PrintMore Go.Proofs.Ytidogckochpbgaa.A GP
set_option linter.unusedVariables false
set_option linter.unusedSimpArgs false

/-- A column's turn looks at its own and at the columns told of alone. -/
theorem turn_cols {m w c : Nat} (hc : c < w) {S T : Nat → Nat → G8} {ps : List Nat} {d : G8} (h : ∀ i j, i < m → j < w → S i j = T i j) :
    (LA.turn m (S, ps, d) c).2 = (LA.turn m (T, ps, d) c).2 ∧ ∀ i j, i < m → j < w → (LA.turn m (S, ps, d) c).1 i j = (LA.turn m (T, ps, d) c).1 i j := by
  have hfp : LA.fp S c m m ps.length = LA.fp T c m m ps.length := by
    have : ∀ n r, LA.fp S c m n r = LA.fp T c m n r := by
      intro n
      induction n with
      | zero => intro r; rfl
      | succ n ih =>
        intro r
        rw [LA.fp, LA.fp]
        by_cases h1 : r < m
        · rw [if_pos h1, if_pos h1, h r c h1 hc, ih]
        · rw [if_neg h1, if_neg h1]
    exact this m _
  unfold LA.turn
  simp only [hfp]
  cases hf : LA.fp T c m m ps.length with
  | none => exact ⟨rfl, h⟩
  | some q =>
    obtain ⟨h1, h2, h3, -⟩ := LA.fp_some hf
    have ht : ps.length < m := by omega
    have hs : ∀ i j, i < m → j < w → LA.sw S ps.length q i j = LA.sw T ps.length q i j := by
      intro i j hi hj
      unfold LA.sw
      by_cases e1 : i = ps.length
      · rw [if_pos e1, if_pos e1]; exact h q j h2 hj
      · rw [if_neg e1, if_neg e1]
        by_cases e2 : i = q
        · rw [if_pos e2, if_pos e2]; exact h ps.length j ht hj
        · rw [if_neg e2, if_neg e2]; exact h i j hi hj
    have hs2 : ∀ i j, i < m → j < w → LA.scl (LA.sw S ps.length q) ps.length c i j = LA.scl (LA.sw T ps.length q) ps.length c i j := by
      intro i j hi hj
      unfold LA.scl
      by_cases e1 : i = ps.length
      · rw [if_pos e1, if_pos e1]
        show LA.Fld.iv _ * _ = LA.Fld.iv _ * _
        rw [hs _ c ht hc, hs _ j ht hj]
      · rw [if_neg e1, if_neg e1]; exact hs i j hi hj
    refine ⟨?_, ?_⟩
    · show (ps ++ [c], d * S q c) = (ps ++ [c], d * T q c)
      rw [h q c h2 hc]
    · intro i j hi hj
      show LA.clr _ _ _ i j = LA.clr _ _ _ i j
      unfold LA.clr
      by_cases e1 : i = ps.length
      · rw [if_pos e1, if_pos e1]; exact hs2 _ j ht hj
      · rw [if_neg e1, if_neg e1]
        show _ + _ * _ = _ + _ * _
        rw [hs2 i j hi hj, hs2 i c hi hc, hs2 _ j ht hj]
theorem gj_cols {m w : Nat} {S T : Nat → Nat → G8} (h : ∀ i j, i < m → j < w → S i j = T i j) : ∀ c, c ≤ w → (LA.gj m S c).2 = (LA.gj m T c).2 ∧ ∀ i j, i < m → j < w → (LA.gj m S c).1 i j = (LA.gj m T c).1 i j := by
  intro c
  induction c with
  | zero => intro _; exact ⟨rfl, h⟩
  | succ c ih =>
    intro hc
    obtain ⟨h1, h2⟩ := ih (by omega)
    rw [LA.gj, LA.gj]
    have := turn_cols (m := m) (w := w) (c := c) (by omega) (S := (LA.gj m S c).1) (T := (LA.gj m T c).1) (ps := (LA.gj m T c).2.1) (d := (LA.gj m T c).2.2) h2
    have e : LA.gj m S c = ((LA.gj m S c).1, (LA.gj m T c).2.1, (LA.gj m T c).2.2) := Prod.ext rfl h1
    rw [e]
    exact this
theorem gj_beside (n : Nat) (A B : Nat → Nat → G8) : (LA.gj n (beside8 n A B) n).2 = (LA.gj n A n).2 :=
  (gj_cols (m := n) (w := n) (fun i j _ hj => by unfold beside8; rw [if_pos hj]) n (Nat.le_refl _)).1
/-- A system whose matrix has a determinant not 0: what stands beside the unit matrix is the inverse times the right hand. -/
theorem solve_full {n : Nat} (c : Nat) {A B : Nat → Nat → G8} (h : LA.det n A ≠ 0) :
    ∃ P : Nat → Nat → G8, (∀ i j, i < n → j < n → LA.mm n P A i j = LA.one i j) ∧ ∀ i j, i < n → j < c → (LA.gj n (beside8 n A B) n).1 i (n + j) = LA.mm n P B i j := by
  have hl : (LA.gj n (beside8 n A B) n).2.1.length = n := by rw [gj_beside]; exact (LA.gj_full n A).2 h
  obtain ⟨P, hP⟩ := (LA.gj_of n (n + c) (beside8 n A B) n).1
  have hu := (LA.gj_red n (n + c) (beside8 n A B) n).unit hl
  refine ⟨P, fun i j hi hj => ?_, fun i j hi hj => ?_⟩
  · rw [← hu i j hi hj, hP i j hi (by omega)]
    exact LA.sm_congr (fun k hk => by unfold beside8; rw [if_pos hj])
  · rw [hP i (n + j) hi (by omega)]
    exact LA.sm_congr (fun k hk => by unfold beside8; rw [if_neg (by omega), Nat.add_sub_cancel_left])
theorem det_g8 {n : Nat} {A : Nat → Nat → G8} : (LA.gj n A n).2.2 = LA.det n A := (LA.gj_det_eq n A).1
theorem gj_le (n : Nat) (A : Nat → Nat → G8) : (LA.gj n A n).2.1.length ≤ n := LA.gj_len n A n
theorem gj_less {n : Nat} {A : Nat → Nat → G8} : (LA.gj n A n).2.1.length < n ↔ LA.det n A = 0 := by
  have h1 := LA.gj_full n A
  have h2 := gj_le n A
  constructor
  · intro h
    exact Decidable.byContradiction fun h3 => by have := h1.2 h3; omega
  · intro h
    have : ¬ (LA.gj n A n).2.1.length = n := fun e => h1.1 e h
    omega
theorem twin_of {l : List (List Int)} (hc : chk l = true) : culletlaw10_twin.f l = some l := by
  obtain ⟨h1, h2, h3, h4, h5⟩ := chk_iff.1 hc
  unfold culletlaw10_twin.f
  rw [if_pos ⟨by omega, List.all_eq_true.2 fun x hx => decide_eq_true (by rw [h5 x hx]; omega)⟩]
theorem Det_of {l : List (List Int)} (hc : chk l = true) (hb : byt l = true) (hs : l.length = wid l) : matrix_Det.f l = some ((((LA.det l.length (toM l)).v : Nat) : Int), (0 : Int)) := by
  unfold matrix_Det.f
  rw [if_pos hc, if_pos hs, if_pos hb, det_g8]
theorem Solve_of {m c : Nat} (hm1 : 1 ≤ m) (hm : m ≤ 256) (hc1 : 1 ≤ c) (hc : c ≤ 512) {A B : Nat → Nat → G8} :
    matrix_Solve.f (mt m m A) (mt m c B) = if LA.det m A = 0 then some ([], 102) else some (mt m c (fun i j => (LA.gj m (beside8 m A B) m).1 i (m + j)), 0) := by
  have hw : (LA.gj m (beside8 m (toM (mt m m A)) (toM (mt m c B))) m) = (LA.gj m (beside8 m (toM (mt m m A)) (toM (mt m c B))) m) := rfl
  have hcong : ∀ i j, i < m → j < m + c → beside8 m (toM (mt m m A)) (toM (mt m c B)) i j = beside8 m A B i j := by
    intro i j hi hj
    unfold beside8
    by_cases h : j < m
    · rw [if_pos h, if_pos h, toM_mt hi h]
    · rw [if_neg h, if_neg h, toM_mt hi (by omega)]
  obtain ⟨g1, g2⟩ := gj_cols hcong m (by omega)
  have e1 : chk (mt m m A) = true ∧ chk (mt m c B) = true := ⟨chk_mt hm1 hm hm1 (by omega), chk_mt hm1 hm hc1 hc⟩
  have e2 : m = m ∧ m = m := ⟨rfl, rfl⟩
  have e3 : byt (mt m m A) = true ∧ byt (mt m c B) = true := ⟨byt_mt, byt_mt⟩
  unfold matrix_Solve.f
  simp only [if_pos e1, mt_len, wid_mt hm1, if_pos e2, if_pos e3]
  rw [g1, gj_beside]
  by_cases h : LA.det m A = 0
  · rw [if_pos (gj_less.2 h), if_pos h, if_pos ⟨trivial, trivial⟩]
  · rw [if_neg (fun h2 => h (gj_less.1 h2)), if_neg h]
    rw [mt_congr (fun i j hi hj => g2 i (m + j) hi (by omega)), if_pos ⟨trivial, trivial⟩]
end Go.Proofs.Ytidogckochpbgaa.R
