/-
WalshBack: which lengths have a transform; there and back; no answer is 65535.
-/
import Derived.Test.YtklkcenffajfeaaWalshFns
import Derived.Test.YtklkcenffajfeaaQx2
namespace Go.Proofs.Ytklkcenffajfeaa.Pure
open Go.RowKit Go.Proofs.Ytklkcenffajfeaa.A Go.Proofs.Ytklkcenffajfeaa.Q Go.Proofs.YtklkcenffajfeaaW.PrintWords Go.Proofs.YtklkcenffajfeaaW.PrintLast Go.Proofs.YtklkcenffajfeaaW.PrintMore Go.Proofs.Ytklkcenffajfeaa.R WH
set_option linter.unusedVariables false
set_option linter.unusedSimpArgs false
theorem okW_md {n : Nat} (F : Nat → Int) : okW (lst n (fun i => md (F i))) = true := by
  rw [okW_iff]
  intro j hj
  rw [lst_len] at hj
  rw [lst_getD hj]
  have h1 := md_ge (F j)
  have h2 := md_lt (F j)
  exact ⟨h1, by omega⟩
theorem back_tr {l : List Int} (hp : pwB l.length = true) : walsh_Inverse.f (lst l.length (fun i => md (tr (Nat.log2 l.length) (vl l) i))) = some (lst l.length (fun i => md (l.getD i 0)), 0) := by
  obtain ⟨hn, hb⟩ := pw_log hp
  have hr : Nat.log2 l.length ≤ 16 := by
    have : 2 ^ Nat.log2 l.length ≤ 2 ^ 16 := by rw [← hn]; exact hb
    exact (Nat.pow_le_pow_iff_right (by decide)).1 this
  unfold walsh_Inverse.f
  rw [if_pos (okW_md _)]
  simp only [lst_len, hp, if_true]
  congr 2
  refine lst_congr (fun i hi => ?_)
  rw [← md_mul_left, tr_lst hp, md_mul_left, tr_tr _ _ (by omega), md_pow _ hr]
theorem there_tr {l : List Int} (hp : pwB l.length = true) : walsh_Transform.f (lst l.length (fun i => md (2 ^ (16 - Nat.log2 l.length) * tr (Nat.log2 l.length) (vl l) i))) = some (lst l.length (fun i => md (l.getD i 0)), 0) := by
  obtain ⟨hn, hb⟩ := pw_log hp
  have hr : Nat.log2 l.length ≤ 16 := by
    have : 2 ^ Nat.log2 l.length ≤ 2 ^ 16 := by rw [← hn]; exact hb
    exact (Nat.pow_le_pow_iff_right (by decide)).1 this
  unfold walsh_Transform.f
  rw [if_pos (okW_md _)]
  simp only [lst_len, hp, if_true]
  congr 2
  refine lst_congr (fun i hi => ?_)
  rw [tr_lst hp, tr_mul, tr_tr _ _ (by omega), md_pow _ hr]
theorem WalshBack : culletlaw15_WalshBack.Pure := by
  intro l0 hl hb hw
  apply Ev.rounds
  have hlen : l0.length ≤ 140737488355328 := by omega
  have hok : okW l0 = true := by
    rw [okW_iff]
    intro j hj
    have hm : l0.getD j 0 ∈ l0 := by
      rw [List.getD_eq_getElem?_getD, List.getElem?_eq_getElem hj]
      exact List.getElem_mem hj
    have := hw _ hm
    simp only [Lit.wf, IntKind.min, IntKind.max, IntKind.signed, IntKind.bits, Bool.and_eq_true, decide_eq_true_eq, Bool.false_eq_true, if_false] at this
    omega
  unfold culletlaw15_WalshBack.f
  refine Ev.bind Fixed15 ?_
  simp only [if_true]
  refine Ev.bind (Copied15 l0 hlen) ?_
  by_cases hp : pwB l0.length = true
  · have hT : walsh_Transform.f l0 = some (lst l0.length (fun i => md (tr (Nat.log2 l0.length) (vl l0) i)), 0) := by
      unfold walsh_Transform.f; rw [if_pos hok, if_pos hp]
    have hI : walsh_Inverse.f l0 = some (lst l0.length (fun i => md (2 ^ (16 - Nat.log2 l0.length) * tr (Nat.log2 l0.length) (vl l0) i)), 0) := by
      unfold walsh_Inverse.f; rw [if_pos hok, if_pos hp]
    simp only [hT, Option.bind_some]
    refine Ev.bind (Copied15 l0 hlen) ?_
    simp only [hI, Option.bind_some, Power15, hp, if_true, lst_len]
    refine Ev.step (fun k => culletlaw15_WalshBack.j0.eq_2 _ _ _ _ k) ?_
    simp only [bne_self_eq_false, Bool.false_eq_true, if_false]
    refine Ev.bind (Copied15 l0 hlen) ?_
    have hI2 := back_tr hp
    have hT2 := there_tr hp
    obtain ⟨x3, h3⟩ : ∃ x, lst l0.length (fun i => md (tr (Nat.log2 l0.length) (vl l0) i)) = x := ⟨_, rfl⟩
    obtain ⟨x5, h5⟩ : ∃ x, lst l0.length (fun i => md (2 ^ (16 - Nat.log2 l0.length) * tr (Nat.log2 l0.length) (vl l0) i)) = x := ⟨_, rfl⟩
    rw [h3] at hI2 ⊢
    rw [h5] at hT2 ⊢
    have l3 : x3.length = l0.length := by rw [← h3, lst_len]
    have l5 : x5.length = l0.length := by rw [← h5, lst_len]
    have b3 : ∀ i, i < l0.length → x3.getD i 0 ≠ 65535 := fun i hi => by
      rw [← h3, lst_getD hi]; have := md_lt (tr (Nat.log2 l0.length) (vl l0) i); omega
    have b5 : ∀ i, i < l0.length → x5.getD i 0 ≠ 65535 := fun i hi => by
      rw [← h5, lst_getD hi]; have := md_lt (2 ^ (16 - Nat.log2 l0.length) * tr (Nat.log2 l0.length) (vl l0) i); omega
    clear h3 h5 hT hI
    have e0 : l0 = lst l0.length (fun j => if j < 0 then md (l0.getD j 0) else l0.getD j 0) := by
      conv => lhs; rw [lst_of l0]
      exact lst_congr (fun j hj => by rw [if_neg (by omega)])
    suffices hg : ∀ d i : Nat, l0.length - i ≤ d → i ≤ l0.length → Ev (fun k => culletlaw15_WalshBack.l0 k x3 x5 (lst l0.length (fun j => if j < i then md (l0.getD j 0) else l0.getD j 0)) (l0.length : Int) (i : Int)) true by
      have := hg l0.length 0 (by omega) (by omega)
      rw [← e0] at this
      exact this
    have fin : ∀ i : Nat, ¬ i < l0.length → i ≤ l0.length → Ev (fun k => culletlaw15_WalshBack.l0 k x3 x5 (lst l0.length (fun j => if j < i then md (l0.getD j 0) else l0.getD j 0)) (l0.length : Int) (i : Int)) true := by
      intro i hi h2
      refine Ev.step (fun k => culletlaw15_WalshBack.l0.eq_2 _ _ _ _ _ k) ?_
      have e : lst l0.length (fun j => if j < i then md (l0.getD j 0) else l0.getD j 0) = lst l0.length (fun j => md (l0.getD j 0)) := lst_congr (fun j hj => by rw [if_pos (by omega)])
      rw [e]
      simp only [if_neg (show ¬ ((i : Nat) : Int) < (l0.length : Int) by omega), hI2, hT2, Option.bind_some, if_true]
      refine Ev.bind (Same15_self (by rw [lst_len]; omega) rfl) ?_
      simp only [if_true]
      exact Ev.bind (Same15_self (by rw [lst_len]; omega) rfl) (Ev.now _)
    intro d
    induction d with
    | zero => intro i h1 h2; exact fin i (by omega) h2
    | succ d ih =>
      intro i h1 h2
      by_cases hlt : i < l0.length
      · refine Ev.step (fun k => culletlaw15_WalshBack.l0.eq_2 _ _ _ _ _ k) ?_
        have hv := (okW_iff.1 hok) i hlt
        simp only [if_pos (show ((i : Nat) : Int) < (l0.length : Int) by omega), if_pos (show (0 : Int) ≤ (i : Int) by omega), lst_len, l3, l5, rd_at, lst_getD hlt, Nat.lt_irrefl, if_false, wrap64_id (show -9223372036854775808 ≤ l0.getD i 0 by omega) (show l0.getD i 0 ≤ 9223372036854775807 by omega), Brought15, Option.bind_some, if_neg (b3 i hlt), if_neg (b5 i hlt), Int.toNat_natCast, lst_set, wr64' (n := i) (by omega)]
        have e : lst l0.length (fun a => if a = i then md (l0.getD i 0) else if a < i then md (l0.getD a 0) else l0.getD a 0) = lst l0.length (fun j => if j < i + 1 then md (l0.getD j 0) else l0.getD j 0) := lst_congr (fun j hj => by
          by_cases e : j = i
          · subst e; rw [if_pos rfl, if_pos (by omega)]
          · rw [if_neg e]
            have : j < i ↔ j < i + 1 := by omega
            simp only [this])
        rw [e]
        exact ih (i + 1) (by omega) (by omega)
      · exact fin i hlt h2
  · have hT : walsh_Transform.f l0 = some ([], 130) := by
      unfold walsh_Transform.f; rw [if_pos hok, if_neg hp]
    have hI : walsh_Inverse.f l0 = some ([], 130) := by
      unfold walsh_Inverse.f; rw [if_pos hok, if_neg hp]
    simp only [hT, Option.bind_some]
    refine Ev.bind (Copied15 l0 hlen) ?_
    simp only [hI, Option.bind_some, Power15, hp, if_false, if_true, List.length_nil]
    exact Ev.now _
end Go.Proofs.Ytklkcenffajfeaa.Pure
