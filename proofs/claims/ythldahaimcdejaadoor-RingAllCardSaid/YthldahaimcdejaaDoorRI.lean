/- Texts of polynomials: the document's Text. -/
import Derived.Test.YthldahaimcdejaaDoorRH

namespace Go.Proofs.YthldahaimcdejaaDoor.A
open Go.RowKit Go.Deep Go.Proofs.YthldahaimcdejaaDoorW.PrintWords Go.Proofs.YthldahaimcdejaaDoorW.PrintLast Go.Proofs.YthldahaimcdejaaDoorW.PrintMore GP
set_option linter.unusedVariables false
set_option linter.unusedSimpArgs false
set_option maxRecDepth 100000
theorem bs_empty (l : List UInt8) : (bs l).toList.isEmpty = l.isEmpty := by
  have : (bs l).toList = l := ByteArray.toList_mk l
  rw [this]
set_option maxHeartbeats 4000000 in
theorem reftext_walk (n : Nat) (hn : n < 2 ^ 64) (w : World) : Calls Tryd.prog 57 #[.int .u64 (n : Int)] w fun e w' => e = .returned (.string (bs (RT.text n))) ∧ Below w.heap.size w w' := by
  have HN := Aside0.mk hn
  clear hn
  go_enter Tryd.func57, Tryd.ntmps57
  go_wp2_with fail
  (with_reducible refine (bits_walk n HN.out w).mono ?_)
  rintro e w1 ⟨rfl, hB⟩
  have B1 := Aside0.mk hB
  clear hB
  go_upto_region 2 with (first
    | ((with_reducible refine gate_dst (N := 3) rfl ?_); refine box_event ?hg (N := 3) ?hd (cs := Z64) (t := 61) ?hr ?_; (case hd => rfl); (case hg => rfl); (case hr => go_simp; rfl); intro g5 hg5 w2 hb2 hB2; have R5 := Aside0.mk (z64_row hb2); have B2 := Aside0.mk hB2; have G5 := Aside0.mk hg5; clear hb2 hB2 hg5)
    | (refine store64_event (g := g5) (f := cf n) (x := .tmp 3) (y := .tmp 7) rfl rfl rfl rfl rfl R5.out ?_; intro w3 hr3 hb3; have X5 := Aside0.mk hr3; have B3 := Aside0.mk (hb3.below (B := w.heap.size) (by have := G5.out; have := B1.out.size; omega)); clear hr3 hb3))
  have BB := Aside0.mk (((B1.out.trans (B2.out.mono B1.out.size))).trans B3.out)
  clear R5 B1 B2 B3
  go_wp2
  go_loopg [4, 5] 64 (fun k v4 v5 wr => ∃ (i : Nat), v5 = .int .i64 (i : Int) ∧ i ≤ 64 ∧ k = 64 - i ∧ v4 = .string (bs (RT.plus (RT.terms n i))) ∧ wr.rowIs g5 61 64 (fun j => .int .i64 ((cf n j : Nat) : Int)) ∧ Below w.heap.size w wr)
  case atStart => exact ⟨0, rfl, by omega, rfl, rfl, X5.out, BB.out⟩
  case round =>
  obtain ⟨i, rfl, hi, rfl, rfl, hrw, hB⟩ := hrel
  have HR := Aside0.mk (And.intro hrw hB)
  clear hrw hB
  by_cases hlt : i < 64
  · have hlt0 : decide ((i : Int) < 64) = true := decide_eq_true (by omega)
    have hc := HR.out.1.cell hlt
    have hii : (0 : Int) ≤ (i : Int) ∧ (i : Int) < 64 := by omega
    have ei : IntKind.i64.wrap ((i : Int) + 1) = (i : Int) + 1 := by rw [IntKind.wrap_i64]; omega
    obtain ⟨sx, hsx⟩ : ∃ sx, sx = bs (RT.plus (RT.terms n i)) := ⟨_, rfl⟩
    have HSX := Aside0.mk hsx
    rw [← hsx]
    clear hsx
    by_cases hb : n.testBit i = true
    · rw [show cf n i = 1 by unfold cf; rw [if_pos hb]] at hc
      by_cases he : RT.plus (RT.terms n i) = []
      · have hem : sx.toList.isEmpty = true := by rw [HSX.out, he]; exact bs_empty []
        have ht : RT.terms n i = [] := (RT.plus_nil (RT.terms_nonempty hi)).1 he
        go_wp2_with fail
        (with_reducible refine (term_walk i hlt _).mono ?_)
        rintro e w' ⟨rfl, m, rfl⟩
        go_wp2
        go_roundg (64 - (i + 1))
        case measure => omega
        case rel => exact ⟨i + 1, rfl, by omega, rfl, by rw [RT.terms, if_pos hb, ht]; rfl, HR.out.1.of_block rfl, pw_below_drewN HR.out.2 m⟩
      · have hem : sx.toList.isEmpty = false := by rw [HSX.out]; cases hh : RT.plus (RT.terms n i) with
          | nil => exact absurd hh he
          | cons a b => exact bs_empty (a :: b)
        have hsz : sx.size ≤ 320 := by
          rw [HSX.out]
          have h1 := RT.plus_len (RT.terms n i) (fun t ht => by
            obtain ⟨j, hj, _, rfl⟩ := RT.terms_mem ht
            exact RT.term_len ⟨j, by omega⟩)
          have h2 := RT.terms_len n i
          show (RT.plus (RT.terms n i)).length ≤ 320
          omega
        have htl : (bs (RT.term i)).size ≤ 4 := RT.term_len ⟨i, hlt⟩
        obtain ⟨tx, htx⟩ : ∃ tx, tx = bs (RT.term i) := ⟨_, rfl⟩
        have T := Aside0.mk (term_walk i hlt wr)
        rw [← htx] at T htl
        have HTX := Aside0.mk htx
        clear htx
        have hs2 : (tx ++ (⟨#[43]⟩ : ByteArray)).size ≤ 5 := by rw [ByteArray.size_append]; show tx.size + 1 ≤ 5; omega
        go_wp2_with fail
        (with_reducible refine T.out.mono ?_)
        clear T
        rintro e w' ⟨rfl, m, rfl⟩
        go_wp2
        go_roundg (64 - (i + 1))
        case measure => omega
        case rel =>
          refine ⟨i + 1, rfl, by omega, rfl, ?_, HR.out.1.of_block rfl, pw_below_drewN HR.out.2 m⟩
          rw [HTX.out, HSX.out, RT.terms, if_pos hb, show (⟨#[43]⟩ : ByteArray) = bs [43] from rfl, bs_app, bs_app]
          cases ht : RT.terms n i with
          | nil => exact absurd (by rw [ht]; rfl) he
          | cons u q => exact congrArg (fun l => Value.string (bs l)) (by rw [List.append_assoc]; rfl)
    · rw [show cf n i = 0 by unfold cf; rw [if_neg hb]] at hc
      go_wp2
      go_roundg (64 - (i + 1))
      case measure => omega
      case rel => exact ⟨i + 1, rfl, by omega, rfl, by rw [HSX.out, RT.terms, if_neg hb], HR.out.1, HR.out.2⟩
  have hlt0 : decide ((i : Int) < 64) = false := decide_eq_false (by omega)
  obtain rfl : i = 64 := by omega
  have hok : n = 0 ↔ RT.plus (RT.terms n 64) = [] := by
    constructor
    · intro e
      subst e
      have : ∀ k, RT.terms 0 k = [] := by
        intro k; induction k with
        | zero => rfl
        | succ k ih => unfold RT.terms; simpa using ih
      rw [this 64]; rfl
    · intro e
      have h1 := RT.take_text 64 (Nat.le_refl _) n HN.out
      rw [e] at h1
      have : some 0 = some n := h1
      exact (Option.some.inj this).symm
  obtain ⟨sx, hsx⟩ : ∃ sx, sx = bs (RT.plus (RT.terms n 64)) := ⟨_, rfl⟩
  have HSX := Aside0.mk hsx
  rw [← hsx]
  by_cases h0 : n = 0
  · have hem : sx.toList.isEmpty = true := by rw [hsx, hok.1 h0]; exact bs_empty []
    clear hsx hok
    go_wp2
    go_ret
    exact ⟨by subst h0; rfl, HR.out.2⟩
  · have hem : sx.toList.isEmpty = false := by rw [hsx]; cases hh : RT.plus (RT.terms n 64) with
      | nil => exact absurd (hok.2 hh) h0
      | cons a b => exact bs_empty (a :: b)
    clear hsx hok
    go_wp2
    go_ret
    refine ⟨?_, HR.out.2⟩
    show Ending.returned (Value.string sx) = _
    rw [HSX.out]
    unfold RT.text
    rw [if_neg h0]
end Go.Proofs.YthldahaimcdejaaDoor.A
