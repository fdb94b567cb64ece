import Derived.Test.YtidogckochpbgaaH1
import Derived.Test.YtidogckochpbgaaL2
namespace Go.Proofs.Ytidogckochpbgaa.A
open Go.RowKit Go.Deep Go.Proofs.YtidogckochpbgaaW.PrintWords Go.Proofs.YtidogckochpbgaaW.PrintLast Go.Proofs.YtidogckochpbgaaW.PrintMore Go.Proofs.Ytidogckochpbgaa.R
set_option linter.unusedVariables false
set_option linter.unusedSimpArgs false
/-- twin: a copy; the bounds are those within which lists can be handed in. -/
def culletlaw10_twin.f (l : List (List Int)) : Option (List (List Int)) :=
  if l.length ≤ 11728124029610 ∧ (l.all fun x => decide (x.length ≤ 140737488351232)) = true then some l else none
set_option maxHeartbeats 2000000 in
set_option maxRecDepth 100000 in
theorem culletlaw10_twin.calls (A0 : Option Addr) (c0 : Nat) (l0 : List (List Int)) (r : List (List Int)) (w : World) (hr0 : Kd.C (Kd.slice 5 (Kd.int .u8)) w A0 l0.length l0) (hc0 : l0.length ≤ c0) (h : culletlaw10_twin.f l0 = some r) :
    Calls Try.prog 20 #[.slice A0 l0.length c0] w fun e w' => ∃ v0_ : Value, e = .returned v0_ ∧ Kd.S (Kd.slice 5 (Kd.int .u8)) 31 w' w.heap.size (fun _ => True) v0_ r ∧ Below w.heap.size w w' := by
  unfold culletlaw10_twin.f at h
  by_cases hb : l0.length ≤ 11728124029610 ∧ (l0.all fun x => decide (x.length ≤ 140737488351232)) = true
  · rw [if_pos hb] at h
    obtain rfl := Option.some.inj h
    obtain ⟨hb1, hb2⟩ := hb
    have hb2' : ∀ x, x ∈ l0 → x.length ≤ 140737488351232 := by simpa using hb2
    have hb3 : ∀ i, i < l0.length → (l0.getD i []).length ≤ 140737488351232 := fun i hi => by
      rw [List.getD_eq_getElem?_getD, List.getElem?_eq_getElem hi]
      exact hb2' _ (List.getElem_mem hi)
    have HB2 := Aside0.mk hb2'
    have HB3 := Aside0.mk hb3
    have H0 := Aside0.mk hr0
    clear h hb2 hb2' hb3 hr0
    have hmk := run_make_row' (P := Try.prog) 22 31 (.slice none 0 0) 24 Try.underlying22 info31' rfl .i64 .i64 l0.length (by omega) (by omega)
    have h0 := World.rowIs_made w (.slice none 0 0) l0.length 31
    have hb0 : Below w.heap.size w (w.alloc (.cells (madeCells #[Value.slice none 0 0] l0.length) 31)) := (Below.refl _ _).alloc (Nat.le_refl _) _
    have R0 : Aside0 (Rag (w.alloc (.cells (madeCells #[Value.slice none 0 0] l0.length) 31)) 31 5 w.heap.size w.heap.size l0.length 0 .u8 (fun i => (l0.getD i []).length) (fun _ => 0) (fun i j => (l0.getD i []).getD j 0)) :=
      ⟨⟨h0.congr (fun i _ => by rw [if_neg (by omega)]), fun i hi => by omega, fun i j hi => by omega, Nat.le_refl _, fun i hi => by omega, by decide⟩⟩
    have B0 := Aside0.mk hb0
    clear h0 hb0
    go_enter Try.func20, Try.ntmps20
    go_wp2
    go_loopg [4] l0.length (fun kq v4 wr => ∃ k b, kq = l0.length - k ∧ k ≤ l0.length ∧ v4 = .int .i64 (k : Int) ∧ Rag wr 31 5 w.heap.size w.heap.size l0.length k .u8 (fun i => (l0.getD i []).length) b (fun i j => (l0.getD i []).getD j 0) ∧ Below w.heap.size w wr)
    case atStart => exact ⟨0, _, rfl, Nat.zero_le _, rfl, R0.out, B0.out⟩
    case round =>
      obtain ⟨k, b, rfl, hk, rfl, hR, hB⟩ := hrel
      have R1 := Aside0.mk hR
      have B1 := Aside0.mk hB
      clear hR hB R0 B0 hmk
      by_cases hlt : k < l0.length
      · obtain ⟨ad, rfl, f, cp, hf⟩ := rdr_of_C (by omega) H0.out
        obtain ⟨hc1, hc2, hc3⟩ := hf k hlt
        have C1 := Aside0.mk hc1
        have C3 := Aside0.mk hc3
        have hc1' := pw_cell_below B1.out hc1
        have hn := HB3.out k hlt
        obtain ⟨n, hnn⟩ : ∃ n, n = (l0.getD k []).length := ⟨_, rfl⟩
        rw [← hnn] at hc1' hc2 hn
        have HN := Aside0.mk hnn
        clear hnn hf hc1 hc3
        have hmk2 := run_make_row' (P := Try.prog) 31 5 (.int .u8 0) 1 Try.underlying31 info5' rfl .i64 .i64 n (by omega) (by omega)
        have hd1 := R1.out.hd.cell hlt
        rw [if_neg (Nat.lt_irrefl k)] at hd1
        have hf1 := R1.out.hd.frozen k
        have hz1 := R1.out.hd.lt
        have R2 := Aside0.mk (R1.out.step hlt n (.int .u8 0) rfl)
        have B2 := Aside0.mk ((B1.out.setCell (p := ⟨w.heap.size, k, none⟩) (Nat.le_refl _) (.slice (some ⟨wr.heap.size, 0, none⟩) n n)).alloc (by simpa using B1.out.size) (.cells (madeCells #[.int .u8 0] n) 5))
        go_wp2
        clear hd1 hf1 hz1 hmk2 hc1'
        have C2 := pw_cell_below B1.out C1.out
        have e2 : (wr.setCell ⟨w.heap.size, k, none⟩ (.slice (some ⟨wr.heap.size, 0, none⟩) n n)).alloc (.cells (madeCells #[.int .u8 0] n) 5) = (wr.setCell ⟨w.heap.size, k, none⟩ (.slice (some ⟨wr.heap.size, 0, none⟩) n n)).alloc (.cells (madeCells #[.int .u8 0] n) 5) := rfl
        clear e2 C2
        obtain ⟨B, hB⟩ : ∃ B, B = wr.heap.size := ⟨_, rfl⟩
        have HBs := Aside0.mk hB
        rw [← hB] at R2 B2 ⊢
        clear hB
        generalize (wr.setCell ⟨w.heap.size, k, none⟩ (.slice (some ⟨B, 0, none⟩) n n)).alloc (.cells (madeCells #[.int .u8 0] n) 5) = W1 at R2 B2 ⊢
        have hd1 := R2.out.hd.cell hlt
        rw [if_pos (Nat.lt_succ_self k), if_pos rfl, if_pos rfl] at hd1
        have hc1 := pw_cell_below B2.out C1.out
        rw [← HN.out] at hc1
        have hrw := R2.out.row k (Nat.lt_succ_self k)
        rw [if_pos rfl, if_pos rfl] at hrw
        have HRW := Aside0.mk hrw
        clear hrw
        go_wp2
        go_still_tail 8, (by kernel_rfl)
        change wpList _ _ _ _ _ W1.drew
        refine wpList_copy_at rfl (.tmp 26) (.tmp 30) 31 31 rfl 5 Try.underlying31 (by kernel_rfl) rfl rfl (off := 0) HRW.out n (by omega) (fun j => .int .u8 ((l0.getD k []).getD j 0)) (fun hp => by
          obtain ⟨a, e, hc⟩ := C3.out (by rw [← HN.out]; exact hp)
          exact ⟨rfl, a, e, fun j hj => pw_cell_below B2.out (hc j (by rw [← HN.out]; exact hj))⟩) (by omega) (fun _ _ => rfl) ?_
        intro W2 hrow hbut
        replace hbut := hbut.undrew
        have hrow' : W2.rowIs ((fun i => if i = k then B else b i) k) 5 ((fun i => if i = k then n else (l0.getD i []).length) k) (fun j => .int .u8 ((l0.getD k []).getD j 0)) := by
          simp only [if_pos]
          exact hrow.congr (fun j hj => by rw [if_pos ⟨by omega, by omega⟩]; rfl)
        have hbut' : But ((fun i => if i = k then B else b i) k) W1 W2 := by simp only [if_pos]; exact hbut
        have R3 := Aside0.mk ((R2.out.putrow (Nat.lt_succ_self k) hrow' hbut').congr (wd' := fun i => (l0.getD i []).length) (V' := fun i j => (l0.getD i []).getD j 0) (fun i hi => by
          by_cases e : i = k
          · subst e; rw [if_pos rfl]; exact HN.out
          · rw [if_neg e]) (fun _ _ => rfl) (fun i j hi hj => by
          by_cases e : i = k
          · subst e; rw [if_pos rfl]
          · rw [if_neg e, if_neg e]))
        have B3 := Aside0.mk (B2.out.trans (hbut.below (B := w.heap.size) (by rw [HBs.out]; exact B1.out.size)))
        clear hrow hrow' hbut hbut' hd1 hc1 R2 B2
        go_wp2
        go_roundg (l0.length - (k + 1))
        case measure => omega
        case rel => exact ⟨k + 1, _, rfl, by omega, by go_num, R3.out, B3.out⟩
      · go_wp2
        go_ret
        have hkm : k = l0.length := by omega
        subst hkm
        exact ⟨_, rfl, R1.out.toS (by unfold maxLen; omega) (fun x hx => by have := HB2.out x hx; unfold maxLen; omega) trivial (fun _ _ => trivial), B1.out⟩
  · rw [if_neg hb] at h; exact absurd h (by simp)
end Go.Proofs.Ytidogckochpbgaa.A
