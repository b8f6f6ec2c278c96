import Derived.Test.YtbjmgmngomlmfaaT17
import Derived.Outline
import Derived.Shelf.Abstract
import Derived.Deep.LoopGhost
import Derived.Deep.Draws
import Derived.Laws.EntriesVeiled
import Derived.Laws.ResultCell
import Derived.Laws.Rows
import Derived.Deep.QuietTactic
import Derived.Deep.RegionWith
import Derived.BigQuiet
namespace Go.Proofs.Ytbjmgmngomlmfaa.R
open Go.RowKit Go.Proofs.YtbjmgmngomlmfaaW.PrintWords Go.Proofs.YtbjmgmngomlmfaaW.PrintLast Go.Proofs.YtbjmgmngomlmfaaW.PrintMore
attribute [local go_sem] max2_int min2_int max_two min_two max_three min_three max_four min_four   -- for this text's walks alone
set_option linter.unusedVariables false
set_option linter.unusedSimpArgs false
/-- What like answers: the ref's list r against the table's state. -/
def likeF (r : List S53) (st : List (Bool × Int × Int)) : Bool :=
  ((eachF (likeStep r) 0 st (true, 0)).1 && decide ((eachF (likeStep r) 0 st (true, 0)).2 = r.length)) && decide (st.countP (·.1) = r.length)
set_option maxHeartbeats 4000000 in
theorem like_int (b m cap k : Nat) (most : Int) (A : Option Addr) (l r : List S53) (st : List (Bool × Int × Int)) (w : World) (hT : TabInt w b m st) (hC : Kd.C k53 w A l.length l) (hc : l.length ≤ cap) (hE : truchmanref10_Each.f k most l = some r) (hr : r.length ≤ 1000) :
    Calls Try.prog 20 #[.pointer (some ⟨b + 1, 0, none⟩), .agg #[.int .i64 most, .slice A l.length cap]] w fun e w' => e = .returned (.bool (likeF r st)) ∧ Below w.heap.size w w' := by
  have hlt := hT.lt
  have hEa := fun W h => truchmanref10_Each.calls k most A cap l r W h hc hE
  go_enter Try.func20, Try.ntmps20
  go_wp2_with (go_at_call 34; refine (hEa _ (Kd.C_alloc hC _)).mono ?_; rintro e w1 ⟨v0, rfl, hR, hb1⟩; obtain ⟨A1, c1, rfl, hc1, hC1⟩ := Kd.R_reads hR)
  have hbw : Below w.heap.size w w1 := below_step (below_alloc (Below.refl _ _) _) hb1
  have hb3 : Below w1.heap.size w1 (((w1.alloc (.cells #[.slice A1 r.length c1] 46)).alloc (.cells #[.int .i64 0] 3)).alloc (.cells #[.bool true] 4)) := below_alloc (below_alloc (below_alloc (Below.refl _ _) _) _) _
  have egg : ∀ args w, (callFunc 36 args).run Try.prog w = .ok (.enter 36 args) w := enters_of Try.func36 (by kernel_rfl) rfl
  -- next: each_int (Rel: the two variables at w1.heap.size + 1 + 1 and w1.heap.size + 1, the slice's box at w1.heap.size, Kd.C k53 of r, s.2 at most the round's number) (likeStep r), then region 5 by len_int
  have hne := Nat.ne_of_lt (Nat.lt_succ_self w1.heap.size)
  have hA1 : 0 < r.length → ∃ g, A1 = some ⟨g, 0, none⟩ ∧ g < w1.heap.size := fun h => by
    obtain ⟨g, cp, e, -, hg, -⟩ := Kd.R_form hR h
    cases e
    exact ⟨g, rfl, hg⟩
  refine (each_int (fun kk (s : Bool × Nat) W => W.heap[w1.heap.size + 1 + 1]? = some (.cells #[.bool s.1] 4 (0, 0)) ∧ W.heap[w1.heap.size + 1]? = some (.cells #[.int .i64 s.2] 3 (0, 0)) ∧ W.heap[w1.heap.size]? = some (.cells #[.slice A1 r.length c1] 46 (0, 0)) ∧ s.2 ≤ kk) (likeStep r) 36 #[.pointer (some ⟨w1.heap.size + 1 + 1, 0, none⟩), .pointer (some ⟨w1.heap.size + 1, 0, none⟩), .pointer (some ⟨w1.heap.size, 0, none⟩)] b m w1.heap.size st (true, 0) _ (hT.below (below_step hbw hb3)) (by have := hbw.size; omega) hb3.size egg ?_ ?_ ?_ ?_).mono ?_
  · exact fun k s W h => ⟨h.1, h.2.1, h.2.2.1, Nat.le_succ_of_le h.2.2.2⟩
  · exact fun k s W W' h hb => ⟨(hb.block _ (Array.getElem?_eq_some_iff.1 h.1).1).trans h.1, (hb.block _ (Array.getElem?_eq_some_iff.1 h.2.1).1).trans h.2.1, (hb.block _ (Array.getElem?_eq_some_iff.1 h.2.2.1).1).trans h.2.2.1, h.2.2.2⟩
  · intro kk s W ino gen x hk h hb
    have hW : Below w1.heap.size w1 W := hb3.trans hb
    have hsm := hT.small
    refine (likec _ _ _ c1 A1 r s.1 s.2 ino gen x W (by have := h.2.2.2; omega) hr (Kd.C_below hC1 hW) (fun h0 => ?_) h.1 h.2.1 h.2.2.1 (by omega) (by omega) (by omega)).mono ?_
    · obtain ⟨g, e, hg⟩ := hA1 h0
      exact ⟨g, e, Nat.lt_of_lt_of_le hg hW.size⟩
    · rintro e w' ⟨rfl, hL⟩
      refine ⟨rfl, ⟨hL.s7, hL.s6, ?_, Nat.succ_le_succ h.2.2.2⟩, hb.trans (hL.bel _ (by omega) (by omega) hW.size)⟩
      rw [hL.rest _ (Array.getElem?_eq_some_iff.1 h.2.2.1).1 (by omega) (by omega)]
      exact h.2.2.1
  · refine ⟨?_, ?_, ?_, Nat.le_refl _⟩
    · rw [heap_push, if_pos (by simp)]
    · rw [heap_push, if_neg (by simp), heap_push, if_pos (by simp)]; rfl
    · rw [heap_push, if_neg (by simp; omega), heap_push, if_neg (by simp), heap_push, if_pos rfl]
  rintro e w4 ⟨rfl, ⟨s7, s6, s5, hk⟩, hb4⟩
  have hT4 := (hT.below (below_step hbw hb3)).base (B := w1.heap.size) (by have := hbw.size; omega) hb4
  have hbw4 : Below w.heap.size w w4 := below_step hbw (hb3.trans hb4)
  generalize hS : eachF (likeStep r) 0 st (true, 0) = S at s7 s6 hk
  obtain ⟨S1, S2⟩ := S
  simp only at s7 s6 hk
  have q7 := blk_cell s7 0
  have q6 := blk_cell s6 0
  have q5 := blk_cell s5 0
  have hL := len_int b m st w4.drew (hT4.below (below_drew (Below.refl _ _)))
  have hlen : (r.length : Int) = r.length := rfl
  have hF : likeF r st = ((S1 && decide (S2 = r.length)) && decide (st.countP (·.1) = r.length)) := by unfold likeF; rw [hS]
  have HF : Aside (likeF r st = ((S1 && decide (S2 = r.length)) && decide (st.countP (·.1) = r.length))) := hF
  clear hF hlen hS
  cases S1 with
  | false =>
    go_wp2
    go_region
    all_goals go_wp2
    go_ret
    exact ⟨by rw [HF.out]; rfl, below_step hbw4 (below_drew (Below.refl _ _))⟩
  | true =>
    by_cases h2 : S2 = r.length
    · subst h2
      by_cases h3 : st.countP (·.1) = r.length
      · rw [h3] at hL
        have HF2 : Aside (likeF r st = true) := by show _ = _; rw [HF.out, h3]; simp
        clear HF h3
        go_wp2
        go_region_with (go_at_call 21; refine hL.mono ?_; rintro e w5 ⟨rfl, hb5⟩; have q5' := pw_cell_below (below_step (below_drew (Below.refl w4.heap.size w4)) hb5) (show w4.cell? ⟨w1.heap.size, 0, none⟩ = some (.slice A1 r.length c1) from q5))
        all_goals go_wp2
        all_goals (go_ret; exact ⟨by rw [HF2.out]; rfl, below_step hbw4 (below_step (below_drew (Below.refl _ _)) hb5)⟩)
      · have h3' : ¬ ((st.countP (·.1) : Nat) : Int) = (r.length : Int) := by omega
        have HF2 : Aside (likeF r st = false) := by show _ = _; rw [HF.out]; simp [h3]
        clear HF
        generalize st.countP (·.1) = cn at *
        have h3d : decide ((cn : Int) = (r.length : Int)) = false := decide_eq_false h3'
        go_wp2
        go_region_with (go_at_call 21; refine hL.mono ?_; rintro e w5 ⟨rfl, hb5⟩; have q5' := pw_cell_below (below_step (below_drew (Below.refl w4.heap.size w4)) hb5) (show w4.cell? ⟨w1.heap.size, 0, none⟩ = some (.slice A1 r.length c1) from q5))
        all_goals go_wp2
        all_goals (go_ret; exact ⟨by rw [HF2.out, ← h3d]; rfl, below_step hbw4 (below_step (below_drew (Below.refl _ _)) hb5)⟩)
    · have h2' : decide (S2 = r.length) = false := by simp [h2]
      have h2i : ((S2 : Int) == (r.length : Int)) = false := by rw [beq_eq_false_iff_ne]; omega
      have HF2 : Aside (likeF r st = false) := by show _ = _; rw [HF.out, h2']; rfl
      clear HF
      go_wp2
      go_region
      all_goals go_wp2
      all_goals (go_ret; exact ⟨by rw [HF2.out]; rfl, below_step hbw4 (below_drew (Below.refl _ _))⟩)

end Go.Proofs.Ytbjmgmngomlmfaa.R
