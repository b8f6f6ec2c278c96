import Derived.Test.YtenhnkldhodegaaT4
import Derived.Outline
import Derived.Shelf.Abstract
import Derived.Deep.LoopGhost
import Derived.Deep.Draws
import Derived.Laws.EntriesVeiled
import Derived.Laws.ResultCell
import Derived.Laws.Rows
import Derived.Deep.QuietTactic
import Derived.Deep.RegionWith
import Derived.BigQuiet
import Derived.Deep.MidRow
import Derived.Laws.Tables
import Derived.Deep.WholeRow
import Derived.Lib.SliceRun
import Derived.LaidEql
import Derived.RowKitTokens
import Derived.Stop.Asserts
import Derived.Laws.CopyRow
namespace Go.Proofs.Ytenhnkldhodegaa.R
open Go.RowKit Go.Proofs.YtenhnkldhodegaaW.PrintWords Go.Proofs.YtenhnkldhodegaaW.PrintLast Go.Proofs.YtenhnkldhodegaaW.PrintMore
attribute [local go_sem] max2_int min2_int max_two min_two max_three min_three max_four min_four   -- for this text's walks alone
set_option linter.unusedVariables false
set_option linter.unusedSimpArgs false
theorem TagsIn.row8 {w : World} {b : Nat} {most : Int} {css : List (List Value)} (h : TagsIn w b most css) (i : Nat) (hi : i < 8) : w.rangeAt b (i * 14) ((rows8 css)[i]'(by rw [rows8_length css h.le8]; exact hi)) := by
  have hL := rows8_len css h.lens
  have hl := flat_length _ hL
  have h8 := rows8_length css h.le8
  intro j v hv
  have hj : j < 14 := by
    have := (List.getElem?_eq_some_iff.1 hv).1
    rw [hL _ (List.getElem_mem _)] at this
    exact this
  rw [cell_of_row _ _ _ _ _ _ h.row]
  have := flat_get (rows8 css) hL i j (by omega) hj
  rw [← this] at hv
  simp only [cellsT, List.getElem?_toArray]
  rw [List.getElem?_append_left (by omega)]
  exact hv
theorem TagsIn.zero {w : World} {b : Nat} {most : Int} {css : List (List Value)} (h : TagsIn w b most css) (hn : css.length < 8) : w.rangeAt b (css.length * 14) zq := by
  have := h.row8 css.length hn
  have e : (rows8 css)[css.length]'(by rw [rows8_length css h.le8]; exact hn) = zq := by
    unfold rows8
    rw [List.getElem_append_right (Nat.le_refl _)]
    simp
  rw [e] at this
  exact this
set_option maxRecDepth 100000 in
set_option maxHeartbeats 4000000 in
theorem put_twice (b : Nat) (most t : Int) (css : List (List Value)) (cs : List Value) (hq : WfQ cs t) (w : World) (hT : TagsIn w b most css) (hf : findN css t < css.length) : Calls Try.prog 10 #[.pointer (some ⟨b, 0, none⟩), .agg cs.toArray] w fun e w' => e = .returned (.int .i64 7) ∧ Below w.heap.size w w' := by
  obtain ⟨i0, i2, i3, i4, i5, i6, i7, i8, i9, s, A, n, c, i12, D, m, d, rfl⟩ := hq
  have hu := Try.underlying32
  have hcall := fun W hW => has_ok b most t css W (hT.below hW)
  rw [decide_eq_true hf] at hcall
  have HF : Aside (findN css t < css.length) := hf
  clear hf hT
  go_enter Try.func10, Try.ntmps10
  go_wp2_with (go_at_call 15; refine (hcall _ (below_alloc (Below.refl _ _) _)).mono ?_; rintro e w' ⟨rfl, hb'⟩)
  go_ret
  exact ⟨rfl, below_step (below_alloc (Below.refl _ _) _) hb'⟩
set_option maxRecDepth 100000 in
set_option maxHeartbeats 4000000 in
theorem put_full (b : Nat) (most t : Int) (css : List (List Value)) (cs : List Value) (hq : WfQ cs t) (w : World) (hT : TagsIn w b most css) (hf : ¬ findN css t < css.length) (hm : most ≤ css.length) : Calls Try.prog 10 #[.pointer (some ⟨b, 0, none⟩), .agg cs.toArray] w fun e w' => e = .returned (.int .i64 5) ∧ Below w.heap.size w w' := by
  obtain ⟨i0, i2, i3, i4, i5, i6, i7, i8, i9, s, A, n, c, i12, D, m, d, rfl⟩ := hq
  have hu := Try.underlying32
  have hcall := fun W hW => has_ok b most t css W (hT.below hW)
  rw [decide_eq_false hf] at hcall
  have HF : Aside (¬ findN css t < css.length) := hf
  have HT : Aside (TagsIn w b most css) := hT
  have hm' : ¬ (css.length : Int) < most := by omega
  clear hf hT
  go_enter Try.func10, Try.ntmps10
  go_wp2_with (go_at_call 15; refine (hcall _ (below_alloc (Below.refl _ _) _)).mono ?_; rintro e w' ⟨rfl, hb'⟩; have hT' := HT.out.below (below_step (below_alloc (Below.refl _ _) _) hb'); have q1 := hT'.num; have q2 := hT'.bound)
  go_quiet (fail)
  go_wp2
  go_ret
  refine ⟨rfl, pw_below_drewN (below_step (below_alloc (Below.refl _ _) _) hb') _⟩

end Go.Proofs.Ytenhnkldhodegaa.R
