import Derived.Test.YtenhnkldhodegaaT13
import Derived.Outline
import Derived.Shelf.Abstract
import Derived.Deep.LoopGhost
import Derived.Deep.Draws
import Derived.Laws.EntriesVeiled
import Derived.Laws.ResultCell
import Derived.Laws.Rows
import Derived.Deep.QuietTactic
import Derived.Deep.RegionWith
import Derived.BigQuiet
import Derived.Deep.MidRow
import Derived.Laws.Tables
import Derived.Deep.WholeRow
import Derived.Lib.SliceRun
import Derived.LaidEql
import Derived.RowKitTokens
import Derived.Stop.Asserts
import Derived.Laws.CopyRow
namespace Go.Proofs.Ytenhnkldhodegaa.R
open Go.RowKit Go.Proofs.YtenhnkldhodegaaW.PrintWords Go.Proofs.YtenhnkldhodegaaW.PrintLast Go.Proofs.YtenhnkldhodegaaW.PrintMore
attribute [local go_sem] max2_int min2_int max_two min_two max_three min_three max_four min_four   -- for this text's walks alone
set_option linter.unusedVariables false
set_option linter.unusedSimpArgs false
set_option maxRecDepth 100000 in
set_option maxHeartbeats 4000000 in
theorem flush_none (b : Nat) (most tag : Int) (css : List (List Value)) (w : World) (hT : TagsIn w b most css) (hf : ¬ findN css tag < css.length) : Calls Try.prog 17 #[.pointer (some ⟨b, 0, none⟩), .int .i64 tag] w fun e w' => e = .returned (.bool false) ∧ Below w.heap.size w w' := by
  have hFi := fun W h => find_ok b most tag css W h
  have e1 : findI css tag = -1 := by unfold findI; rw [if_neg hf]
  rw [e1] at hFi
  have hPi := fun W h => pick_none b most (-1) css W h (.inl (by omega))
  have hIs := fun W => is_num 6 W
  have hu := Try.underlying32
  simp only [zq] at hPi
  have HT : Aside (TagsIn w b most css) := hT
  clear hT hf e1
  go_enter Try.func17, Try.ntmps17
  go_wp2_with (first
    | (go_at_call 31; with_reducible refine (hFi _ HT.out).mono ?_; rintro e w1 ⟨rfl, hb1⟩)
    | (go_at_call 13; with_reducible refine (hPi _ (HT.out.below hb1)).mono ?_; rintro e w2 ⟨rfl, hb2⟩)
    | (go_at_call 32; with_reducible refine (hIs _).mono ?_; rintro e w3 ⟨rfl, rfl⟩))
  go_ret
  exact ⟨rfl, below_alloc (below_step hb1 hb2) _⟩
set_option maxRecDepth 100000 in
set_option maxHeartbeats 4000000 in
theorem flush_ok (b : Nat) (most tag : Int) (css : List (List Value)) (w : World) (hT : TagsIn w b most css) (hf : findN css tag < css.length) : Calls Try.prog 17 #[.pointer (some ⟨b, 0, none⟩), .int .i64 tag] w fun e w' => e = .returned (.bool true) ∧ w.grownBy w' (some b) ∧ TagsIn w' b most (css.eraseIdx (findN css tag)) := by
  have hFi := fun W h => find_ok b most tag css W h
  have e1 : findI css tag = (findN css tag : Int) := by unfold findI; rw [if_pos hf]
  rw [e1] at hFi
  have hPi := fun W h => pick_ok b (findN css tag) most css W h hf
  obtain ⟨i0, i2, i3, i4, i5, i6, i7, i8, i9, s, A, n, c, i12, D, m, d, hck⟩ := hT.wf _ hf
  generalize findN css tag = k at *
  generalize tagOf css[k] = tk at hck
  rw [hck] at hPi
  have hIs := fun W => is_num 0 W
  have hu := Try.underlying32
  have HT : Aside (TagsIn w b most css) := hT
  clear hT hf e1 hck
  go_enter Try.func17, Try.ntmps17
  go_wp2_with (first
    | (go_at_call 31; with_reducible refine (hFi _ HT.out).mono ?_; rintro e w1 ⟨rfl, hb1⟩)
    | (go_at_call 13; with_reducible refine (hPi _ (HT.out.below hb1)).mono ?_; rintro e w2 ⟨rfl, hg2, hT2⟩)
    | (go_at_call 32; with_reducible refine (hIs _).mono ?_; rintro e w3 ⟨rfl, rfl⟩))
  go_ret
  have hal : Below w2.heap.size w2 (w2.alloc (.cells #[.int .i64 i0, .int .i64 tk, .int .i64 i2, .int .i64 i3, .int .i64 i4, .int .i64 i5, .int .i64 i6, .int .i64 i7, .int .i64 i8, .int .i64 i9, .string s, .slice A n c, .int .i64 i12, .slice D m d] 32)) := below_alloc (Below.refl _ _) _
  exact ⟨rfl, grown_trans (grown_of_below hb1 _) (grown_trans hg2 (grown_of_below hal _)), hT2.below hal⟩

end Go.Proofs.Ytenhnkldhodegaa.R
