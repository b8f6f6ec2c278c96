import Derived.Test.YtenhnkldhodegaaT2
import Derived.Outline
import Derived.Shelf.Abstract
import Derived.Deep.LoopGhost
import Derived.Deep.Draws
import Derived.Laws.EntriesVeiled
import Derived.Laws.ResultCell
import Derived.Laws.Rows
import Derived.Deep.QuietTactic
import Derived.Deep.RegionWith
import Derived.BigQuiet
import Derived.Deep.MidRow
import Derived.Laws.Tables
import Derived.Deep.WholeRow
import Derived.Lib.SliceRun
import Derived.LaidEql
import Derived.RowKitTokens
import Derived.Stop.Asserts
import Derived.Laws.CopyRow
namespace Go.Proofs.Ytenhnkldhodegaa.R
open Go.RowKit Go.Proofs.YtenhnkldhodegaaW.PrintWords Go.Proofs.YtenhnkldhodegaaW.PrintLast Go.Proofs.YtenhnkldhodegaaW.PrintMore
attribute [local go_sem] max2_int min2_int max_two min_two max_three min_three max_four min_four   -- for this text's walks alone
set_option linter.unusedVariables false
set_option linter.unusedSimpArgs false
set_option maxRecDepth 100000 in
set_option maxHeartbeats 4000000 in
theorem find_ok (b : Nat) (most tag : Int) (css : List (List Value)) (w : World) (hT : TagsIn w b most css) : Calls Try.prog 31 #[.pointer (some ⟨b, 0, none⟩), .int .i64 tag] w fun e w' => e = .returned (.int .i64 (findI css tag)) ∧ Below w.heap.size w w' := by
  have hlt := hT.lt
  have hn := hT.num
  have h8 := hT.le8
  have hT1 : TagsIn (w.alloc (.cells #[.int .i64 tag] 3)).drew b most css := hT.below (below_drew (below_alloc (Below.refl _ _) _))
  have hc : (w.alloc (.cells #[.int .i64 tag] 3)).drew.cell? ⟨w.heap.size, 0, none⟩ = some (.int .i64 tag) := by rw [cell_of_row _ _ _ _ _ _ (show (w.alloc (.cells #[.int .i64 tag] 3)).drew.heap[w.heap.size]? = _ from heap_alloc_new w _)]; rfl
  have hcall : ∀ cap, _ := fun cap => index_ask b cap w.heap.size css tag _ h8 hT1.wf hT1.range (by simp) hc
  have h8i : (css.length : Int) ≤ 8 := by omega
  have h0i : (0 : Int) ≤ css.length := by omega
  clear hc hT hT1
  go_enter Try.func31, Try.ntmps31
  go_wp2
  go_region_with (go_at_call 38; refine (hcall _).mono ?_; rintro e w' ⟨rfl, hb'⟩)
  all_goals (go_wp2; go_ret; exact ⟨rfl, below_step (below_drew (below_alloc (Below.refl _ _) _)) hb'⟩)
set_option maxHeartbeats 2000000 in
theorem has_ok (b : Nat) (most tag : Int) (css : List (List Value)) (w : World) (hT : TagsIn w b most css) : Calls Try.prog 15 #[.pointer (some ⟨b, 0, none⟩), .int .i64 tag] w fun e w' => e = .returned (.bool (decide (findN css tag < css.length))) ∧ Below w.heap.size w w' := by
  have hcall := find_ok b most tag css w hT
  have hd : decide (0 ≤ findI css tag) = decide (findN css tag < css.length) := by
    unfold findI
    split <;> simp_all
  rw [← hd]
  clear hd
  go_enter Try.func15, Try.ntmps15
  go_wp2_with (go_at_call 31; refine hcall.mono ?_; rintro e w' ⟨rfl, hb'⟩)
  go_ret
  exact ⟨rfl, hb'⟩
set_option maxHeartbeats 2000000 in
theorem len_ok (b : Nat) (most : Int) (css : List (List Value)) (w : World) (hT : TagsIn w b most css) : Calls Try.prog 16 #[.pointer (some ⟨b, 0, none⟩)] w fun e w' => e = .returned (.int .i64 css.length) ∧ Below w.heap.size w w' := by
  have hn := hT.num
  go_enter Try.func16, Try.ntmps16
  go_wp2
  go_ret
  exact ⟨rfl, Below.refl _ _⟩

end Go.Proofs.Ytenhnkldhodegaa.R
