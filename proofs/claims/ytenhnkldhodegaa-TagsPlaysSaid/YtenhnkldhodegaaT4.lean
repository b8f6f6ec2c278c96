import Derived.Test.YtenhnkldhodegaaT3
import Derived.Outline
import Derived.Shelf.Abstract
import Derived.Deep.LoopGhost
import Derived.Deep.Draws
import Derived.Laws.EntriesVeiled
import Derived.Laws.ResultCell
import Derived.Laws.Rows
import Derived.Deep.QuietTactic
import Derived.Deep.RegionWith
import Derived.BigQuiet
import Derived.Deep.MidRow
import Derived.Laws.Tables
import Derived.Deep.WholeRow
import Derived.Lib.SliceRun
import Derived.LaidEql
import Derived.RowKitTokens
import Derived.Stop.Asserts
import Derived.Laws.CopyRow
namespace Go.Proofs.Ytenhnkldhodegaa.R
open Go.RowKit Go.Proofs.YtenhnkldhodegaaW.PrintWords Go.Proofs.YtenhnkldhodegaaW.PrintLast Go.Proofs.YtenhnkldhodegaaW.PrintMore
attribute [local go_sem] max2_int min2_int max_two min_two max_three min_three max_four min_four   -- for this text's walks alone
set_option linter.unusedVariables false
set_option linter.unusedSimpArgs false
set_option maxHeartbeats 1000000 in
theorem clone_strs_nil (n c : Nat) (w : World) : Calls Try.prog 34 #[.slice none n c] w fun e w' => e = .returned (.slice none 0 0) ∧ w' = w := by
  have q22 : ∀ (w : World) (a : Option Addr) (n c n' c' : Nat), (binOp .eql 29 (.slice a n c) (.slice none n' c')).run Try.prog w = .ok (.bool a.isNone) w := fun w a n c n' c' => Lib.run_eql_slice_nil w _ _ a n c n' c' Try.underlying29
  go_enter Try.func34, Try.ntmps34
  go_wp2
  go_ret
  exact ⟨rfl, rfl⟩
set_option maxHeartbeats 1000000 in
theorem clone_bytes_nil (n c : Nat) (w : World) : Calls Try.prog 35 #[.slice none n c] w fun e w' => e = .returned (.slice none 0 0) ∧ w' = w := by
  have q22 : ∀ (w : World) (a : Option Addr) (n c n' c' : Nat), (binOp .eql 30 (.slice a n c) (.slice none n' c')).run Try.prog w = .ok (.bool a.isNone) w := fun w a n c n' c' => Lib.run_eql_slice_nil w _ _ a n c n' c' Try.underlying30
  go_enter Try.func35, Try.ntmps35
  go_wp2
  go_ret
  exact ⟨rfl, rfl⟩
/-- What own copies: nothing, where the names and the bytes are nil; a request without names and bytes is handed back as it is. -/
def BareQ (cs : List Value) : Prop := cs[11]? = some (.slice none 0 0) ∧ cs[13]? = some (.slice none 0 0)
theorem heap_push (w : World) (o : Obj) (i : Nat) : (w.alloc o).heap[i]? = if i = w.heap.size then some o else w.heap[i]? := by
  show (w.heap.push o)[i]? = _; rw [Array.getElem?_push]
theorem heap_two (w : World) (a b : Obj) : ((w.alloc a).alloc b).drew.heap[w.heap.size + 1]? = some b := by
  show ((w.alloc a).alloc b).heap[w.heap.size + 1]? = _
  rw [heap_push, if_pos (by simp)]
set_option maxRecDepth 100000 in
set_option maxHeartbeats 4000000 in
theorem own_bare (cs : List Value) (t : Int) (hq : WfQ cs t) (hb : BareQ cs) (w : World) : Calls Try.prog 24 #[.agg cs.toArray] w fun e w' => e = .returned (.agg cs.toArray) ∧ Below w.heap.size w w' := by
  obtain ⟨i0, i2, i3, i4, i5, i6, i7, i8, i9, s, A, n, c, i12, D, m, d, rfl⟩ := hq
  obtain ⟨b1, b2⟩ := hb
  simp only [List.getElem?_cons_succ, List.getElem?_cons_zero, Option.some.injEq, Value.slice.injEq] at b1 b2
  obtain ⟨rfl, rfl, rfl⟩ := b1
  obtain ⟨rfl, rfl, rfl⟩ := b2
  have hu := Try.underlying32
  have e1 := fun n c W => clone_strs_nil n c W
  have e2 := fun n c W => clone_bytes_nil n c W
  go_enter Try.func24, Try.ntmps24
  go_wp2
  go_region_with (first | (go_at_call 34; refine (e1 _ _ _).mono ?_; rintro e w' ⟨rfl, rfl⟩) | (go_at_call 35; refine (e2 _ _ _).mono ?_; rintro e w' ⟨rfl, rfl⟩))
  all_goals go_wp2
  all_goals (refine bodyPost_ret_by (results_cell_row rfl _ _ (w.heap.size + 1) 32 _ _ _ rfl (heap_two w _ _) Try.underlying32 rfl (by kernel_rfl)) rfl ?_; exact ⟨rfl, below_drew (below_alloc (below_alloc (Below.refl _ _) _) _)⟩)

end Go.Proofs.Ytenhnkldhodegaa.R
