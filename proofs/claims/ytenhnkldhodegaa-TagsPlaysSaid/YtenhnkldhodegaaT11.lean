import Derived.Test.YtenhnkldhodegaaT10
import Derived.Outline
import Derived.Shelf.Abstract
import Derived.Deep.LoopGhost
import Derived.Deep.Draws
import Derived.Laws.EntriesVeiled
import Derived.Laws.ResultCell
import Derived.Laws.Rows
import Derived.Deep.QuietTactic
import Derived.Deep.RegionWith
import Derived.BigQuiet
import Derived.Deep.MidRow
import Derived.Laws.Tables
import Derived.Deep.WholeRow
import Derived.Lib.SliceRun
import Derived.LaidEql
import Derived.RowKitTokens
import Derived.Stop.Asserts
import Derived.Laws.CopyRow
namespace Go.Proofs.Ytenhnkldhodegaa.R
open Go.RowKit Go.Proofs.YtenhnkldhodegaaW.PrintWords Go.Proofs.YtenhnkldhodegaaW.PrintLast Go.Proofs.YtenhnkldhodegaaW.PrintMore
attribute [local go_sem] max2_int min2_int max_two min_two max_three min_three max_four min_four   -- for this text's walks alone
set_option linter.unusedVariables false
set_option linter.unusedSimpArgs false
theorem ret_ask2 {fn : Func} {p u : Tmp} (h : fn.results = #[.cell p 32, .tmp u]) (tmps : Array Value) (w : World) (g : Nat) (cs : List Value) (hl : cs.length = 14) (hp : tmps.getD p undef = .pointer (some ⟨g, 0, none⟩)) (hg : w.heap[g]? = some (.cells cs.toArray 32 (0, 0))) : (results fn tmps).run Try.prog w = .ok (.tuple #[.agg cs.toArray, tmps.getD u undef]) w := by
  rw [results_cell_tmp h, hp]
  have hl := run_loadVar_row (P := Try.prog) w g 32 32 cs.toArray (0, 0) _ hg Try.underlying32 rfl (by
    have : (Try.prog.info? 32).map (·.size) = some 14 := by kernel_rfl
    rw [this]; simp [hl])
  simp [asAddr, Result.andThen, hl]
set_option maxRecDepth 100000 in
set_option maxHeartbeats 4000000 in
theorem pick_none (b : Nat) (most k : Int) (css : List (List Value)) (w : World) (hT : TagsIn w b most css) (hk : k < 0 ∨ (css.length : Int) ≤ k) : Calls Try.prog 13 #[.pointer (some ⟨b, 0, none⟩), .int .i64 k] w fun e w' => e = .returned (.tuple #[.agg zq.toArray, .int .i64 6]) ∧ Below w.heap.size w w' := by
  have hlt := hT.lt
  have hn := hT.num
  have hu := Try.underlying32
  clear hT
  by_cases h1 : k < 0
  · go_enter Try.func13, Try.ntmps13
    go_wp2
    refine bodyPost_ret_by (v := .tuple #[.agg zq.toArray, .int .i64 6]) (ret_ask2 (p := 4) (u := 5) rfl _ _ w.heap.size zq rfl rfl (heap_alloc_new w _)) rfl ⟨rfl, below_alloc (Below.refl _ _) _⟩
  · have h2 : (css.length : Int) ≤ k := by omega
    go_enter Try.func13, Try.ntmps13
    go_wp2
    refine bodyPost_ret_by (v := .tuple #[.agg zq.toArray, .int .i64 6]) (ret_ask2 (p := 4) (u := 5) rfl _ _ w.heap.size zq rfl rfl (heap_alloc_new w _)) rfl ⟨rfl, below_alloc (Below.refl _ _) _⟩

end Go.Proofs.Ytenhnkldhodegaa.R
