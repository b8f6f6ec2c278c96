import Derived.Test.YtbjmgmngomlmfaaT9
import Derived.Outline
import Derived.Shelf.Abstract
import Derived.Deep.LoopGhost
import Derived.Deep.Draws
import Derived.Laws.EntriesVeiled
import Derived.Laws.ResultCell
import Derived.Laws.Rows
import Derived.Deep.QuietTactic
import Derived.Deep.RegionWith
import Derived.BigQuiet
namespace Go.Proofs.Ytbjmgmngomlmfaa.R
open Go.RowKit Go.Proofs.YtbjmgmngomlmfaaW.PrintWords Go.Proofs.YtbjmgmngomlmfaaW.PrintLast Go.Proofs.YtbjmgmngomlmfaaW.PrintMore
attribute [local go_sem] max2_int min2_int max_two min_two max_three min_three max_four min_four   -- for this text's walks alone
set_option linter.unusedVariables false
set_option linter.unusedSimpArgs false
theorem below_of {w w1 w2 : World} {b : Nat} (h : Below w.heap.size w w1) (hb : w.heap.size ≤ b) (hg : w1.grownBy w2 (some b)) : Below w.heap.size w w2 :=
  pw_below_grown h (some b) h.size hg (fun k e => by cases e; exact hb)
theorem block_of {w1 w2 : World} {b g : Nat} {o : Obj} (hg : w1.grownBy w2 (some b)) (h : w1.heap[g]? = some o) (hn : g ≠ b) : w2.heap[g]? = some o :=
  (hg.block g (Array.getElem?_eq_some_iff.1 h).1 (by intro e; cases e; exact hn rfl)).trans h
def stL0 : List (Bool × Int × ByteArray) := [(false, 0, ⟨#[]⟩), (false, 0, ⟨#[]⟩), (false, 0, ⟨#[]⟩)]
def stL1 : List (Bool × Int × ByteArray) := [(true, 1, ⟨#[120]⟩), (false, 0, ⟨#[]⟩), (false, 0, ⟨#[]⟩)]
def stL2 : List (Bool × Int × ByteArray) := [(false, 1, ⟨#[]⟩), (false, 0, ⟨#[]⟩), (false, 0, ⟨#[]⟩)]
def stL3 : List (Bool × Int × ByteArray) := [(true, 2, ⟨#[121]⟩), (false, 0, ⟨#[]⟩), (false, 0, ⟨#[]⟩)]
set_option maxHeartbeats 4000000 in
theorem lives_ok (w : World) : Calls Try.prog 11 #[] w fun e w' => e = .returned (.bool true) ∧ Below w.heap.size w w' := by
  have hNew : ∀ W, Calls Try.prog 25 #[.int .i64 3] W fun e w' => e = .returned (.tuple #[.pointer (some ⟨W.heap.size + 1, 0, none⟩), .int .i64 0]) ∧ Below W.heap.size W w' ∧ TabStr w' W.heap.size 0 stL0 := fun W => new_str 3 W (by omega) (by omega)
  have hA1 : ∀ W b, TabStr W b 0 stL0 → Calls Try.prog 26 #[.pointer (some ⟨b + 1, 0, none⟩), .string ⟨#[120]⟩] W fun e w' => e = .returned (.tuple #[.agg #[.int .i64 1, .int .i64 1], .int .i64 0]) ∧ W.grownBy w' (some b) ∧ TabStr w' b 1 stL1 := fun W b h => add_str b 0 stL0 ⟨#[120]⟩ W h (by omega)
  have hR : ∀ W b, TabStr W b 1 stL1 → Calls Try.prog 27 #[.pointer (some ⟨b + 1, 0, none⟩), .agg #[.int .i64 1, .int .i64 1]] W fun e w' => e = .returned (.int .i64 0) ∧ W.grownBy w' (some b) ∧ TabStr w' b 1 stL2 := fun W b h => rem_str b 1 stL1 1 1 W h
  have hA2 : ∀ W b, TabStr W b 1 stL2 → Calls Try.prog 26 #[.pointer (some ⟨b + 1, 0, none⟩), .string ⟨#[121]⟩] W fun e w' => e = .returned (.tuple #[.agg #[.int .i64 1, .int .i64 2], .int .i64 0]) ∧ W.grownBy w' (some b) ∧ TabStr w' b 2 stL3 := fun W b h => add_str b 1 stL2 ⟨#[121]⟩ W h (by omega)
  have hG : ∀ W b, TabStr W b 2 stL3 → Calls Try.prog 28 #[.pointer (some ⟨b + 1, 0, none⟩), .agg #[.int .i64 1, .int .i64 2]] W fun e w' => e = .returned (.tuple #[.string ⟨#[121]⟩, .int .i64 0]) ∧ Below W.heap.size W w' := fun W b h => get_str b 2 stL3 1 2 W h
  go_enter Try.func11, Try.ntmps11
  go_wp2_with (first
    | (go_at_call 25; refine (hNew _).mono ?_; rintro e w1 ⟨rfl, hb1, hT1⟩)
    | (go_at_call 26; refine (hA1 _ _ hT1).mono ?_; rintro e w2 ⟨rfl, hg2, hT2⟩; have hb2 := below_of hb1 (Nat.le_refl _) hg2))
  have hne : w.heap.size < w2.heap.size := by have := hT2.lt; omega
  have HB2 : Aside (w2.heap[w2.heap.size]? = none) := by show _ = _; simp
  go_wp2_with (first
    | (go_at_call 27; refine (hR _ _ (hT2.below (below_alloc (Below.refl _ _) _))).mono ?_; rintro e w3 ⟨rfl, hg3, hT3⟩; have hq := block_of hg3 (heap_alloc_new w2 _) (by omega); have q0 := blk_cell hq 0; have q1 := blk_cell hq 1; have hb3 := below_of (below_step hb2 (below_alloc (Below.refl w2.heap.size w2) _)) (Nat.le_refl _) hg3)
    | (go_at_call 26; refine (hA2 _ _ hT3).mono ?_; rintro e w4 ⟨rfl, hg4, hT4⟩; have hq' := block_of hg4 hq (by omega); have hb4 := below_of hb3 (Nat.le_refl _) hg4))
  have hlt4 : w2.heap.size < w4.heap.size := (Array.getElem?_eq_some_iff.1 hq').1
  go_wp2_with (go_at_call 28; refine (hG _ _ (hT4.below (below_alloc (Below.refl _ _) _))).mono ?_; rintro e w5 ⟨rfl, hb5⟩; have hb45 := below_step (below_alloc (Below.refl w4.heap.size w4) _) hb5; have hq5 := (hb45.block _ hlt4).trans hq'; have hr5 := (hb5.block w4.heap.size (by simp)).trans (heap_alloc_new w4 _); have q0 := blk_cell hq5 0; have q1 := blk_cell hq5 1; have r0 := blk_cell hr5 0; have r1 := blk_cell hr5 1)
  go_ret
  exact ⟨rfl, below_step hb4 hb45⟩

end Go.Proofs.Ytbjmgmngomlmfaa.R
