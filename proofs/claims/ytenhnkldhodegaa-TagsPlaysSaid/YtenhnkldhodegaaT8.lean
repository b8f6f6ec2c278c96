import Derived.Test.YtenhnkldhodegaaT7
import Derived.Outline
import Derived.Shelf.Abstract
import Derived.Deep.LoopGhost
import Derived.Deep.Draws
import Derived.Laws.EntriesVeiled
import Derived.Laws.ResultCell
import Derived.Laws.Rows
import Derived.Deep.QuietTactic
import Derived.Deep.RegionWith
import Derived.BigQuiet
import Derived.Deep.MidRow
import Derived.Laws.Tables
import Derived.Deep.WholeRow
import Derived.Lib.SliceRun
import Derived.LaidEql
import Derived.RowKitTokens
import Derived.Stop.Asserts
import Derived.Laws.CopyRow
namespace Go.Proofs.Ytenhnkldhodegaa.R
open Go.RowKit Go.Proofs.YtenhnkldhodegaaW.PrintWords Go.Proofs.YtenhnkldhodegaaW.PrintLast Go.Proofs.YtenhnkldhodegaaW.PrintMore
attribute [local go_sem] max2_int min2_int max_two min_two max_three min_three max_four min_four   -- for this text's walks alone
set_option linter.unusedVariables false
set_option linter.unusedSimpArgs false
theorem below_of {w w1 w2 : World} {b : Nat} (h : Below w.heap.size w w1) (hb : w.heap.size ≤ b) (hg : w1.grownBy w2 (some b)) : Below w.heap.size w w2 :=
  pw_below_grown h (some b) h.size hg (fun k e => by cases e; exact hb)
theorem block_of {w1 w2 : World} {b g : Nat} {o : Obj} (hg : w1.grownBy w2 (some b)) (h : w1.heap[g]? = some o) (hn : g ≠ b) : w2.heap[g]? = some o :=
  (hg.block g (Array.getElem?_eq_some_iff.1 h).1 (by intro e; cases e; exact hn rfl)).trans h
/-- A request without names and bytes. -/
abbrev bareCs (ty tag : Int) : List Value := [.int .i64 ty, .int .i64 tag, .int .i64 0, .int .i64 0, .int .i64 0, .int .i64 0, .int .i64 0, .int .i64 0, .int .i64 0, .int .i64 0, .string ⟨#[]⟩, .slice none 0 0, .int .i64 0, .slice none 0 0]
theorem bareCs_wf (ty tag : Int) : WfQ (bareCs ty tag) tag := ⟨_, _, _, _, _, _, _, _, _, _, _, _, _, _, _, _, _, rfl⟩
theorem bareCs_tag (ty tag : Int) : tagOf (bareCs ty tag) = tag := rfl
def putS (most : Int) (css : List (List Value)) (cs : List Value) (t : Int) : List (List Value) := if findN css t < css.length then css else if most ≤ css.length then css else css ++ [cs]
def putC (most : Int) (css : List (List Value)) (t : Int) : Int := if findN css t < css.length then 7 else if most ≤ css.length then 5 else 0
theorem put_bare (b : Nat) (most ty tag : Int) (css : List (List Value)) (w : World) (hT : TagsIn w b most css) (hm8 : most ≤ 8) :
    Calls Try.prog 10 #[.pointer (some ⟨b, 0, none⟩), .agg (bareCs ty tag).toArray] w fun e w' => e = .returned (.int .i64 (putC most css tag)) ∧ w.grownBy w' (some b) ∧ TagsIn w' b most (putS most css (bareCs ty tag) tag) := by
  unfold putC putS
  by_cases h1 : findN css tag < css.length
  · rw [if_pos h1, if_pos h1]
    refine (put_twice b most tag css _ (bareCs_wf ty tag) w hT h1).mono ?_
    rintro e w' ⟨rfl, hb⟩
    exact ⟨rfl, grown_of_below hb _, hT.below hb⟩
  · rw [if_neg h1, if_neg h1]
    by_cases h2 : most ≤ css.length
    · rw [if_pos h2, if_pos h2]
      refine (put_full b most tag css _ (bareCs_wf ty tag) w hT h1 h2).mono ?_
      rintro e w' ⟨rfl, hb⟩
      exact ⟨rfl, grown_of_below hb _, hT.below hb⟩
    · rw [if_neg h2, if_neg h2]
      refine (put_ok b most tag css _ (fun cs' _ => cs' = bareCs ty tag) (bareCs_wf ty tag) w hT h1 (by omega) hm8 ?_).mono ?_
      · intro W hW
        refine (own_bare _ tag (bareCs_wf ty tag) ⟨rfl, rfl⟩ W).mono ?_
        rintro e w' ⟨rfl, hb⟩
        exact ⟨_, rfl, bareCs_wf ty tag, rfl, hb⟩
      · rintro e w' ⟨rfl, cs', w1, -, rfl, hb, hg, hT'⟩
        exact ⟨rfl, grown_trans (grown_of_below hb _) hg, hT'⟩
def lvA : List (List Value) := [bareCs 120 3]
set_option maxRecDepth 100000 in
set_option maxHeartbeats 4000000 in
theorem lives_ok (w : World) : Calls Try.prog 11 #[] w fun e w' => e = .returned (.bool true) ∧ Below w.heap.size w w' := by
  have hNew : ∀ W, Calls Try.prog 9 #[.int .i64 1] W fun e w' => e = .returned (.tuple #[.pointer (some ⟨W.heap.size, 0, none⟩), .int .i64 0]) ∧ Below W.heap.size W w' ∧ TagsIn w' W.heap.size 1 [] := fun W => new_ok 1 W (by omega) (by omega)
  have hP1 : ∀ W b, TagsIn W b 1 [] → Calls Try.prog 10 #[.pointer (some ⟨b, 0, none⟩), .agg (bareCs 120 3).toArray] W fun e w' => e = .returned (.int .i64 0) ∧ W.grownBy w' (some b) ∧ TagsIn w' b 1 lvA := fun W b h => put_bare b 1 120 3 [] W h (by omega)
  have hP2 : ∀ W b, TagsIn W b 1 lvA → Calls Try.prog 10 #[.pointer (some ⟨b, 0, none⟩), .agg (bareCs 124 3).toArray] W fun e w' => e = .returned (.int .i64 7) ∧ W.grownBy w' (some b) ∧ TagsIn w' b 1 lvA := fun W b h => put_bare b 1 124 3 lvA W h (by omega)
  have hP3 : ∀ W b, TagsIn W b 1 lvA → Calls Try.prog 10 #[.pointer (some ⟨b, 0, none⟩), .agg (bareCs 120 4).toArray] W fun e w' => e = .returned (.int .i64 5) ∧ W.grownBy w' (some b) ∧ TagsIn w' b 1 lvA := fun W b h => put_bare b 1 120 4 lvA W h (by omega)
  have hu := Try.underlying32
  go_enter Try.func11, Try.ntmps11
  go_wp2_with (first
    | (go_at_call 9; with_reducible refine (hNew _).mono ?_; rintro e w1 ⟨rfl, hb1, hT1⟩)
    | (go_at_call 10; with_reducible refine (hP1 _ _ hT1).mono ?_; rintro e w2 ⟨rfl, hg2, hT2⟩; have hb2 := below_of hb1 (Nat.le_refl _) hg2))
  clear hP1
  go_wp2_with (go_at_call 10; with_reducible refine (hP2 _ _ hT2).mono ?_; rintro e w3 ⟨rfl, hg3, hT3⟩; have hb3 := below_of hb2 (Nat.le_refl _) hg3)
  clear hP2
  go_wp2_with (go_at_call 10; with_reducible refine (hP3 _ _ hT3).mono ?_; rintro e w4 ⟨rfl, hg4, hT4⟩; have hb4 := below_of hb3 (Nat.le_refl _) hg4)
  go_ret
  exact ⟨rfl, hb4⟩

end Go.Proofs.Ytenhnkldhodegaa.R
