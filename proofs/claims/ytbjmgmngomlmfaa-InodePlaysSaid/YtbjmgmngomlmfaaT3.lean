import Derived.Test.YtbjmgmngomlmfaaT2
import Derived.Outline
import Derived.Shelf.Abstract
import Derived.Deep.LoopGhost
import Derived.Deep.Draws
import Derived.Laws.EntriesVeiled
import Derived.Laws.ResultCell
import Derived.Laws.Rows
import Derived.Deep.QuietTactic
import Derived.Deep.RegionWith
import Derived.BigQuiet
namespace Go.Proofs.Ytbjmgmngomlmfaa.R
open Go.RowKit Go.Proofs.YtbjmgmngomlmfaaW.PrintWords Go.Proofs.YtbjmgmngomlmfaaW.PrintLast Go.Proofs.YtbjmgmngomlmfaaW.PrintMore
attribute [local go_sem] max2_int min2_int max_two min_two max_three min_three max_four min_four   -- for this text's walks alone
set_option linter.unusedVariables false
set_option linter.unusedSimpArgs false
/-- The place that a handle names, if it is not stale. -/
def atN {α : Type} (st : List (Bool × Int × α)) (ino gen : Int) : Option Nat :=
  if h : 1 ≤ ino ∧ ino ≤ st.length then (if st[(ino - 1).toNat].1 = true ∧ st[(ino - 1).toNat].2.1 = gen then some (ino - 1).toNat else none) else none
def atV (b : Nat) : Option Nat → Value
  | none => .pointer none
  | some i => .pointer (some ⟨b, i * 3, none⟩)
theorem atN_out {α : Type} (st : List (Bool × Int × α)) (ino gen : Int) (h : ¬ (1 ≤ ino ∧ ino ≤ st.length)) : atN st ino gen = none := by unfold atN; rw [dif_neg h]
theorem atN_in {α : Type} (st : List (Bool × Int × α)) (gen : Int) (i : Nat) (h : i < st.length) : atN st (i + 1) gen = if st[i].1 = true ∧ st[i].2.1 = gen then some i else none := by
  unfold atN
  rw [dif_pos (by omega)]
  simp
set_option maxHeartbeats 4000000 in
theorem at_int (b m : Nat) (st : List (Bool × Int × Int)) (ino gen : Int) (w : World) (hT : TabInt w b m st) : Calls Try.prog 32 #[.pointer (some ⟨b + 1, 0, none⟩), .agg #[.int .i64 ino, .int .i64 gen]] w fun e w' => e = .returned (atV b (atN st ino gen)) ∧ Below w.heap.size w w' := by
  have hlt := hT.lt
  have hsm := hT.small
  have hs := hT.slice
  have hl1 : b + 1 < w.heap.size := by omega
  have hl0 : b < w.heap.size := by omega
  by_cases h1 : ino < 1
  · rw [atN_out _ _ _ (by omega)]
    clear hT
    go_enter Try.func32, Try.ntmps32
    go_wp2
    go_quiet (fail)
    go_wp2
    go_ret
    refine ⟨rfl, ?_⟩; repeat (first | exact Below.refl _ _ | refine pw_below_drewN ?_ _ | refine below_alloc ?_ _)
  by_cases h2 : (st.length : Int) < ino
  · rw [atN_out _ _ _ (by omega)]
    clear hT
    go_enter Try.func32, Try.ntmps32
    go_wp2
    go_quiet (fail)
    go_wp2
    go_ret
    refine ⟨rfl, ?_⟩; repeat (first | exact Below.refl _ _ | refine pw_below_drewN ?_ _ | refine below_alloc ?_ _)
  obtain ⟨i, rfl⟩ : ∃ i : Nat, ino = i + 1 := ⟨(ino - 1).toNat, by omega⟩
  have hi : i < st.length := by omega
  rw [atN_in _ _ _ hi]
  obtain ⟨c0, c1, c2⟩ := hT.rows.at_ i hi
  have h3 : (i : Int) + 1 - 1 = i := by omega
  cases hq : st[i].1 with
  | false =>
    rw [hq] at c0
    rw [if_neg (by simp)]
    clear hT
    go_enter Try.func32, Try.ntmps32
    go_wp2
    go_quiet (fail)
    go_wp2
    go_quiet (fail)
    go_wp2
    go_quiet (fail)
    go_wp2
    go_ret
    refine ⟨rfl, ?_⟩; repeat (first | exact Below.refl _ _ | refine pw_below_drewN ?_ _ | refine below_alloc ?_ _)
  | true =>
    rw [hq] at c0
    by_cases hgen : st[i].2.1 = gen
    · rw [if_pos ⟨rfl, hgen⟩]
      rw [hgen] at c1
      have hd : decide (gen = gen) = true := by simp
      clear hT
      go_enter Try.func32, Try.ntmps32
      go_wp2
      go_quiet (fail)
      go_wp2
      go_quiet (fail)
      go_wp2
      go_quiet (fail)
      go_wp2
      go_ret
      refine ⟨rfl, ?_⟩; repeat (first | exact Below.refl _ _ | refine pw_below_drewN ?_ _ | refine below_alloc ?_ _)
    · rw [if_neg (by simp [hgen])]
      generalize st[i].2.1 = gg at hgen c1
      clear hT
      go_enter Try.func32, Try.ntmps32
      go_wp2
      go_quiet (fail)
      go_wp2
      go_quiet (fail)
      go_wp2
      go_quiet (fail)
      go_wp2
      go_ret
      refine ⟨rfl, ?_⟩; repeat (first | exact Below.refl _ _ | refine pw_below_drewN ?_ _ | refine below_alloc ?_ _)

end Go.Proofs.Ytbjmgmngomlmfaa.R
