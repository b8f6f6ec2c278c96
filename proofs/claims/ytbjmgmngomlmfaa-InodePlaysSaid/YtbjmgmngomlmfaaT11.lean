import Derived.Test.YtbjmgmngomlmfaaT10
import Derived.Outline
import Derived.Shelf.Abstract
import Derived.Deep.LoopGhost
import Derived.Deep.Draws
import Derived.Laws.EntriesVeiled
import Derived.Laws.ResultCell
import Derived.Laws.Rows
import Derived.Deep.QuietTactic
import Derived.Deep.RegionWith
import Derived.BigQuiet
namespace Go.Proofs.Ytbjmgmngomlmfaa.R
open Go.RowKit Go.Proofs.YtbjmgmngomlmfaaW.PrintWords Go.Proofs.YtbjmgmngomlmfaaW.PrintLast Go.Proofs.YtbjmgmngomlmfaaW.PrintMore
attribute [local go_sem] max2_int min2_int max_two min_two max_three min_three max_four min_four   -- for this text's walks alone
set_option linter.unusedVariables false
set_option linter.unusedSimpArgs false
theorem wf_i64 {a : Int} (h : (Lit.int .i64 a).wf = true) : -9223372036854775808 ≤ a ∧ a ≤ 9223372036854775807 := by
  have e1 : IntKind.i64.min = -9223372036854775808 := by decide
  have e2 : IntKind.i64.max = 9223372036854775807 := by decide
  simp [Lit.wf, e1, e2] at h
  omega
/-- modulo, from 0 on. -/
def arF (a m : Int) : Int := if a < 0 then Int.tmod (-(a + 1)) m else Int.tmod a m
theorem arF_range (a m : Int) (hm : 0 < m) : 0 ≤ arF a m ∧ arF a m < m := by
  unfold arF
  split
  · exact ⟨Int.tmod_nonneg _ (by omega), Int.tmod_lt_of_pos _ hm⟩
  · exact ⟨Int.tmod_nonneg _ (by omega), Int.tmod_lt_of_pos _ hm⟩
theorem around_any (a m : Int) (hm : 0 < m) (ha : -9223372036854775808 ≤ a ∧ a ≤ 9223372036854775807) (w : World) : Calls Try.prog 8 #[.int .i64 a, .int .i64 m] w fun e w' => e = .returned (.int .i64 (arF a m)) ∧ Below w.heap.size w w' := by
  refine (truchmanref01_Around.calls a m (arF a m) w ?_).mono fun e w' h => ⟨h.1, h.2.below⟩
  unfold truchmanref01_Around.f arF
  have h0 : ¬ m = 0 := by omega
  split
  · rw [show wrap64 (a + 1) = a + 1 by unfold wrap64; omega, show wrap64 (-(a + 1)) = -(a + 1) by unfold wrap64; omega]
  · rfl
section
variable {α : Type}
/-- A table of n places in whose first i ones something is, each of generation 1. -/
def fillT (z : α) (f : Nat → α) (n i : Nat) : List (Bool × Int × α) := (List.range n).map fun j => if j < i then (true, 1, f j) else (false, 0, z)
theorem fill_len (z : α) (f : Nat → α) (n i : Nat) : (fillT z f n i).length = n := by simp [fillT]
theorem fill_get (z : α) (f : Nat → α) (n i j : Nat) (h : j < (fillT z f n i).length) : (fillT z f n i)[j] = if j < i then (true, 1, f j) else (false, 0, z) := by simp [fillT]
theorem fill_zero (z : α) (f : Nat → α) (n : Nat) : fillT z f n 0 = List.replicate n (false, 0, z) := by
  apply List.ext_getElem
  · simp [fillT]
  · intro j h1 h2; rw [fill_get]; simp
theorem fill_free (z : α) (f : Nat → α) (n i : Nat) (h : i ≤ n) : freeAt (fillT z f n i) = i := by
  by_cases hi : i < n
  · refine freeAt_hit _ i (by rw [fill_len]; exact hi) ?_ ?_
    · rw [fill_get]; simp
    · intro j hj hji; rw [fill_get]; simp [hji]
  · have : i = n := by omega
    subst this
    rw [freeAt_miss, fill_len]
    intro j hj; rw [fill_get]; rw [fill_len] at hj; simp [hj]
theorem fill_addC (z : α) (f : Nat → α) (n i : Nat) (h : i < n) : addC (fillT z f n i) = 0 := by unfold addC; rw [fill_free _ _ _ _ (by omega), fill_len, if_pos h]
theorem fill_full (z : α) (f : Nat → α) (n : Nat) : addC (fillT z f n n) = 14 ∧ addI (fillT z f n n) = 0 ∧ addG (fillT z f n n) = 0 ∧ ∀ x, addF (fillT z f n n) x = fillT z f n n := by
  have hn : (fillT z f n n)[freeAt (fillT z f n n)]? = none := by rw [fill_free _ _ _ _ (Nat.le_refl _)]; exact List.getElem?_eq_none (by rw [fill_len]; exact Nat.le_refl _)
  refine ⟨?_, ?_, ?_, fun x => ?_⟩
  · unfold addC; rw [fill_free _ _ _ _ (Nat.le_refl _), fill_len, if_neg (Nat.lt_irrefl _)]
  · unfold addI; rw [hn]
  · unfold addG; rw [hn]
  · unfold addF; rw [hn]
theorem fill_some (z : α) (f : Nat → α) (n i : Nat) (h : i < n) : (fillT z f n i)[freeAt (fillT z f n i)]? = some (false, 0, z) := by
  rw [fill_free _ _ _ _ (by omega), List.getElem?_eq_getElem (by rw [fill_len]; exact h), fill_get]; simp
theorem fill_addI (z : α) (f : Nat → α) (n i : Nat) (h : i < n) : addI (fillT z f n i) = i + 1 ∧ addG (fillT z f n i) = 1 := by
  constructor
  · unfold addI; rw [fill_some z f n i h]; simp only; rw [fill_free _ _ _ _ (by omega)]
  · unfold addG; rw [fill_some z f n i h]; rfl
theorem fill_addF (z : α) (f : Nat → α) (n i : Nat) (h : i < n) : addF (fillT z f n i) (f i) = fillT z f n (i + 1) := by
  unfold addF; rw [fill_some z f n i h]; simp only; rw [fill_free _ _ _ _ (by omega)]
  apply List.ext_getElem
  · simp [fill_len]
  · intro j h1 h2
    rw [List.getElem_set, fill_get, fill_get]
    by_cases e : i = j
    · subst e; simp
    · rw [if_neg e]
      by_cases hj : j < i
      · rw [if_pos hj, if_pos (by omega)]
      · rw [if_neg hj, if_neg (by omega)]
theorem fill_at (z : α) (f : Nat → α) (n i p : Nat) (h : p < i) (hi : i ≤ n) : atN (fillT z f n i) (p + 1) 1 = some p := by
  rw [atN_in _ _ _ (by rw [fill_len]; omega), fill_get]; simp [h]
theorem fill_setF (z : α) (f : Nat → α) (n i p : Nat) (x : α) (h : p < i) (hi : i ≤ n) : setF (fillT z f n i) (p + 1) 1 x = fillT z (fun j => if j = p then x else f j) n i := by
  unfold setF; rw [fill_at z f n i p h hi]; simp only
  apply List.ext_getElem
  · simp [fill_len]
  · intro j h1 h2
    rw [List.getElem_set, fill_get, fill_get]
    by_cases e : p = j
    · subst e; simp [h]
    · have e2 : ¬ j = p := fun h => e h.symm
      simp only [if_neg e, if_neg e2]
theorem fill_getF (z : α) (f : Nat → α) (n i p : Nat) (h : p < i) (hi : i ≤ n) : getF z (fillT z f n i) (p + 1) 1 = f p := by
  unfold getF; rw [fill_at z f n i p h hi]; simp only
  rw [List.getElem?_eq_getElem (by rw [fill_len]; omega), fill_get]; simp [h]
theorem fill_stale (z : α) (f : Nat → α) (n i p : Nat) (h : p < i) (hi : i ≤ n) : staleC (fillT z f n i) (p + 1) 1 = 0 := by
  unfold staleC; rw [fill_at z f n i p h hi]; rfl
theorem fill_count (z : α) (f : Nat → α) (n : Nat) : ∀ i, i ≤ n → (fillT z f n i).countP (·.1) = i := by
  intro i hi
  unfold fillT
  rw [List.countP_map]
  have : ((fun p : Bool × Int × α => p.1) ∘ fun j => if j < i then (true, (1 : Int), f j) else (false, (0 : Int), z)) = fun j => decide (j < i) := by
    funext j; by_cases h : j < i <;> simp [h]
  rw [this]
  clear this
  induction n with
  | zero => simp at hi; subst hi; simp
  | succ n ih =>
    rw [List.range_succ, List.countP_append]
    by_cases h : i ≤ n
    · rw [ih h]; simp; omega
    · have : i = n + 1 := by omega
      subst this
      have h2 : List.countP (fun j => decide (j < n + 1)) (List.range n) = n := by
        rw [List.countP_eq_length.2]
        · simp
        · intro a ha; rw [List.mem_range] at ha; simp; omega
      rw [h2]; simp
end

end Go.Proofs.Ytbjmgmngomlmfaa.R
