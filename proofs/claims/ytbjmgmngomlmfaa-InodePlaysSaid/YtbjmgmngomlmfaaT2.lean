import Derived.Test.YtbjmgmngomlmfaaT1
import Derived.Outline
import Derived.Shelf.Abstract
import Derived.Deep.LoopGhost
import Derived.Deep.Draws
import Derived.Laws.EntriesVeiled
import Derived.Laws.ResultCell
import Derived.Laws.Rows
import Derived.Deep.QuietTactic
import Derived.Deep.RegionWith
import Derived.BigQuiet
namespace Go.Proofs.Ytbjmgmngomlmfaa.R
open Go.RowKit Go.Proofs.YtbjmgmngomlmfaaW.PrintWords Go.Proofs.YtbjmgmngomlmfaaW.PrintLast Go.Proofs.YtbjmgmngomlmfaaW.PrintMore
attribute [local go_sem] max2_int min2_int max_two min_two max_three min_three max_four min_four   -- for this text's walks alone
set_option linter.unusedVariables false
set_option linter.unusedSimpArgs false
theorem heap_push (w : World) (o : Obj) (i : Nat) : (w.alloc o).heap[i]? = if i = w.heap.size then some o else w.heap[i]? := by
  show (w.heap.push o)[i]? = _; rw [Array.getElem?_push]
section
variable {α : Type}
/-- A table in memory: its places' row (block b), its struct (block b + 1), the variable that its closure holds (block b + 2). m: a bound of its generations. -/
structure TabIn (enc : α → Value) (te tt tp fn : Nat) (w : World) (b m : Nat) (st : List (Bool × Int × α)) : Prop where
  rows : Rows3 enc te w b st
  tab : w.heap[b + 1]? = some (.cells #[.slice (some ⟨b, 0, none⟩) st.length st.length, .func (.func fn) #[] #[.pointer (some ⟨b + 2, 0, none⟩)]] tt (0, 0))
  var : w.heap[b + 2]? = some (.cells #[.pointer (some ⟨b + 1, 0, none⟩)] tp (0, 0))
  small : st.length ≤ 64
  gens : ∀ p ∈ st, 0 ≤ p.2.1 ∧ p.2.1 ≤ m
variable {enc : α → Value} {te tt tp fn : Nat} {w w1 : World} {b m : Nat} {st : List (Bool × Int × α)}
theorem TabIn.lt (h : TabIn enc te tt tp fn w b m st) : b + 2 < w.heap.size := (Array.getElem?_eq_some_iff.1 h.var).1
theorem TabIn.slice (h : TabIn enc te tt tp fn w b m st) : w.cell? ⟨b + 1, 0, none⟩ = some (.slice (some ⟨b, 0, none⟩) st.length st.length) := by rw [cell_of_row _ _ _ _ _ _ h.tab]; rfl
theorem TabIn.fnc (h : TabIn enc te tt tp fn w b m st) : w.cell? ⟨b + 1, 1, none⟩ = some (.func (.func fn) #[] #[.pointer (some ⟨b + 2, 0, none⟩)]) := by rw [cell_of_row _ _ _ _ _ _ h.tab]; rfl
theorem TabIn.ptr (h : TabIn enc te tt tp fn w b m st) : w.cell? ⟨b + 2, 0, none⟩ = some (.pointer (some ⟨b + 1, 0, none⟩)) := by rw [cell_of_row _ _ _ _ _ _ h.var]; rfl
theorem TabIn.below (h : TabIn enc te tt tp fn w b m st) (hb : Below w.heap.size w w1) : TabIn enc te tt tp fn w1 b m st :=
  ⟨h.rows.below hb, (hb.block _ (by have := h.lt; omega)).trans h.tab, (hb.block _ h.lt).trans h.var, h.small, h.gens⟩
theorem TabIn.mono (h : TabIn enc te tt tp fn w b m st) {m1 : Nat} (hm : m ≤ m1) : TabIn enc te tt tp fn w b m1 st :=
  ⟨h.rows, h.tab, h.var, h.small, fun p hp => ⟨(h.gens p hp).1, by have := (h.gens p hp).2; omega⟩⟩
theorem made_rows3 (enc : α → Value) (x : α) (n : Nat) : madeCells #[.bool false, .int .i64 0, enc x] (n * 3) = (rows3 enc (List.replicate n (false, 0, x))).toArray := by
  apply Array.ext'
  apply List.ext_getElem?
  intro i
  have hl : (rows3 enc (List.replicate n (false, 0, x))).length = n * 3 := by rw [rows3_length]; simp
  by_cases hi : i < n * 3
  · have h3 := rows3_get enc (List.replicate n (false, 0, x)) (i / 3) (by simp; omega)
    simp only [List.getElem_replicate] at h3
    have e : i = i / 3 * 3 + i % 3 := by omega
    have hm : i % 3 = 0 ∨ i % 3 = 1 ∨ i % 3 = 2 := by omega
    have hL : (madeCells #[.bool false, .int .i64 0, enc x] (n * 3)).toList[i]? = some ((#[Value.bool false, .int .i64 0, enc x] : Array Value)[i % 3]!) := by
      simp [madeCells, hi]
    rw [hL, List.toList_toArray]
    rcases hm with h | h | h
    · rw [h]; rw [h] at e; rw [e]; exact h3.1.symm
    · rw [h]; rw [h] at e; rw [e]; exact h3.2.1.symm
    · rw [h]; rw [h] at e; rw [e]; exact h3.2.2.symm
  · rw [List.getElem?_eq_none (by simp [madeCells]; omega), List.getElem?_eq_none (by simp [hl]; omega)]
end
abbrev TabInt := TabIn (Value.int .i64) 81 79 35 29
set_option maxHeartbeats 2000000 in
theorem new_int_bad (most : Int) (w : World) (h : most < 1 ∨ 64 < most) : Calls Try.prog 12 #[.int .i64 most] w fun e w' => e = .returned (.tuple #[.pointer none, .int .i64 1]) ∧ Below w.heap.size w w' := by
  go_enter Try.func12, Try.ntmps12
  by_cases h1 : most < 1
  · go_wp2
    go_ret2
    exact ⟨rfl, Below.refl _ _⟩
  · have h2 : 64 < most := by omega
    go_wp2
    go_ret2
    exact ⟨rfl, Below.refl _ _⟩
set_option maxHeartbeats 2000000 in
theorem new_int (n : Nat) (w : World) (h1 : 1 ≤ n) (h2 : n ≤ 64) : Calls Try.prog 12 #[.int .i64 n] w fun e w' => e = .returned (.tuple #[.pointer (some ⟨w.heap.size + 1, 0, none⟩), .int .i64 0]) ∧ Below w.heap.size w w' ∧ TabInt w' w.heap.size 0 (List.replicate n (false, 0, 0)) := by
  obtain ⟨i, hi, hz0, hz1, hz2⟩ := info_parts (show (Try.prog.info? 81).map (fun i => (i.zero, i.size, i.bytes)) = some (some (.agg #[.bool false, .int .i64 0, .int .i64 0]), 3, 24) by kernel_rfl)
  have hm : ∀ W, Sem.run Try.prog (Instr.makeSlice 77 (.int .i64 n) (.int .i64 n)) W = .ok (.slice (some ⟨W.heap.size, 0, none⟩) n n) (W.alloc (.cells (rows3 (Value.int .i64) (List.replicate n (false, 0, 0))).toArray 81)) := by
    intro W
    rw [run_make W _ _ i _ Try.underlying77 hi hz0 .i64 .i64 n n (by omega) (Int.le_refl _) (by rw [hz2]; omega) (by omega), hz1, ← made_rows3]
    rfl
  have hs : w.heap.size ≠ w.heap.size + 1 := by omega
  have c1 : ¬ ((n : Int) < 1) := by omega
  have c2 : ¬ (64 < (n : Int)) := by omega
  go_enter Try.func12, Try.ntmps12
  go_wp2
  go_ret2
  refine ⟨rfl, (((Below.refl _ w).alloc (Nat.le_refl _) _).alloc (by simp) _).alloc (by simp; omega) _, ⟨⟨?_, ?_⟩, ?_, ?_, ?_, ?_⟩⟩
  · rw [heap_push, heap_push, heap_push]; simp; omega
  · simp; omega
  · rw [heap_push, heap_push]; simp
  · rw [heap_push]; simp
  · simp; omega
  · intro p hp
    rw [List.eq_of_mem_replicate hp]
    exact ⟨Int.le_refl _, Int.le_refl _⟩

end Go.Proofs.Ytbjmgmngomlmfaa.R
