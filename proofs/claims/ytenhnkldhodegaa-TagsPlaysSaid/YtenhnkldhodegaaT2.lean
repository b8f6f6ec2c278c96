import Derived.Test.YtenhnkldhodegaaT1
import Derived.Outline
import Derived.Shelf.Abstract
import Derived.Deep.LoopGhost
import Derived.Deep.Draws
import Derived.Laws.EntriesVeiled
import Derived.Laws.ResultCell
import Derived.Laws.Rows
import Derived.Deep.QuietTactic
import Derived.Deep.RegionWith
import Derived.BigQuiet
import Derived.Deep.MidRow
import Derived.Laws.Tables
import Derived.Deep.WholeRow
import Derived.Lib.SliceRun
import Derived.LaidEql
import Derived.RowKitTokens
import Derived.Stop.Asserts
import Derived.Laws.CopyRow
namespace Go.Proofs.Ytenhnkldhodegaa.R
open Go.RowKit Go.Proofs.YtenhnkldhodegaaW.PrintWords Go.Proofs.YtenhnkldhodegaaW.PrintLast Go.Proofs.YtenhnkldhodegaaW.PrintMore
attribute [local go_sem] max2_int min2_int max_two min_two max_three min_three max_four min_four   -- for this text's walks alone
set_option linter.unusedVariables false
set_option linter.unusedSimpArgs false
/-! The requests in memory: eight rows of 14 cells, how many wait, the bound: one block. -/
def zq : List Value := [.int .i64 0, .int .i64 0, .int .i64 0, .int .i64 0, .int .i64 0, .int .i64 0, .int .i64 0, .int .i64 0, .int .i64 0, .int .i64 0, .string ⟨#[]⟩, .slice none 0 0, .int .i64 0, .slice none 0 0]
def rows8 (css : List (List Value)) : List (List Value) := css ++ List.replicate (8 - css.length) zq
def cellsT (css : List (List Value)) (most : Int) : List Value := (rows8 css).flatten ++ [.int .i64 css.length, .int .i64 most]
theorem flat_length : ∀ (L : List (List Value)), (∀ c ∈ L, c.length = 14) → L.flatten.length = L.length * 14
  | [], _ => rfl
  | c :: L, h => by
    have ih := flat_length L (fun x hx => h x (by simp [hx]))
    have := h c (by simp)
    simp only [List.flatten_cons, List.length_append, List.length_cons, ih, this]
    omega
theorem flat_get : ∀ (L : List (List Value)) (_ : ∀ c ∈ L, c.length = 14) (i j : Nat) (hi : i < L.length), j < 14 → L.flatten[i * 14 + j]? = L[i][j]?
  | c :: L, h, 0, j, _, hj => by
    have := h c (by simp)
    simp only [List.flatten_cons, Nat.zero_mul, Nat.zero_add, List.getElem_cons_zero]
    rw [List.getElem?_append_left (by omega)]
  | c :: L, h, i + 1, j, hi, hj => by
    have hc := h c (by simp)
    have ih := flat_get L (fun x hx => h x (by simp [hx])) i j (by simpa using hi) hj
    simp only [List.flatten_cons, List.getElem_cons_succ]
    rw [List.getElem?_append_right (by omega), hc, ← ih]
    congr 1
    omega
theorem rows8_len (css : List (List Value)) (h : ∀ c ∈ css, c.length = 14) : ∀ c ∈ rows8 css, c.length = 14 := by
  intro c hc
  rcases List.mem_append.1 hc with h1 | h1
  · exact h c h1
  · rw [List.eq_of_mem_replicate h1]; rfl
theorem rows8_length (css : List (List Value)) (h : css.length ≤ 8) : (rows8 css).length = 8 := by simp [rows8]; omega
theorem cellsT_row (css : List (List Value)) (most : Int) (h8 : css.length ≤ 8) (h : ∀ c ∈ css, c.length = 14) (i j : Nat) (hi : i < css.length) (hj : j < 14) : (cellsT css most)[i * 14 + j]? = css[i][j]? := by
  have hL := rows8_len css h
  have hl := flat_length _ hL
  rw [rows8_length css h8] at hl
  unfold cellsT
  rw [List.getElem?_append_left (by omega), flat_get _ hL i j (by rw [rows8_length css h8]; omega) hj]
  unfold rows8
  rw [List.getElem_append_left hi]
theorem cellsT_n (css : List (List Value)) (most : Int) (h8 : css.length ≤ 8) (h : ∀ c ∈ css, c.length = 14) : (cellsT css most)[112]? = some (.int .i64 css.length) ∧ (cellsT css most)[113]? = some (.int .i64 most) := by
  have hl := flat_length _ (rows8_len css h)
  rw [rows8_length css h8] at hl
  unfold cellsT
  constructor
  · rw [List.getElem?_append_right (by omega), hl]; rfl
  · rw [List.getElem?_append_right (by omega), hl]; rfl
/-- The state. -/
structure TagsIn (w : World) (b : Nat) (most : Int) (css : List (List Value)) : Prop where
  row : w.heap[b]? = some (.cells (cellsT css most).toArray 60 (0, 0))
  le8 : css.length ≤ 8
  wf : ∀ i (h : i < css.length), WfQ css[i] (tagOf css[i])
theorem TagsIn.lens {w : World} {b : Nat} {most : Int} {css : List (List Value)} (h : TagsIn w b most css) : ∀ c ∈ css, c.length = 14 := by
  intro c hc
  obtain ⟨i, hi, rfl⟩ := List.mem_iff_getElem.1 hc
  exact (h.wf i hi).len
theorem TagsIn.lt {w : World} {b : Nat} {most : Int} {css : List (List Value)} (h : TagsIn w b most css) : b < w.heap.size := (Array.getElem?_eq_some_iff.1 h.row).1
theorem TagsIn.below {w w1 : World} {b : Nat} {most : Int} {css : List (List Value)} (h : TagsIn w b most css) (hb : Below w.heap.size w w1) : TagsIn w1 b most css := ⟨(hb.block b h.lt).trans h.row, h.le8, h.wf⟩
theorem TagsIn.grown {w w1 : World} {b : Nat} {most : Int} {css : List (List Value)} (h : TagsIn w b most css) {row : Option Nat} (hg : w.grownBy w1 row) (hn : some b ≠ row) : TagsIn w1 b most css := ⟨(hg.block b h.lt hn).trans h.row, h.le8, h.wf⟩
theorem TagsIn.range {w : World} {b : Nat} {most : Int} {css : List (List Value)} (h : TagsIn w b most css) (i : Nat) (hi : i < css.length) : w.rangeAt b (i * 14) css[i] := by
  intro j v hv
  have hj : j < 14 := by
    have := (List.getElem?_eq_some_iff.1 hv).1
    rw [(h.wf i hi).len] at this
    exact this
  rw [cell_of_row _ _ _ _ _ _ h.row]
  simpa [cellsT_row css most h.le8 h.lens i j hi hj] using hv
theorem TagsIn.num {w : World} {b : Nat} {most : Int} {css : List (List Value)} (h : TagsIn w b most css) : w.cell? ⟨b, 112, none⟩ = some (.int .i64 css.length) := by
  rw [cell_of_row _ _ _ _ _ _ h.row]
  simpa using (cellsT_n css most h.le8 h.lens).1
theorem TagsIn.bound {w : World} {b : Nat} {most : Int} {css : List (List Value)} (h : TagsIn w b most css) : w.cell? ⟨b, 113, none⟩ = some (.int .i64 most) := by
  rw [cell_of_row _ _ _ _ _ _ h.row]
  simpa using (cellsT_n css most h.le8 h.lens).2
theorem TagsIn.free {w : World} {b : Nat} {most : Int} {css : List (List Value)} (h : TagsIn w b most css) (o : Nat) : w.frozen? ⟨b, o, none⟩ = false := by simp [World.frozen?, h.row]
set_option maxRecDepth 100000 in
theorem zero_tags : (Try.prog.info? 60).map (fun i => (i.zero, i.size)) = some (some (.agg (cellsT [] 0).toArray), 114) := by kernel_rfl
set_option maxHeartbeats 2000000 in
theorem new_bad (most : Int) (w : World) (h : most < 1 ∨ 8 < most) : Calls Try.prog 9 #[.int .i64 most] w fun e w' => e = .returned (.tuple #[.pointer none, .int .i64 1]) ∧ Below w.heap.size w w' := by
  go_enter Try.func9, Try.ntmps9
  by_cases h1 : most < 1
  · go_wp2
    go_ret2
    exact ⟨rfl, Below.refl _ _⟩
  · have h2 : 8 < most := by omega
    go_wp2
    go_ret2
    exact ⟨rfl, Below.refl _ _⟩
set_option maxRecDepth 100000 in
set_option maxHeartbeats 4000000 in
theorem new_ok (most : Int) (w : World) (h1 : 1 ≤ most) (h2 : most ≤ 8) : Calls Try.prog 9 #[.int .i64 most] w fun e w' => e = .returned (.tuple #[.pointer (some ⟨w.heap.size, 0, none⟩), .int .i64 0]) ∧ Below w.heap.size w w' ∧ TagsIn w' w.heap.size most [] := by
  have hz := (zero_of_info zero_tags).1
  have hS : (cellsT [] 0).toArray.setIfInBounds 113 (.int .i64 most) = (cellsT [] most).toArray := by rfl
  have hZ : (cellsT [] 0).toArray.size = 114 := by rfl
  have c1 : ¬ most < 1 := by omega
  have c2 : ¬ 8 < most := by omega
  have HT : Aside (TagsIn (w.alloc (.cells (cellsT [] most).toArray 60)) w.heap.size most []) := ⟨heap_alloc_new w _, by simp, fun i h => absurd h (by simp)⟩
  generalize (cellsT [] most).toArray = C at *
  generalize (cellsT [] 0).toArray = Z at *
  go_enter Try.func9, Try.ntmps9
  go_wp2

  go_ret2
  exact ⟨rfl, below_alloc (Below.refl _ _) _, HT.out⟩

end Go.Proofs.Ytenhnkldhodegaa.R
