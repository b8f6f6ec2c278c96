import Derived.Test.YtenhnkldhodegaaT5
import Derived.Outline
import Derived.Shelf.Abstract
import Derived.Deep.LoopGhost
import Derived.Deep.Draws
import Derived.Laws.EntriesVeiled
import Derived.Laws.ResultCell
import Derived.Laws.Rows
import Derived.Deep.QuietTactic
import Derived.Deep.RegionWith
import Derived.BigQuiet
import Derived.Deep.MidRow
import Derived.Laws.Tables
import Derived.Deep.WholeRow
import Derived.Lib.SliceRun
import Derived.LaidEql
import Derived.RowKitTokens
import Derived.Stop.Asserts
import Derived.Laws.CopyRow
namespace Go.Proofs.Ytenhnkldhodegaa.R
open Go.RowKit Go.Proofs.YtenhnkldhodegaaW.PrintWords Go.Proofs.YtenhnkldhodegaaW.PrintLast Go.Proofs.YtenhnkldhodegaaW.PrintMore
attribute [local go_sem] max2_int min2_int max_two min_two max_three min_three max_four min_four   -- for this text's walks alone
set_option linter.unusedVariables false
set_option linter.unusedSimpArgs false
def setRange : List Value → Nat → List Value → List Value
  | L, _, [] => L
  | L, o, v :: r => setRange (L.set o v) (o + 1) r
theorem setRange_mid : ∀ (vs M A B : List Value), M.length = vs.length → setRange (A ++ (M ++ B)) A.length vs = A ++ (vs ++ B)
  | [], M, A, B, h => by
    rw [List.length_nil, List.length_eq_zero_iff] at h
    subst h; rfl
  | v :: vs, M, A, B, h => by
    match M, h with
    | x :: M, h =>
      have e : (A ++ (x :: M ++ B)).set A.length v = (A ++ [v]) ++ (M ++ B) := by
        rw [List.set_append_right _ _ (Nat.le_refl _)]
        simp
      have ih := setRange_mid vs M (A ++ [v]) B (by simpa using h)
      show setRange ((A ++ (x :: M ++ B)).set A.length v) (A.length + 1) vs = _
      rw [e, show A.length + 1 = (A ++ [v]).length by simp, ih]
      simp
theorem heap_setRange (b : Nat) (t : TypeId) : ∀ (vs : List Value) (o : Nat) (L : List Value) (w : World), w.heap[b]? = some (.cells L.toArray t (0, 0)) → (w.setCells b o vs).heap[b]? = some (.cells (setRange L o vs).toArray t (0, 0))
  | [], _, _, _, h => h
  | v :: r, o, L, w, h => by
    refine heap_setRange b t r (o + 1) (L.set o v) (w.setCell ⟨b, o, none⟩ v) ?_
    rw [blk_set h]
    simp
theorem cellsT_put (css : List (List Value)) (most : Int) (cs : List Value) (hn : css.length < 8) (hl : ∀ c ∈ css, c.length = 14) (h14 : cs.length = 14) :
    (setRange (cellsT css most) (css.length * 14) cs).set 112 (.int .i64 (css.length + 1)) = cellsT (css ++ [cs]) most := by
  have hf := flat_length css hl
  have e : cellsT css most = css.flatten ++ (zq ++ ((List.replicate (7 - css.length) zq).flatten ++ [.int .i64 css.length, .int .i64 most])) := by
    unfold cellsT rows8
    rw [show 8 - css.length = (7 - css.length) + 1 by omega, List.replicate_succ, List.flatten_append, List.flatten_cons]
    simp [List.append_assoc]
  have e2 : cellsT (css ++ [cs]) most = (css.flatten ++ cs ++ (List.replicate (7 - css.length) zq).flatten) ++ [.int .i64 (css.length + 1), .int .i64 most] := by
    unfold cellsT rows8
    rw [show 8 - (css ++ [cs]).length = 7 - css.length by simp only [List.length_append, List.length_cons, List.length_nil]; omega]
    simp [List.append_assoc]
  have hr : (List.replicate (7 - css.length) zq).flatten.length = (7 - css.length) * 14 := by
    rw [flat_length _ (fun c hc => by rw [List.eq_of_mem_replicate hc]; rfl)]
    simp
  rw [e, ← hf, setRange_mid cs zq css.flatten _ (by rw [h14]; rfl), e2]
  rw [← List.append_assoc, ← List.append_assoc]
  rw [List.set_append_right _ _ (by simp [hf, h14, hr]; omega)]
  congr 1
  rw [show 112 - (css.flatten ++ cs ++ (List.replicate (7 - css.length) zq).flatten).length = 0 by simp [hf, h14, hr]; omega]
  rfl
theorem grown_setCell (W : World) (b o : Nat) (v : Value) : W.grownBy (W.setCell ⟨b, o, none⟩ v) (some b) := ⟨rfl, rfl, rfl, by simp [World.setCell], fun k hk hn => Below.heap_setCell W ⟨b, o, none⟩ v k (by intro e; exact hn (by rw [e]))⟩
theorem grown_trans {w w1 w2 : World} {row : Option Nat} (h1 : w.grownBy w1 row) (h2 : w1.grownBy w2 row) : w.grownBy w2 row :=
  ⟨h2.os.trans h1.os, h2.tape.trans h1.tape, h2.output.trans h1.output, Nat.le_trans h1.size h2.size, fun i hi hn => (h2.block i (Nat.lt_of_lt_of_le hi h1.size) hn).trans (h1.block i hi hn)⟩
theorem grown_setCells (b : Nat) : ∀ (vs : List Value) (o : Nat) (W : World), W.grownBy (W.setCells b o vs) (some b)
  | [], _, W => grown_of_below (Below.refl _ _) _
  | v :: r, o, W => grown_trans (grown_setCell W b o v) (grown_setCells b r (o + 1) _)
theorem grown_new {w w1 : World} {row : Option Nat} (h : w.grownBy w1 row) {g : Nat} (hg : w.heap.size ≤ g) (o : Nat) (v : Value) : w.grownBy (w1.setCell ⟨g, o, none⟩ v) row :=
  ⟨h.os, h.tape, h.output, by simpa [World.setCell] using h.size, fun k hk hn => (Below.heap_setCell w1 ⟨g, o, none⟩ v k (by show k ≠ g; omega)).trans (h.block k hk hn)⟩

end Go.Proofs.Ytenhnkldhodegaa.R
