import Derived.Test.YtbjmgmngomlmfaaT15
import Derived.Outline
import Derived.Shelf.Abstract
import Derived.Deep.LoopGhost
import Derived.Deep.Draws
import Derived.Laws.EntriesVeiled
import Derived.Laws.ResultCell
import Derived.Laws.Rows
import Derived.Deep.QuietTactic
import Derived.Deep.RegionWith
import Derived.BigQuiet
namespace Go.Proofs.Ytbjmgmngomlmfaa.R
open Go.RowKit Go.Proofs.YtbjmgmngomlmfaaW.PrintWords Go.Proofs.YtbjmgmngomlmfaaW.PrintLast Go.Proofs.YtbjmgmngomlmfaaW.PrintMore
attribute [local go_sem] max2_int min2_int max_two min_two max_three min_three max_four min_four   -- for this text's walks alone
set_option linter.unusedVariables false
set_option linter.unusedSimpArgs false
/-- What like's closure makes of 'same'. -/
def sameF (l : List (Int × Int × Int × Bool)) (s : Bool) (a : Nat) (ino gen x : Int) : Bool := s && (l[a]? == some (ino, gen, x, true))
theorem eq_H (d : Nat) (y0 y1 ino gen : Int) (W : World) : (Op.equalIn (d + 1 + 1) 29 (.agg #[.int .i64 y0, .int .i64 y1]) (.agg #[.int .i64 ino, .int .i64 gen])).run Try.prog W = .ok (y0 == ino && y1 == gen) W := by
  have a3 := Try.isAgg3
  have u3 := Try.underlying3
  refine eqA_of Try.underlying29 (by kernel_rfl) (eqf_cons rfl (a := .int .i64 y0) (b := .int .i64 ino) (by simp [part, a3]) (by simp [part, a3]) (run_equalIn_int _ _ _ _ _ _ _ u3) (eqf_last rfl (a := .int .i64 y1) (b := .int .i64 gen) (by simp [part, a3]) (by simp [part, a3]) (run_equalIn_int _ _ _ _ _ _ _ u3)))
theorem eq_X (y0 y1 y2 ino gen x : Int) (y3 y4 : Bool) (W : World) : (binOp .eql 53 (.agg #[.int .i64 y0, .int .i64 y1, .int .i64 y2, .bool y3]) (.agg #[.int .i64 ino, .int .i64 gen, .int .i64 x, .bool y4])).run Try.prog W = .ok (.bool ((y0 == ino && y1 == gen) && (y2 == x && y3 == y4))) W := by
  have a3 := Try.isAgg3
  have u3 := Try.underlying3
  have a4 := Try.isAgg4
  have u4 := Try.underlying4
  have a29 := Try.isAgg29
  have z29 := Try.sizeOf29
  have h : (Op.equalIn (9999 + 1) 53 (.agg #[.int .i64 y0, .int .i64 y1, .int .i64 y2, .bool y3]) (.agg #[.int .i64 ino, .int .i64 gen, .int .i64 x, .bool y4])).run Try.prog W = .ok ((y0 == ino && y1 == gen) && (y2 == x && y3 == y4)) W :=
    eqA_of Try.underlying53 (by kernel_rfl) (eqf_cons rfl (a := .agg #[.int .i64 y0, .int .i64 y1]) (b := .agg #[.int .i64 ino, .int .i64 gen]) (by simp [part, a29, z29]) (by simp [part, a29, z29]) (eq_H 9997 y0 y1 ino gen W) (eqf_cons rfl (a := .int .i64 y2) (b := .int .i64 x) (by simp [part, a3]) (by simp [part, a3]) (run_equalIn_int _ _ _ _ _ _ _ u3) (eqf_last rfl (a := .bool y3) (b := .bool y4) (by simp [part, a4]) (by simp [part, a4]) (run_equalIn_bool' _ _ _ _ _ u4))))
  rw [run_eql_struct]
  rw [show (10000 : Nat) = 9999 + 1 from rfl, h]
  rfl
/-- What like's closure leaves: the two variables, nothing else. -/
structure Liked (w w' : World) (v7 v6 : Nat) (s : Bool) (a : Nat) : Prop where
  s7 : w'.heap[v7]? = some (.cells #[.bool s] 4 (0, 0))
  s6 : w'.heap[v6]? = some (.cells #[.int .i64 ((a + 1 : Nat) : Int)] 3 (0, 0))
  rest : ∀ k, k < w.heap.size → k ≠ v7 → k ≠ v6 → w'.heap[k]? = w.heap[k]?
  bel : ∀ B, B ≤ v7 → B ≤ v6 → B ≤ w.heap.size → Below B w w'
theorem liked_of (w : World) (v7 v6 : Nat) (s s1 : Bool) (a : Nat) (o : Obj) (h7 : w.heap[v7]? = some (.cells #[.bool s] 4 (0, 0))) (h6 : w.heap[v6]? = some (.cells #[.int .i64 a] 3 (0, 0))) (h76 : v7 ≠ v6) : Liked w ((((w.setCell ⟨v7, 0, none⟩ (.bool s1)).setCell ⟨v6, 0, none⟩ (.int .i64 (a + 1))).alloc o).drew) v7 v6 s1 a := by
  have l7 := (Array.getElem?_eq_some_iff.1 h7).1
  have l6 := (Array.getElem?_eq_some_iff.1 h6).1
  have hsz : ((w.setCell ⟨v7, 0, none⟩ (.bool s1)).setCell ⟨v6, 0, none⟩ (.int .i64 (a + 1))).heap.size = w.heap.size := by simp [World.setCell]
  refine ⟨?_, ?_, fun k hk h1 h2 => ?_, fun B h1 h2 h3 => ?_⟩
  · show (World.alloc _ o).heap[v7]? = _
    rw [heap_push, if_neg (by rw [hsz]; omega)]
    rw [blk_far (blk_set h7 _ _) (by show v7 ≠ v6; exact h76) _]
    rfl
  · show (World.alloc _ o).heap[v6]? = _
    rw [heap_push, if_neg (by rw [hsz]; omega)]
    rw [blk_set (blk_far h6 (by show v6 ≠ v7; exact fun e => h76 e.symm) _)]
    rfl
  · show (World.alloc _ o).heap[k]? = _
    rw [heap_push, if_neg (by rw [hsz]; omega)]
    exact (Below.heap_setCell _ _ _ k (by show k ≠ v6; exact h2)).trans (Below.heap_setCell _ _ _ k (by show k ≠ v7; exact h1))
  · have b1 : Below B w (w.setCell ⟨v7, 0, none⟩ (.bool s1)) := (Below.refl B w).setCell h1 _
    have b2 : Below B w ((w.setCell ⟨v7, 0, none⟩ (.bool s1)).setCell ⟨v6, 0, none⟩ (.int .i64 (a + 1))) := b1.setCell h2 _
    exact (b2.alloc (by rw [hsz]; exact h3) o).drew
set_option maxHeartbeats 4000000 in
theorem likec_hit (v7 v6 v5 g n cap : Nat) (a : Nat) (ino gen x : Int) (w : World) (hn : n ≤ 1000)
    (h7 : w.heap[v7]? = some (.cells #[.bool true] 4 (0, 0))) (h6 : w.heap[v6]? = some (.cells #[.int .i64 a] 3 (0, 0))) (h5 : w.heap[v5]? = some (.cells #[.slice (some ⟨g, 0, none⟩) n cap] 46 (0, 0))) (h76 : v7 ≠ v6) (h75 : v7 ≠ v5) (h65 : v6 ≠ v5)
    (ha : a < n) (y0 y1 y2 : Int) (y3 : Bool) (hg : g < w.heap.size) (d0 : w.cell? ⟨g, a * 4, none⟩ = some (.int .i64 y0)) (d1 : w.cell? ⟨g, a * 4 + 1, none⟩ = some (.int .i64 y1)) (d2 : w.cell? ⟨g, a * 4 + 2, none⟩ = some (.int .i64 y2)) (d3 : w.cell? ⟨g, a * 4 + 3, none⟩ = some (.bool y3)) :
    Calls Try.prog 36 #[.agg #[.int .i64 ino, .int .i64 gen], .int .i64 x, .pointer (some ⟨v7, 0, none⟩), .pointer (some ⟨v6, 0, none⟩), .pointer (some ⟨v5, 0, none⟩)] w fun e w' => e = .returned (.tuple #[]) ∧ Liked w w' v7 v6 ((y0 == ino && y1 == gen) && (y2 == x && y3 == true)) a := by
  have l7 := (Array.getElem?_eq_some_iff.1 h7).1
  have l6 := (Array.getElem?_eq_some_iff.1 h6).1
  have l5 := (Array.getElem?_eq_some_iff.1 h5).1
  have c7 := blk_cell h7 0
  have c6 := blk_cell h6 0
  have c5 := blk_cell h5 0
  have f7 := blk_frozen h7 0
  have f6 := blk_frozen h6 0
  have hai : (a : Int) < (n : Int) := by omega
  have hmin : min (a : Int) (max ((n : Int) - 1) 0) = (a : Int) := by omega
  have he := eq_X y0 y1 y2 ino gen x y3 true
  have hm : Try.prog.eqGuardType Try.prog.depth 53 = false := by kernel_rfl
  generalize ((y0 == ino && y1 == gen) && (y2 == x && y3 == true)) = rr at he
  go_enter Try.func36, Try.ntmps36
  go_wp2
  go_region
  all_goals go_wp2
  go_end0
  exact ⟨rfl, liked_of w v7 v6 true rr a _ h7 h6 h76⟩
set_option maxHeartbeats 4000000 in
theorem likec_false (v7 v6 v5 : Nat) (a : Nat) (ino gen x : Int) (w : World) (ha : a ≤ 1000)
    (h7 : w.heap[v7]? = some (.cells #[.bool false] 4 (0, 0))) (h6 : w.heap[v6]? = some (.cells #[.int .i64 a] 3 (0, 0))) (h76 : v7 ≠ v6) :
    Calls Try.prog 36 #[.agg #[.int .i64 ino, .int .i64 gen], .int .i64 x, .pointer (some ⟨v7, 0, none⟩), .pointer (some ⟨v6, 0, none⟩), .pointer (some ⟨v5, 0, none⟩)] w fun e w' => e = .returned (.tuple #[]) ∧ Liked w w' v7 v6 false a := by
  have l7 := (Array.getElem?_eq_some_iff.1 h7).1
  have l6 := (Array.getElem?_eq_some_iff.1 h6).1
  have c7 := blk_cell h7 0
  have c6 := blk_cell h6 0
  have f7 := blk_frozen h7 0
  have f6 := blk_frozen h6 0
  go_enter Try.func36, Try.ntmps36
  go_wp2
  go_region
  all_goals go_wp2
  go_end0
  exact ⟨rfl, liked_of w v7 v6 false false a _ h7 h6 h76⟩
set_option maxHeartbeats 4000000 in
theorem likec_end (v7 v6 v5 n cap : Nat) (A : Option Addr) (a : Nat) (ino gen x : Int) (w : World) (ha : a ≤ 1000) (hna : n ≤ a)
    (h7 : w.heap[v7]? = some (.cells #[.bool true] 4 (0, 0))) (h6 : w.heap[v6]? = some (.cells #[.int .i64 a] 3 (0, 0))) (h5 : w.heap[v5]? = some (.cells #[.slice A n cap] 46 (0, 0))) (h76 : v7 ≠ v6) :
    Calls Try.prog 36 #[.agg #[.int .i64 ino, .int .i64 gen], .int .i64 x, .pointer (some ⟨v7, 0, none⟩), .pointer (some ⟨v6, 0, none⟩), .pointer (some ⟨v5, 0, none⟩)] w fun e w' => e = .returned (.tuple #[]) ∧ Liked w w' v7 v6 false a := by
  have l7 := (Array.getElem?_eq_some_iff.1 h7).1
  have l6 := (Array.getElem?_eq_some_iff.1 h6).1
  have l5 := (Array.getElem?_eq_some_iff.1 h5).1
  have c7 := blk_cell h7 0
  have c6 := blk_cell h6 0
  have c5 := blk_cell h5 0
  have f7 := blk_frozen h7 0
  have f6 := blk_frozen h6 0
  have hai : decide (a < n) = false := by simp; omega
  go_enter Try.func36, Try.ntmps36
  go_wp2
  go_region
  all_goals go_wp2
  go_end0
  exact ⟨rfl, liked_of w v7 v6 true false a _ h7 h6 h76⟩

end Go.Proofs.Ytbjmgmngomlmfaa.R
