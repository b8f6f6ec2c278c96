import Derived.Test.YtenhnkldhodegaaT11
import Derived.Outline
import Derived.Shelf.Abstract
import Derived.Deep.LoopGhost
import Derived.Deep.Draws
import Derived.Laws.EntriesVeiled
import Derived.Laws.ResultCell
import Derived.Laws.Rows
import Derived.Deep.QuietTactic
import Derived.Deep.RegionWith
import Derived.BigQuiet
import Derived.Deep.MidRow
import Derived.Laws.Tables
import Derived.Deep.WholeRow
import Derived.Lib.SliceRun
import Derived.LaidEql
import Derived.RowKitTokens
import Derived.Stop.Asserts
import Derived.Laws.CopyRow
namespace Go.Proofs.Ytenhnkldhodegaa.R
open Go.RowKit Go.Proofs.YtenhnkldhodegaaW.PrintWords Go.Proofs.YtenhnkldhodegaaW.PrintLast Go.Proofs.YtenhnkldhodegaaW.PrintMore
attribute [local go_sem] max2_int min2_int max_two min_two max_three min_three max_four min_four   -- for this text's walks alone
set_option linter.unusedVariables false
set_option linter.unusedSimpArgs false
/-! Pick: the slices that it takes of the array, and copy of rows of more than one cell. -/
theorem run_copy_rows {P : Program} (w : World) (dT sT ty elem : TypeId) (sz n g o dLen dCap : Nat) (a : Addr) (sLen sCap : Nat) (cur : Array Value) (t : TypeId) (cs : List Value)
    (hu : P.underlying dT = some (.slice elem)) (hs : (P.info? elem).map (·.size) = some sz) (hg : w.heap[g]? = some (.cells cur t (0, 0))) (hn : Nat.min sLen dLen = n) (hl : cs.length = n * sz)
    (hsrc : ∀ j v, cs[j]? = some v → w.cell? (a.add j) = some v) (hfit : o + cs.length ≤ cur.size) (h1 : ∀ v ∈ cs, v.oneCell' = true) :
    (Builtin.copy_ #[dT, sT] ty #[.slice (some ⟨g, o, none⟩) dLen dCap, .slice (some a) sLen sCap]).run P w = .ok (goInt n) (w.setRow g (cur.toList.take o ++ cs ++ cur.toList.drop (o + cs.length)).toArray) := by
  have hld := run_loadCells_list (P := P) w a cs hsrc
  have hst := run_storeCells_at P g o t cs 0 cur w hg (by simpa using hfit) h1
  rw [hl] at hld
  cases hq : P.info? elem with
  | none => simp [hq] at hs
  | some i =>
    have hi : i.size = sz := by simpa [hq] using hs
    simp [Builtin.copy_, run_underlying hu, Builtin.lenOf, Builtin.firstCells, sizeOf, typeInfo, hq, hi, hn, hld, hst]
theorem ask_size (W : World) : Sem.run Try.prog (Go.sizeOf 32) W = .ok 14 W := by
  have h : (Try.prog.info? 32).map (·.size) = some 14 := by kernel_rfl
  cases hq : Try.prog.info? 32 with
  | none => simp [hq] at h
  | some i => simp [hq] at h; simp [Go.sizeOf, typeInfo, hq, h]
theorem slice_from (W : World) (b k : Nat) (hk : k < 8) : Sem.run Try.prog (Instr.sliceAt 58 (.pointer (some ⟨b, 0, none⟩)) (some (.int .i64 k)) none none) W = .ok (.slice (some ⟨b, k * 14, none⟩) (8 - k) (8 - k)) W := by
  have hl : Try.prog.arrayLen 58 = 8 := by kernel_rfl
  have he : Try.prog.elem 58 = 32 := by kernel_rfl
  rw [run_sliceAt_array_l W 58 ⟨b, 0, none⟩ (by kernel_rfl) .i64 k (by omega) (by rw [hl]; omega), he, ask_size, hl]
  simp only [Result.andThen, slicedAt, Int.toNat_natCast]
  rw [if_neg (by omega)]
  rw [Addr.add_mid, Nat.zero_add]
theorem slice_part (W : World) (b k n : Nat) (hk : k < n) (hn : n ≤ 8) : ∃ o, (k + 1 < n → o = (k + 1) * 14) ∧ ∀ W, Sem.run Try.prog (Instr.sliceAt 58 (.pointer (some ⟨b, 0, none⟩)) (some (.int .i64 ((k : Int) + 1))) (some (.int .i64 n)) none) W = .ok (.slice (some ⟨b, o, none⟩) (n - (k + 1)) (7 - k)) W := by
  have hl : Try.prog.arrayLen 58 = 8 := by kernel_rfl
  have he : Try.prog.elem 58 = 32 := by kernel_rfl
  refine ⟨if 8 = k + 1 then 0 else (k + 1) * 14, fun h => if_neg (by omega), fun W => ?_⟩
  rw [run_sliceAt_array_lh W 58 ⟨b, 0, none⟩ (by kernel_rfl) .i64 .i64 ((k : Int) + 1) n (by omega) (by omega) (by rw [hl]; omega), he, ask_size, hl]
  simp only [Result.andThen, slicedAt, Int.toNat_natCast]
  rw [show ((k : Int) + 1).toNat = k + 1 by omega, show 8 - (k + 1) = 7 - k by omega]
  by_cases h : 8 = k + 1
  · rw [if_pos h, if_pos h]
  · rw [if_neg h, if_neg h]
    rw [Addr.add_mid, Nat.zero_add]
/-! What lies in the block behind the copy, behind the lesser number, behind the row that is made empty. -/
def copied (css : List (List Value)) (most : Int) (k : Nat) : List Value := (cellsT css most).take (k * 14) ++ (css.drop (k + 1)).flatten ++ (cellsT css most).drop (k * 14 + (css.drop (k + 1)).flatten.length)
theorem copied_eq (css : List (List Value)) (most : Int) (k p : Nat) (hp : css.length = p + 1) (hk : k < css.length) (h8 : css.length ≤ 8) (hl : ∀ c ∈ css, c.length = 14) :
    ∃ X : List Value, X.length = 14 ∧ copied css most k = (css.eraseIdx k).flatten ++ (X ++ ((List.replicate (7 - p) zq).flatten ++ [.int .i64 css.length, .int .i64 most])) := by
  have hkl : ∀ c ∈ css.take k, c.length = 14 := fun c hc => hl c (List.mem_of_mem_take hc)
  have hdl : ∀ c ∈ css.drop (k + 1), c.length = 14 := fun c hc => hl c (List.mem_of_mem_drop hc)
  have hA := flat_length _ hkl
  have hD := flat_length _ hdl
  have hF := flat_length css hl
  have lt : (css.take k).length = k := by rw [List.length_take]; omega
  have ld : (css.drop (k + 1)).length = p - k := by rw [List.length_drop]; omega
  rw [lt] at hA
  rw [ld] at hD
  have e : cellsT css most = css.flatten ++ ((List.replicate (7 - p) zq).flatten ++ [.int .i64 css.length, .int .i64 most]) := by
    unfold cellsT rows8
    rw [show 8 - css.length = 7 - p by omega, List.flatten_append]
    simp [List.append_assoc]
  have et : (cellsT css most).take (k * 14) = (css.take k).flatten := by
    rw [e, List.take_append_of_le_length (by omega)]
    have : css.flatten = (css.take k).flatten ++ (css.drop k).flatten := by rw [← List.flatten_append, List.take_append_drop]
    rw [this, List.take_append_of_le_length (by omega), List.take_of_length_le (by omega)]
  refine ⟨css.flatten.drop (p * 14), by rw [List.length_drop]; omega, ?_⟩
  unfold copied
  rw [et, hD, e, show k * 14 + (p - k) * 14 = p * 14 by omega, List.drop_append_of_le_length (by omega), List.eraseIdx_eq_take_drop_succ, List.flatten_append]
theorem picked_eq (css : List (List Value)) (most : Int) (k p : Nat) (hp : css.length = p + 1) (hk : k < css.length) (h8 : css.length ≤ 8) (hl : ∀ c ∈ css, c.length = 14) :
    setRange ((copied css most k).set 112 (.int .i64 p)) (p * 14) zq = cellsT (css.eraseIdx k) most := by
  obtain ⟨X, hX, e⟩ := copied_eq css most k p hp hk h8 hl
  have hel : ∀ c ∈ css.eraseIdx k, c.length = 14 := fun c hc => hl c (List.mem_of_mem_eraseIdx hc)
  have hE := flat_length _ hel
  have le : (css.eraseIdx k).length = p := by rw [List.length_eraseIdx]; split <;> omega
  rw [le] at hE
  have hZ : (List.replicate (7 - p) zq).flatten.length = (7 - p) * 14 := by
    rw [flat_length _ (fun c hc => by rw [List.eq_of_mem_replicate hc]; rfl)]
    simp
  have e1 : (copied css most k).set 112 (.int .i64 p) = (css.eraseIdx k).flatten ++ (X ++ ((List.replicate (7 - p) zq).flatten ++ [.int .i64 p, .int .i64 most])) := by
    rw [e, List.set_append_right _ _ (by omega), hE, List.set_append_right _ _ (by omega), hX, List.set_append_right _ _ (by omega), hZ]
    rw [show 112 - p * 14 - 14 - (7 - p) * 14 = 0 by omega]
    rfl
  rw [e1, ← hE, setRange_mid zq X _ _ (by rw [hX]; rfl)]
  unfold cellsT rows8
  rw [le, show 8 - p = (7 - p) + 1 by omega, List.replicate_succ, List.flatten_append, List.flatten_cons]
  simp [List.append_assoc]
theorem copied_num (css : List (List Value)) (most : Int) (k p : Nat) (hp : css.length = p + 1) (hk : k < css.length) (h8 : css.length ≤ 8) (hl : ∀ c ∈ css, c.length = 14) : (copied css most k)[112]? = some (.int .i64 ((p : Int) + 1)) ∧ ∀ (v : Value) (j : Nat), j < 14 → ∃ u, ((copied css most k).set 112 v)[p * 14 + j]? = some u := by
  obtain ⟨X, hX, e⟩ := copied_eq css most k p hp hk h8 hl
  have hel : ∀ c ∈ css.eraseIdx k, c.length = 14 := fun c hc => hl c (List.mem_of_mem_eraseIdx hc)
  have hE := flat_length _ hel
  have le : (css.eraseIdx k).length = p := by rw [List.length_eraseIdx]; split <;> omega
  rw [le] at hE
  have hZ : (List.replicate (7 - p) zq).flatten.length = (7 - p) * 14 := by
    rw [flat_length _ (fun c hc => by rw [List.eq_of_mem_replicate hc]; rfl)]
    simp
  constructor
  · rw [e, List.getElem?_append_right (by omega), List.getElem?_append_right (by omega), List.getElem?_append_right (by omega), hE, hX, hZ, show 112 - p * 14 - 14 - (7 - p) * 14 = 0 by omega, hp]
    rfl
  · intro v j hj
    rw [List.getElem?_set, if_neg (by omega), e, List.getElem?_append_right (by omega), hE, List.getElem?_append_left (by omega)]
    exact ⟨_, List.getElem?_eq_getElem (by omega)⟩
theorem grown_setRow (W : World) (b : Nat) (c : Array Value) : W.grownBy (W.setRow b c) (some b) := ⟨setRow_os _ _ _, setRow_tape _ _ _, setRow_output _ _ _, Nat.le_of_eq (setRow_size _ _ _).symm, fun k hk hn => setRow_other W b k c (by intro e; exact hn (by rw [e]))⟩
theorem grown_news {w : World} {row : Option Nat} {g : Nat} (hg : w.heap.size ≤ g) : ∀ (vs : List Value) (o : Nat) {w1 : World}, w.grownBy w1 row → w.grownBy (w1.setCells g o vs) row
  | [], _, _, h => h
  | v :: r, o, _, h => grown_news hg r (o + 1) (grown_new h hg o v)

end Go.Proofs.Ytenhnkldhodegaa.R
