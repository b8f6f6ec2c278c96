import Derived.Test.YtenhnkldhodegaaRx1
import Derived.Outline
import Derived.Shelf.Abstract
import Derived.Deep.LoopGhost
import Derived.Deep.Draws
import Derived.Laws.EntriesVeiled
import Derived.Laws.ResultCell
import Derived.Laws.Rows
import Derived.Deep.QuietTactic
import Derived.Deep.RegionWith
import Derived.BigQuiet
import Derived.Deep.MidRow
import Derived.Laws.Tables
import Derived.Deep.WholeRow
import Derived.Lib.SliceRun
import Derived.LaidEql
import Derived.RowKitTokens
import Derived.Stop.Asserts
import Derived.Laws.CopyRow
namespace Go.Proofs.Ytenhnkldhodegaa.R
open Go.RowKit Go.Proofs.YtenhnkldhodegaaW.PrintWords Go.Proofs.YtenhnkldhodegaaW.PrintLast Go.Proofs.YtenhnkldhodegaaW.PrintMore
attribute [local go_sem] max2_int min2_int max_two min_two max_three min_three max_four min_four   -- for this text's walks alone
set_option linter.unusedVariables false
set_option linter.unusedSimpArgs false
/-! A request in memory: 14 cells (a string, two slices, numbers); the second is its tag. -/
def WfQ (cs : List Value) (t : Int) : Prop := ∃ (i0 i2 i3 i4 i5 i6 i7 i8 i9 : Int) (s : ByteArray) (A : Option Addr) (n c : Nat) (i12 : Int) (D : Option Addr) (m d : Nat),
  cs = [.int .i64 i0, .int .i64 t, .int .i64 i2, .int .i64 i3, .int .i64 i4, .int .i64 i5, .int .i64 i6, .int .i64 i7, .int .i64 i8, .int .i64 i9, .string s, .slice A n c, .int .i64 i12, .slice D m d]
def tagOf (cs : List Value) : Int :=
  match cs[1]? with
  | some (Value.int _ t) => t
  | _ => 0
theorem WfQ.len {cs : List Value} {t : Int} (h : WfQ cs t) : cs.length = 14 := by obtain ⟨i0, i2, i3, i4, i5, i6, i7, i8, i9, s, A, n, c, i12, D, m, d, rfl⟩ := h; rfl
theorem WfQ.tag {cs : List Value} {t : Int} (h : WfQ cs t) : cs[1]? = some (.int .i64 t) := by obtain ⟨i0, i2, i3, i4, i5, i6, i7, i8, i9, s, A, n, c, i12, D, m, d, rfl⟩ := h; rfl
theorem WfQ.tagOf {cs : List Value} {t : Int} (h : WfQ cs t) : tagOf cs = t := by unfold R.tagOf; rw [h.tag]
set_option maxRecDepth 100000 in
set_option maxHeartbeats 2000000 in
theorem find1 (cs : List Value) (t tag : Int) (hq : WfQ cs t) (g : Nat) (w : World) (hgl : g < w.heap.size) (hg : w.cell? ⟨g, 0, none⟩ = some (.int .i64 tag)) : Calls Try.prog 39 #[.agg cs.toArray, .pointer (some ⟨g, 0, none⟩)] w fun e w' => e = .returned (.bool (decide (t = tag))) ∧ Below w.heap.size w w' := by
  obtain ⟨i0, i2, i3, i4, i5, i6, i7, i8, i9, s, A, n, c, i12, D, m, d, rfl⟩ := hq
  have hu := Try.underlying32
  go_enter Try.func39, Try.ntmps39
  go_wp2
  go_ret
  exact ⟨rfl, below_alloc (Below.refl _ _) _⟩
/-- Where a tag stands. -/
def findN (css : List (List Value)) (tag : Int) : Nat := css.findIdx fun c => decide (tagOf c = tag)
def findI (css : List (List Value)) (tag : Int) : Int := if findN css tag < css.length then (findN css tag : Int) else -1
theorem findN_hit (css : List (List Value)) (tag : Int) (k : Nat) (hk : k < css.length) (h : tagOf css[k] = tag) (ha : ∀ j (hj : j < css.length), j < k → tagOf css[j] ≠ tag) : findN css tag = k := by
  unfold findN; rw [List.findIdx_eq hk]; exact ⟨by simp [h], fun j hj => by simp [ha j (by omega) hj]⟩
theorem findN_miss (css : List (List Value)) (tag : Int) (ha : ∀ j (hj : j < css.length), tagOf css[j] ≠ tag) : findN css tag = css.length := by
  unfold findN; rw [List.findIdx_eq_length]; intro x hx; obtain ⟨j, hj, rfl⟩ := List.mem_iff_getElem.1 hx; simp [ha j hj]
theorem rangeAt_below {w w1 : World} {b o : Nat} {cs : List Value} (h : w.rangeAt b o cs) (hb : Below w.heap.size w w1) : w1.rangeAt b o cs := fun j v hv => pw_cell_below hb (h j v hv)
set_option maxRecDepth 100000 in
set_option maxHeartbeats 4000000 in
theorem index_ask (b cap g : Nat) (css : List (List Value)) (tag : Int) (w : World) (hl : css.length ≤ 8) (hw : ∀ i (h : i < css.length), WfQ css[i] (tagOf css[i])) (hr : ∀ i (h : i < css.length), w.rangeAt b (i * 14) css[i]) (hgl : g < w.heap.size) (hg : w.cell? ⟨g, 0, none⟩ = some (.int .i64 tag)) : Calls Try.prog 38 #[.slice (some ⟨b, 0, none⟩) css.length cap, .func (.func 39) #[] #[.pointer (some ⟨g, 0, none⟩)]] w fun e w' => e = .returned (.int .i64 (findI css tag)) ∧ Below w.heap.size w w' := by
  have eg : ∀ args w, (callFunc 39 args).run Try.prog w = .ok (.enter 39 args) w := enters_of Try.func39 (by kernel_rfl) rfl
  have hrow : Aside (∀ (W : World), Below w.heap.size w W → ∀ i (h : i < css.length), W.rangeAt b (i * 14) css[i]) := fun W hW i h => rangeAt_below (hr i h) hW
  have HW : Aside (∀ i (h : i < css.length), WfQ css[i] (tagOf css[i])) := hw
  clear hr hw
  go_enter Try.func38, Try.ntmps38
  go_wp2
  go_loopg [5, 8] css.length (fun gg _ s8 wr => ∃ kk : Nat, kk ≤ css.length ∧ css.length - kk ≤ gg ∧ s8 = .int .i64 kk ∧ Aside (Below w.heap.size w wr) ∧ Aside (∀ j (hj : j < css.length), j < kk → tagOf css[j] ≠ tag))
  case atStart => exact ⟨0, Nat.zero_le _, by omega, rfl, Below.refl _ w, fun j _ hj => absurd hj (Nat.not_lt_zero _)⟩
  case round =>
    obtain ⟨kk, hkk, hgg, rfl, BW, A⟩ := hrel
    by_cases hlt : kk < css.length
    · have hltz : (kk : Int) < (css.length : Int) := by omega
      have l2 := hrow.out wr BW.out kk hlt
      have wq := HW.out kk hlt
      generalize htk : tagOf css[kk] = tk at wq
      have hcall := find1 css[kk] tk tag wq g wr (Nat.lt_of_lt_of_le hgl BW.out.size) (pw_cell_below BW.out hg)
      obtain ⟨i0, i2, i3, i4, i5, i6, i7, i8, i9, s, A11, n11, c_11, i12, A13, n13, c_13, hcs⟩ := wq
      rw [hcs] at l2 hcall
      have c0 := l2 0 _ rfl
      have c1 := l2 1 _ rfl
      have c2 := l2 2 _ rfl
      have c3 := l2 3 _ rfl
      have c4 := l2 4 _ rfl
      have c5 := l2 5 _ rfl
      have c6 := l2 6 _ rfl
      have c7 := l2 7 _ rfl
      have c8 := l2 8 _ rfl
      have c9 := l2 9 _ rfl
      have c10 := l2 10 _ rfl
      have c11 := l2 11 _ rfl
      have c12 := l2 12 _ rfl
      have c13 := l2 13 _ rfl
      simp only [Nat.add_zero] at c0
      clear hrow hg l2 hcs
      by_cases hq : tk = tag
      · rw [decide_eq_true hq] at hcall
        have HQ : Aside (tagOf css[kk] = tag) := htk.trans hq
        clear hq htk
        go_wp2_with (go_at_fn 39; refine hcall.mono ?_; rintro e w' ⟨rfl, hb'⟩)
        go_ret
        refine ⟨?_, BW.out.trans (hb'.mono BW.out.size)⟩
        unfold findI
        rw [findN_hit css tag kk hlt HQ.out A.out, if_pos hlt]
        rfl
      · rw [decide_eq_false hq] at hcall
        have HQ : Aside (¬ tagOf css[kk] = tag) := by rw [htk]; exact hq
        clear hq htk
        go_wp2_with (go_at_fn 39; refine hcall.mono ?_; rintro e w' ⟨rfl, hb'⟩)
        go_roundg (css.length - (kk + 1))
        case measure => omega
        case rel =>
          refine ⟨kk + 1, by omega, by omega, by go_num, BW.out.trans (hb'.mono BW.out.size), (show Aside _ from fun j hj hjk => ?_)⟩
          by_cases e : j = kk
          · subst e
            exact HQ.out
          · exact A.out j hj (by omega)
    · have hltz : ¬ (kk : Int) < (css.length : Int) := by omega
      have : kk = css.length := by omega
      subst this
      go_wp2
      go_ret
      refine ⟨?_, BW.out⟩
      unfold findI
      rw [findN_miss css tag (fun j hj => A.out j hj hj), if_neg (Nat.lt_irrefl _)]
      rfl

end Go.Proofs.Ytenhnkldhodegaa.R
