import Derived.Test.YtbjmgmngomlmfaaT4
import Derived.Outline
import Derived.Shelf.Abstract
import Derived.Deep.LoopGhost
import Derived.Deep.Draws
import Derived.Laws.EntriesVeiled
import Derived.Laws.ResultCell
import Derived.Laws.Rows
import Derived.Deep.QuietTactic
import Derived.Deep.RegionWith
import Derived.BigQuiet
namespace Go.Proofs.Ytbjmgmngomlmfaa.R
open Go.RowKit Go.Proofs.YtbjmgmngomlmfaaW.PrintWords Go.Proofs.YtbjmgmngomlmfaaW.PrintLast Go.Proofs.YtbjmgmngomlmfaaW.PrintMore
attribute [local go_sem] max2_int min2_int max_two min_two max_three min_three max_four min_four   -- for this text's walks alone
set_option linter.unusedVariables false
set_option linter.unusedSimpArgs false
set_option maxHeartbeats 4000000 in
theorem rem_int (b m : Nat) (st : List (Bool × Int × Int)) (ino gen : Int) (w : World) (hT : TabInt w b m st) : Calls Try.prog 14 #[.pointer (some ⟨b + 1, 0, none⟩), .agg #[.int .i64 ino, .int .i64 gen]] w fun e w' => e = .returned (.int .i64 (staleC st ino gen)) ∧ w.grownBy w' (some b) ∧ TabInt w' b m (remF 0 st ino gen) := by
  have hcall := fun W h => at_int b m st ino gen W h
  unfold remF staleC
  cases ha : atN st ino gen with
  | none =>
    rw [ha] at hcall
    rw [if_neg (by simp)]
    go_enter Try.func14, Try.ntmps14
    go_wp2_with (go_at_call 32; refine (hcall _ (hT.below (below_alloc (Below.refl _ _) _))).mono ?_; rintro e w' ⟨rfl, hb'⟩; simp only [atV])
    go_ret
    have hb := below_step (below_alloc (Below.refl w.heap.size w) _) hb'
    exact ⟨rfl, grown_of_below hb _, hT.below hb⟩
  | some i =>
    rw [ha] at hcall
    rw [if_pos (by rfl)]
    obtain ⟨hi, hat⟩ := atN_some ha
    have HAT : Aside (ino = i + 1 ∧ st[i].1 = true ∧ st[i].2.1 = gen) := hat
    clear hat
    go_enter Try.func14, Try.ntmps14
    go_wp2_with (go_at_call 32; refine (hcall _ (hT.below (below_alloc (Below.refl _ _) _))).mono ?_; rintro e w' ⟨rfl, hb'⟩; simp only [atV]; have hT' := hT.below (below_step (below_alloc (Below.refl w.heap.size w) _) hb'); obtain ⟨c0', c1', c2'⟩ := hT'.rows.at_ i hi; have f0' := hT'.rows.free (i * 3); have f1' := hT'.rows.free (i * 3 + 1); have f2' := hT'.rows.free (i * 3 + 2))
    go_ret
    have hg : w.grownBy (((w'.setCell ⟨b, i * 3, none⟩ (.bool false)).setCell ⟨b, i * 3 + 1, none⟩ (.int .i64 st[i].2.1)).setCell ⟨b, i * 3 + 2, none⟩ (.int .i64 0)) (some b) :=
      grown_trans (grown_of_below (below_step (below_alloc (Below.refl w.heap.size w) _) hb') _) (grown_trans (grown_setCell _ _ _ _) (grown_trans (grown_setCell _ _ _ _) (grown_setCell _ _ _ _)))
    have hgi := hT.gens _ (List.getElem_mem hi)
    refine ⟨rfl, hg, hT.write hg ?_ (by simp) (set_gens hT.gens _ _ ?_)⟩
    · rw [blk_set (blk_set (blk_set hT'.rows.1 _ _) _ _) _ _, rows3_set _ _ _ _ hi, HAT.out.2.2]
      simp
    · rw [HAT.out.2.2] at hgi
      exact hgi
set_option maxHeartbeats 4000000 in
theorem hand_int (b m : Nat) (st : List (Bool × Int × Int)) (i : Nat) (w : World) (hT : TabInt w b m st) (hi : i < st.length) : Calls Try.prog 29 #[.int .i64 i, .pointer (some ⟨b + 2, 0, none⟩)] w fun e w' => e = .returned (.agg #[.int .i64 (i + 1), .int .i64 st[i].2.1]) ∧ Below w.heap.size w w' := by
  have hlt := hT.lt
  have hsm := hT.small
  have hs := hT.slice
  have hp := hT.ptr
  have hl1 : b + 1 < w.heap.size := by omega
  have hl0 : b < w.heap.size := by omega
  obtain ⟨c0, c1, c2⟩ := hT.rows.at_ i hi
  have hlt2 : (i : Int) < st.length := by omega
  go_enter Try.func29, Try.ntmps29
  go_wp2
  refine bodyPost_ret_by (results_cell_row rfl _ _ w.heap.size 29 _ _ _ rfl (heap_alloc_new _ _) Try.underlying29 rfl (by kernel_rfl)) rfl ?_
  exact ⟨rfl, below_alloc (Below.refl _ _) _⟩
section
variable {α : Type}
def addF (st : List (Bool × Int × α)) (x : α) : List (Bool × Int × α) :=
  match st[freeAt st]? with
  | none => st
  | some p => st.set (freeAt st) (true, p.2.1 + 1, x)
def addI (st : List (Bool × Int × α)) : Int :=
  match st[freeAt st]? with
  | none => 0
  | some _ => (freeAt st : Int) + 1
def addG (st : List (Bool × Int × α)) : Int :=
  match st[freeAt st]? with
  | none => 0
  | some p => p.2.1 + 1
def addC (st : List (Bool × Int × α)) : Int := if freeAt st < st.length then 0 else 14
end
theorem grown_new {w w1 : World} {row : Option Nat} (h : w.grownBy w1 row) {g : Nat} (hg : w.heap.size ≤ g) (o : Nat) (v : Value) : w.grownBy (w1.setCell ⟨g, o, none⟩ v) row :=
  ⟨h.os, h.tape, h.output, by simpa [World.setCell] using h.size, fun k hk hn => (Below.heap_setCell w1 ⟨g, o, none⟩ v k (by show k ≠ g; omega)).trans (h.block k hk hn)⟩
theorem ret_cell2 {fn : Func} {p u : Tmp} (h : fn.results = #[.cell p 29, .tmp u]) (tmps : Array Value) (w : World) (g : Nat) (x y : Value) (hp : tmps.getD p undef = .pointer (some ⟨g, 0, none⟩)) (hg : w.heap[g]? = some (.cells #[x, y] 29 (0, 0))) : (results fn tmps).run Try.prog w = .ok (.tuple #[.agg #[x, y], tmps.getD u undef]) w := by
  rw [results_cell_tmp h, hp]
  have hl := run_loadVar_row (P := Try.prog) w g 29 29 #[x, y] (0, 0) _ hg Try.underlying29 rfl (by show (Try.prog.info? 29).map (·.size) = some 2; kernel_rfl)
  simp [asAddr, Result.andThen, hl]
set_option maxHeartbeats 4000000 in
theorem add_int (b m : Nat) (st : List (Bool × Int × Int)) (x : Int) (w : World) (hT : TabInt w b m st) (hm : m ≤ 1000) : Calls Try.prog 13 #[.pointer (some ⟨b + 1, 0, none⟩), .int .i64 x] w fun e w' => e = .returned (.tuple #[.agg #[.int .i64 (addI st), .int .i64 (addG st)], .int .i64 (addC st)]) ∧ w.grownBy w' (some b) ∧ TabInt w' b (m + 1) (addF st x) := by
  have hcall := fun W h => index_int st.length st b W h
  have hlt := hT.lt
  have hs := hT.slice
  have hfn := hT.fnc
  have hl1 : b + 1 < w.heap.size := by omega
  have hl0 : b < w.heap.size := by omega
  by_cases hf : freeAt st < st.length
  · have hn : st[freeAt st]? = some st[freeAt st] := List.getElem?_eq_getElem hf
    have hr : freeInt st = (freeAt st : Int) := by unfold freeInt; rw [if_pos hf]
    unfold addI addG addC addF
    rw [hn, if_pos hf]
    rw [hr] at hcall
    have hsm := hT.small
    generalize hi0 : freeAt st = i at *
    clear hr hn
    have hg0 := hT.gens _ (List.getElem_mem hf)
    have hg1 := hg0.1
    have hg2 : st[i].2.1 ≤ 1000 := by omega
    have hil : (i : Int) < st.length := by omega
    have eg : ∀ args w, (callFunc 29 args).run Try.prog w = .ok (.enter 29 args) w := enters_of Try.func29 (by kernel_rfl) rfl
    go_enter Try.func13, Try.ntmps13
    go_wp2_with (go_at_call 30; refine (hcall _ (hT.below (below_alloc (Below.refl _ _) _)).rows).mono ?_; rintro e w' ⟨rfl, hb'⟩; have hcell := (hb'.block w.heap.size (by simp)).trans (heap_alloc_new w _); have q0 := blk_cell hcell 0; have q1 := blk_cell hcell 1; have z0 := blk_frozen hcell 0; have z1 := blk_frozen hcell 1; have hT' := hT.below (below_step (below_alloc (Below.refl w.heap.size w) _) hb'); obtain ⟨c0', c1', c2'⟩ := hT'.rows.at_ i hf; have f0' := hT'.rows.free (i * 3); have f1' := hT'.rows.free (i * 3 + 1); have f2' := hT'.rows.free (i * 3 + 2); have hs' := hT'.slice; have hfn' := hT'.fnc)
    go_region
    have hb := below_step (below_alloc (Below.refl w.heap.size w) _) hb'
    have hlen' : st.length = (st.set i (true, st[i].2.1 + 1, x)).length := by simp
    have hgr : w.grownBy ((((w'.setCell ⟨b, i * 3, none⟩ (.bool true)).setCell ⟨b, i * 3 + 1, none⟩ (.int .i64 (st[i].2.1 + 1))).setCell ⟨b, i * 3 + 2, none⟩ (.int .i64 x)).drew) (some b) :=
      grown_trans (grown_of_below hb _) (grown_trans (grown_setCell _ _ _ _) (grown_trans (grown_setCell _ _ _ _) (grown_trans (grown_setCell _ _ _ _) (grown_of_below (below_drew (Below.refl _ _)) _))))
    have hT1 := hT.write (m1 := m + 1) (st1 := st.set i (true, st[i].2.1 + 1, x)) hgr (by
      show (((w'.setCell ⟨b, i * 3, none⟩ (.bool true)).setCell ⟨b, i * 3 + 1, none⟩ (.int .i64 (st[i].2.1 + 1))).setCell ⟨b, i * 3 + 2, none⟩ (.int .i64 x)).heap[b]? = _
      rw [blk_set (blk_set (blk_set hT'.rows.1 _ _) _ _) _ _, rows3_set _ _ _ _ hf]
      simp) (by simp) (set_gens (hT.mono (Nat.le_succ m)).gens _ _ ⟨by show 0 ≤ st[i].2.1 + 1; omega, by show st[i].2.1 + 1 ≤ ((m + 1 : Nat) : Int); omega⟩)
    have hcell1 : ((((w'.setCell ⟨b, i * 3, none⟩ (.bool true)).setCell ⟨b, i * 3 + 1, none⟩ (.int .i64 (st[i].2.1 + 1))).setCell ⟨b, i * 3 + 2, none⟩ (.int .i64 x)).drew).heap[w.heap.size]? = some (.cells #[.int .i64 0, .int .i64 0] 29 (0, 0)) :=
      blk_far (blk_far (blk_far hcell (by show w.heap.size ≠ b; omega) _) (by show w.heap.size ≠ b; omega) _) (by show w.heap.size ≠ b; omega) _
    generalize ((((w'.setCell ⟨b, i * 3, none⟩ (.bool true)).setCell ⟨b, i * 3 + 1, none⟩ (.int .i64 (st[i].2.1 + 1))).setCell ⟨b, i * 3 + 2, none⟩ (.int .i64 x)).drew) = W1 at *
    have hcl := hand_int b (m + 1) _ i W1 hT1 (by simpa using hf)
    have he : (st.set i (true, st[i].2.1 + 1, x))[i]'(by simpa using hf) = (true, st[i].2.1 + 1, x) := by simp
    rw [he] at hcl
    simp only at hcl
    clear he
    have HT1 : Aside (TabInt W1 b (m + 1) (st.set i (true, st[i].2.1 + 1, x))) := hT1
    have hs1 := hT1.slice
    have hfn1 := hT1.fnc
    have HG : Aside (w.grownBy W1 (some b)) := hgr
    have HC : Aside (W1.heap[w.heap.size]? = some (.cells #[.int .i64 0, .int .i64 0] 29 (0, 0))) := hcell1
    generalize hst1 : st.set i (true, st[i].2.1 + 1, x) = st1 at *
    generalize hgg : st[i].2.1 + 1 = gg at *
    clear hcell1 hgr hT1 hlen' hb c0' c1' c2' f0' f1' f2' hs' hfn' hcell q0 q1 z0 z1 hT' hb' hcall hs hfn hg0 hg1 hg2
    go_wp2_with (go_at_fn 29; refine hcl.mono ?_; rintro e w2 ⟨rfl, hb2⟩; have hc2 := (hb2.block _ (Array.getElem?_eq_some_iff.1 HC.out).1).trans HC.out; have q0 := blk_cell hc2 0; have q1 := blk_cell hc2 1; have z0 := blk_frozen hc2 0; have z1 := blk_frozen hc2 1)
    subst hgg
    have hgf := grown_new (grown_new (grown_trans HG.out (grown_of_below hb2 (some b))) (Nat.le_refl _) 0 (.int .i64 (i + 1))) (Nat.le_refl _) 1 (.int .i64 (st[i].2.1 + 1))
    refine bodyPost_ret_by (v := .tuple #[.agg #[.int .i64 (i + 1), .int .i64 (st[i].2.1 + 1)], .int .i64 0]) ?_ rfl ⟨rfl, hgf, ?_⟩
    · refine ret_cell2 (p := 4) (u := 5) rfl _ _ w.heap.size _ _ (by rfl) ?_
      rw [blk_set (blk_set hc2 _ _) _ _]
      rfl
    · have hT2 := HT1.out.below hb2
      rw [hst1]
      exact hT.write hgf (blk_far (blk_far hT2.rows.1 (by show b ≠ w.heap.size; omega) _) (by show b ≠ w.heap.size; omega) _) (by rw [← hst1]; simp) hT2.gens

  · have hn : st[freeAt st]? = none := List.getElem?_eq_none (by omega)
    have hr : freeInt st = -1 := by unfold freeInt; rw [if_neg hf]
    unfold addI addG addC addF
    rw [hn, if_neg hf]
    rw [hr] at hcall
    clear hr hn hf
    go_enter Try.func13, Try.ntmps13
    go_wp2_with (go_at_call 30; refine (hcall _ (hT.below (below_alloc (Below.refl _ _) _)).rows).mono ?_; rintro e w' ⟨rfl, hb'⟩; have hcell := (hb'.block w.heap.size (by simp)).trans (heap_alloc_new w _); have q0 := blk_cell hcell 0; have q1 := blk_cell hcell 1; have z0 := blk_frozen hcell 0; have z1 := blk_frozen hcell 1)
    have hb := below_step (below_alloc (Below.refl w.heap.size w) _) hb'
    refine bodyPost_ret_by (v := .tuple #[.agg #[.int .i64 0, .int .i64 0], .int .i64 14]) ?_ rfl ⟨rfl, grown_new (grown_new (grown_of_below hb _) (Nat.le_refl _) _ _) (Nat.le_refl _) _ _, ?_⟩
    · refine ret_cell2 (p := 4) (u := 5) rfl _ _ w.heap.size _ _ (by rfl) ?_
      rw [blk_set (blk_set hcell _ _) _ _]
      rfl
    · have hB : Below w.heap.size w ((w'.setCell ⟨w.heap.size, 0, none⟩ (.int .i64 0)).setCell ⟨w.heap.size, 1, none⟩ (.int .i64 0)) := below_set (below_set hb (Nat.le_refl _)) (Nat.le_refl _)
      exact (hT.below hB).mono (Nat.le_succ _)

end Go.Proofs.Ytbjmgmngomlmfaa.R
