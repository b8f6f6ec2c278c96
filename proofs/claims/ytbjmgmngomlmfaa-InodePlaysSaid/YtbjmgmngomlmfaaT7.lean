import Derived.Test.YtbjmgmngomlmfaaT6
import Derived.Outline
import Derived.Shelf.Abstract
import Derived.Deep.LoopGhost
import Derived.Deep.Draws
import Derived.Laws.EntriesVeiled
import Derived.Laws.ResultCell
import Derived.Laws.Rows
import Derived.Deep.QuietTactic
import Derived.Deep.RegionWith
import Derived.BigQuiet
namespace Go.Proofs.Ytbjmgmngomlmfaa.R
open Go.RowKit Go.Proofs.YtbjmgmngomlmfaaW.PrintWords Go.Proofs.YtbjmgmngomlmfaaW.PrintLast Go.Proofs.YtbjmgmngomlmfaaW.PrintMore
attribute [local go_sem] max2_int min2_int max_two min_two max_three min_three max_four min_four   -- for this text's walks alone
set_option linter.unusedVariables false
set_option linter.unusedSimpArgs false
set_option maxHeartbeats 1000000 in
theorem add1_str (b : Bool) (g : Int) (x : ByteArray) (w : World) : Calls Try.prog 40 #[.agg #[.bool b, .int .i64 g, .string x]] w fun e w' => e = .returned (.bool (!b)) ∧ Below w.heap.size w w' := by
  have hu := Try.underlying94
  go_enter Try.func40, Try.ntmps40
  go_wp2
  go_ret
  exact ⟨rfl, below_alloc (Below.refl _ _) _⟩
set_option maxHeartbeats 2000000 in
theorem index_str (cap : Nat) (st : List (Bool × Int × ByteArray)) (g : Nat) (w : World) (hr : Rows3 Value.string 94 w g st) : Calls Try.prog 39 #[.slice (some ⟨g, 0, none⟩) st.length cap, .func (.func 40) #[] #[]] w fun e w' => e = .returned (.int .i64 (freeInt st)) ∧ Below w.heap.size w w' := by
  have hlen := hr.2
  have eg : ∀ args w, (callFunc 40 args).run Try.prog w = .ok (.enter 40 args) w := enters_of Try.func40 (by kernel_rfl) rfl
  go_enter Try.func39, Try.ntmps39
  go_wp2
  go_loopg [5, 8] st.length (fun gg _ s8 wr => ∃ kk : Nat, kk ≤ st.length ∧ st.length - kk ≤ gg ∧ s8 = .int .i64 kk ∧ Aside (Below w.heap.size w wr) ∧ Aside (∀ j (hj : j < st.length), j < kk → st[j].1 = true))
  case atStart => exact ⟨0, Nat.zero_le _, by omega, rfl, Below.refl _ w, fun j _ hj => absurd hj (Nat.not_lt_zero _)⟩
  case round =>
    obtain ⟨kk, hkk, hg, rfl, BW, A⟩ := hrel
    by_cases hlt : kk < st.length
    · have hltz : (kk : Int) < (st.length : Int) := by omega
      have hc := (hr.below BW.out).at_ kk hlt
      have hcall := add1_str st[kk].1 st[kk].2.1 st[kk].2.2
      obtain ⟨c0, c1, c2⟩ := hc
      cases hq : st[kk].1 with
      | false =>
        rw [hq] at hcall c0
        go_wp2_with (go_at_fn 40; refine (hcall _).mono ?_; rintro e w' ⟨rfl, hb'⟩)
        go_ret
        refine ⟨?_, BW.out.trans (hb'.mono BW.out.size)⟩
        unfold freeInt
        rw [freeAt_hit st kk hlt hq A.out, if_pos hlt]
        rfl
      | true =>
        rw [hq] at hcall c0
        go_wp2_with (go_at_fn 40; refine (hcall _).mono ?_; rintro e w' ⟨rfl, hb'⟩)
        go_roundg (st.length - (kk + 1))
        case measure => omega
        case rel =>
          refine ⟨kk + 1, by omega, by omega, by go_num, BW.out.trans (hb'.mono BW.out.size), (show Aside _ from fun j hj hjk => ?_)⟩
          by_cases e : j = kk
          · subst e
            exact hq
          · exact A.out j hj (by omega)
    · have hltz : ¬ (kk : Int) < (st.length : Int) := by omega
      have : kk = st.length := by omega
      subst this
      go_wp2
      go_ret
      refine ⟨?_, BW.out⟩
      unfold freeInt
      rw [freeAt_miss st (fun j hj => A.out j hj hj), if_neg (Nat.lt_irrefl _)]
      rfl
abbrev TabStr := TabIn Value.string 94 92 71 38
set_option maxHeartbeats 2000000 in
theorem new_str_bad (most : Int) (w : World) (h : most < 1 ∨ 64 < most) : Calls Try.prog 25 #[.int .i64 most] w fun e w' => e = .returned (.tuple #[.pointer none, .int .i64 1]) ∧ Below w.heap.size w w' := by
  go_enter Try.func25, Try.ntmps25
  by_cases h1 : most < 1
  · go_wp2
    go_ret2
    exact ⟨rfl, Below.refl _ _⟩
  · have h2 : 64 < most := by omega
    go_wp2
    go_ret2
    exact ⟨rfl, Below.refl _ _⟩
set_option maxHeartbeats 2000000 in
theorem new_str (n : Nat) (w : World) (h1 : 1 ≤ n) (h2 : n ≤ 64) : Calls Try.prog 25 #[.int .i64 n] w fun e w' => e = .returned (.tuple #[.pointer (some ⟨w.heap.size + 1, 0, none⟩), .int .i64 0]) ∧ Below w.heap.size w w' ∧ TabStr w' w.heap.size 0 (List.replicate n (false, 0, ⟨#[]⟩)) := by
  obtain ⟨i, hi, hz0, hz1, hz2⟩ := info_parts (show (Try.prog.info? 94).map (fun i => (i.zero, i.size, i.bytes)) = some (some (.agg #[.bool false, .int .i64 0, .string ⟨#[]⟩]), 3, 32) by kernel_rfl)
  have hm : ∀ W, Sem.run Try.prog (Instr.makeSlice 90 (.int .i64 n) (.int .i64 n)) W = .ok (.slice (some ⟨W.heap.size, 0, none⟩) n n) (W.alloc (.cells (rows3 Value.string (List.replicate n (false, 0, ⟨#[]⟩))).toArray 94)) := by
    intro W
    rw [run_make W _ _ i _ Try.underlying90 hi hz0 .i64 .i64 n n (by omega) (Int.le_refl _) (by rw [hz2]; omega) (by omega), hz1, ← made_rows3]
    rfl
  have hs : w.heap.size ≠ w.heap.size + 1 := by omega
  have c1 : ¬ ((n : Int) < 1) := by omega
  have c2 : ¬ (64 < (n : Int)) := by omega
  go_enter Try.func25, Try.ntmps25
  go_wp2
  go_ret2
  refine ⟨rfl, (((Below.refl _ w).alloc (Nat.le_refl _) _).alloc (by simp) _).alloc (by simp; omega) _, ⟨⟨?_, ?_⟩, ?_, ?_, ?_, ?_⟩⟩
  · rw [heap_push, heap_push, heap_push]; simp; omega
  · simp; omega
  · rw [heap_push, heap_push]; simp
  · rw [heap_push]; simp
  · simp; omega
  · intro p hp
    rw [List.eq_of_mem_replicate hp]
    exact ⟨Int.le_refl _, Int.le_refl _⟩
set_option maxHeartbeats 4000000 in
theorem at_str (b m : Nat) (st : List (Bool × Int × ByteArray)) (ino gen : Int) (w : World) (hT : TabStr w b m st) : Calls Try.prog 41 #[.pointer (some ⟨b + 1, 0, none⟩), .agg #[.int .i64 ino, .int .i64 gen]] w fun e w' => e = .returned (atV b (atN st ino gen)) ∧ Below w.heap.size w w' := by
  have hlt := hT.lt
  have hsm := hT.small
  have hs := hT.slice
  have hl1 : b + 1 < w.heap.size := by omega
  have hl0 : b < w.heap.size := by omega
  by_cases h1 : ino < 1
  · rw [atN_out _ _ _ (by omega)]
    clear hT
    go_enter Try.func41, Try.ntmps41
    go_wp2
    go_quiet (fail)
    go_wp2
    go_ret
    refine ⟨rfl, ?_⟩; repeat (first | exact Below.refl _ _ | refine pw_below_drewN ?_ _ | refine below_alloc ?_ _)
  by_cases h2 : (st.length : Int) < ino
  · rw [atN_out _ _ _ (by omega)]
    clear hT
    go_enter Try.func41, Try.ntmps41
    go_wp2
    go_quiet (fail)
    go_wp2
    go_ret
    refine ⟨rfl, ?_⟩; repeat (first | exact Below.refl _ _ | refine pw_below_drewN ?_ _ | refine below_alloc ?_ _)
  obtain ⟨i, rfl⟩ : ∃ i : Nat, ino = i + 1 := ⟨(ino - 1).toNat, by omega⟩
  have hi : i < st.length := by omega
  rw [atN_in _ _ _ hi]
  obtain ⟨c0, c1, c2⟩ := hT.rows.at_ i hi
  have h3 : (i : Int) + 1 - 1 = i := by omega
  cases hq : st[i].1 with
  | false =>
    rw [hq] at c0
    rw [if_neg (by simp)]
    clear hT
    go_enter Try.func41, Try.ntmps41
    go_wp2
    go_quiet (fail)
    go_wp2
    go_quiet (fail)
    go_wp2
    go_quiet (fail)
    go_wp2
    go_ret
    refine ⟨rfl, ?_⟩; repeat (first | exact Below.refl _ _ | refine pw_below_drewN ?_ _ | refine below_alloc ?_ _)
  | true =>
    rw [hq] at c0
    by_cases hgen : st[i].2.1 = gen
    · rw [if_pos ⟨rfl, hgen⟩]
      rw [hgen] at c1
      have hd : decide (gen = gen) = true := by simp
      clear hT
      go_enter Try.func41, Try.ntmps41
      go_wp2
      go_quiet (fail)
      go_wp2
      go_quiet (fail)
      go_wp2
      go_quiet (fail)
      go_wp2
      go_ret
      refine ⟨rfl, ?_⟩; repeat (first | exact Below.refl _ _ | refine pw_below_drewN ?_ _ | refine below_alloc ?_ _)
    · rw [if_neg (by simp [hgen])]
      generalize st[i].2.1 = gg at hgen c1
      clear hT
      go_enter Try.func41, Try.ntmps41
      go_wp2
      go_quiet (fail)
      go_wp2
      go_quiet (fail)
      go_wp2
      go_quiet (fail)
      go_wp2
      go_ret
      refine ⟨rfl, ?_⟩; repeat (first | exact Below.refl _ _ | refine pw_below_drewN ?_ _ | refine below_alloc ?_ _)
set_option maxHeartbeats 4000000 in
theorem get_str (b m : Nat) (st : List (Bool × Int × ByteArray)) (ino gen : Int) (w : World) (hT : TabStr w b m st) : Calls Try.prog 28 #[.pointer (some ⟨b + 1, 0, none⟩), .agg #[.int .i64 ino, .int .i64 gen]] w fun e w' => e = .returned (.tuple #[.string (getF ⟨#[]⟩ st ino gen), .int .i64 (staleC st ino gen)]) ∧ Below w.heap.size w w' := by
  have hcall := fun W h => at_str b m st ino gen W h
  unfold getF staleC
  cases ha : atN st ino gen with
  | none =>
    rw [ha] at hcall
    go_enter Try.func28, Try.ntmps28
    go_wp2_with (go_at_call 41; refine (hcall _ (hT.below (below_alloc (Below.refl _ _) _))).mono ?_; rintro e w' ⟨rfl, hb'⟩; simp only [atV])
    go_ret2
    exact ⟨rfl, below_step (below_alloc (Below.refl _ _) _) hb'⟩
  | some i =>
    rw [ha] at hcall
    obtain ⟨hi, hat⟩ := atN_some ha
    have HAT : Aside (ino = i + 1 ∧ st[i].1 = true ∧ st[i].2.1 = gen) := hat
    clear hat
    obtain ⟨-, -, c2⟩ := hT.rows.at_ i hi
    have hx : ((st[i]?).map (·.2.2)).getD ⟨#[]⟩ = st[i].2.2 := by simp [hi]
    simp only [hx]
    go_enter Try.func28, Try.ntmps28
    go_wp2_with (go_at_call 41; refine (hcall _ (hT.below (below_alloc (Below.refl _ _) _))).mono ?_; rintro e w' ⟨rfl, hb'⟩; simp only [atV]; have c2' := pw_cell_below (below_step (below_alloc (Below.refl w.heap.size w) _) hb') c2)
    go_ret2
    exact ⟨rfl, below_step (below_alloc (Below.refl _ _) _) hb'⟩
set_option maxHeartbeats 4000000 in
theorem rem_str (b m : Nat) (st : List (Bool × Int × ByteArray)) (ino gen : Int) (w : World) (hT : TabStr w b m st) : Calls Try.prog 27 #[.pointer (some ⟨b + 1, 0, none⟩), .agg #[.int .i64 ino, .int .i64 gen]] w fun e w' => e = .returned (.int .i64 (staleC st ino gen)) ∧ w.grownBy w' (some b) ∧ TabStr w' b m (remF ⟨#[]⟩ st ino gen) := by
  have hcall := fun W h => at_str b m st ino gen W h
  unfold remF staleC
  cases ha : atN st ino gen with
  | none =>
    rw [ha] at hcall
    rw [if_neg (by simp)]
    go_enter Try.func27, Try.ntmps27
    go_wp2_with (go_at_call 41; refine (hcall _ (hT.below (below_alloc (Below.refl _ _) _))).mono ?_; rintro e w' ⟨rfl, hb'⟩; simp only [atV])
    go_ret
    have hb := below_step (below_alloc (Below.refl w.heap.size w) _) hb'
    exact ⟨rfl, grown_of_below hb _, hT.below hb⟩
  | some i =>
    rw [ha] at hcall
    rw [if_pos (by rfl)]
    obtain ⟨hi, hat⟩ := atN_some ha
    have HAT : Aside (ino = i + 1 ∧ st[i].1 = true ∧ st[i].2.1 = gen) := hat
    clear hat
    go_enter Try.func27, Try.ntmps27
    go_wp2_with (go_at_call 41; refine (hcall _ (hT.below (below_alloc (Below.refl _ _) _))).mono ?_; rintro e w' ⟨rfl, hb'⟩; simp only [atV]; have hT' := hT.below (below_step (below_alloc (Below.refl w.heap.size w) _) hb'); obtain ⟨c0', c1', c2'⟩ := hT'.rows.at_ i hi; have f0' := hT'.rows.free (i * 3); have f1' := hT'.rows.free (i * 3 + 1); have f2' := hT'.rows.free (i * 3 + 2))
    go_ret
    have hg : w.grownBy (((w'.setCell ⟨b, i * 3, none⟩ (.bool false)).setCell ⟨b, i * 3 + 1, none⟩ (.int .i64 st[i].2.1)).setCell ⟨b, i * 3 + 2, none⟩ (.string ⟨#[]⟩)) (some b) :=
      grown_trans (grown_of_below (below_step (below_alloc (Below.refl w.heap.size w) _) hb') _) (grown_trans (grown_setCell _ _ _ _) (grown_trans (grown_setCell _ _ _ _) (grown_setCell _ _ _ _)))
    have hgi := hT.gens _ (List.getElem_mem hi)
    refine ⟨rfl, hg, hT.write hg ?_ (by simp) (set_gens hT.gens _ _ ?_)⟩
    · rw [blk_set (blk_set (blk_set hT'.rows.1 _ _) _ _) _ _, rows3_set _ _ _ _ hi, HAT.out.2.2]
      simp
    · rw [HAT.out.2.2] at hgi
      exact hgi
set_option maxHeartbeats 4000000 in
theorem hand_str (b m : Nat) (st : List (Bool × Int × ByteArray)) (i : Nat) (w : World) (hT : TabStr w b m st) (hi : i < st.length) : Calls Try.prog 38 #[.int .i64 i, .pointer (some ⟨b + 2, 0, none⟩)] w fun e w' => e = .returned (.agg #[.int .i64 (i + 1), .int .i64 st[i].2.1]) ∧ Below w.heap.size w w' := by
  have hlt := hT.lt
  have hsm := hT.small
  have hs := hT.slice
  have hp := hT.ptr
  have hl1 : b + 1 < w.heap.size := by omega
  have hl0 : b < w.heap.size := by omega
  obtain ⟨c0, c1, c2⟩ := hT.rows.at_ i hi
  have hlt2 : (i : Int) < st.length := by omega
  go_enter Try.func38, Try.ntmps38
  go_wp2
  refine bodyPost_ret_by (results_cell_row rfl _ _ w.heap.size 29 _ _ _ rfl (heap_alloc_new _ _) Try.underlying29 rfl (by kernel_rfl)) rfl ?_
  exact ⟨rfl, below_alloc (Below.refl _ _) _⟩
set_option maxHeartbeats 4000000 in
theorem add_str (b m : Nat) (st : List (Bool × Int × ByteArray)) (x : ByteArray) (w : World) (hT : TabStr w b m st) (hm : m ≤ 1000) : Calls Try.prog 26 #[.pointer (some ⟨b + 1, 0, none⟩), .string x] w fun e w' => e = .returned (.tuple #[.agg #[.int .i64 (addI st), .int .i64 (addG st)], .int .i64 (addC st)]) ∧ w.grownBy w' (some b) ∧ TabStr w' b (m + 1) (addF st x) := by
  have hcall := fun W h => index_str st.length st b W h
  have hlt := hT.lt
  have hs := hT.slice
  have hfn := hT.fnc
  have hl1 : b + 1 < w.heap.size := by omega
  have hl0 : b < w.heap.size := by omega
  by_cases hf : freeAt st < st.length
  · have hn : st[freeAt st]? = some st[freeAt st] := List.getElem?_eq_getElem hf
    have hr : freeInt st = (freeAt st : Int) := by unfold freeInt; rw [if_pos hf]
    unfold addI addG addC addF
    rw [hn, if_pos hf]
    rw [hr] at hcall
    have hsm := hT.small
    generalize hi0 : freeAt st = i at *
    clear hr hn
    have hg0 := hT.gens _ (List.getElem_mem hf)
    have hg1 := hg0.1
    have hg2 : st[i].2.1 ≤ 1000 := by omega
    have hil : (i : Int) < st.length := by omega
    have eg : ∀ args w, (callFunc 38 args).run Try.prog w = .ok (.enter 38 args) w := enters_of Try.func38 (by kernel_rfl) rfl
    go_enter Try.func26, Try.ntmps26
    go_wp2_with (go_at_call 39; refine (hcall _ (hT.below (below_alloc (Below.refl _ _) _)).rows).mono ?_; rintro e w' ⟨rfl, hb'⟩; have hcell := (hb'.block w.heap.size (by simp)).trans (heap_alloc_new w _); have q0 := blk_cell hcell 0; have q1 := blk_cell hcell 1; have z0 := blk_frozen hcell 0; have z1 := blk_frozen hcell 1; have hT' := hT.below (below_step (below_alloc (Below.refl w.heap.size w) _) hb'); obtain ⟨c0', c1', c2'⟩ := hT'.rows.at_ i hf; have f0' := hT'.rows.free (i * 3); have f1' := hT'.rows.free (i * 3 + 1); have f2' := hT'.rows.free (i * 3 + 2); have hs' := hT'.slice; have hfn' := hT'.fnc)
    go_region
    have hb := below_step (below_alloc (Below.refl w.heap.size w) _) hb'
    have hlen' : st.length = (st.set i (true, st[i].2.1 + 1, x)).length := by simp
    have hgr : w.grownBy ((((w'.setCell ⟨b, i * 3, none⟩ (.bool true)).setCell ⟨b, i * 3 + 1, none⟩ (.int .i64 (st[i].2.1 + 1))).setCell ⟨b, i * 3 + 2, none⟩ (.string x)).drew) (some b) :=
      grown_trans (grown_of_below hb _) (grown_trans (grown_setCell _ _ _ _) (grown_trans (grown_setCell _ _ _ _) (grown_trans (grown_setCell _ _ _ _) (grown_of_below (below_drew (Below.refl _ _)) _))))
    have hT1 := hT.write (m1 := m + 1) (st1 := st.set i (true, st[i].2.1 + 1, x)) hgr (by
      show (((w'.setCell ⟨b, i * 3, none⟩ (.bool true)).setCell ⟨b, i * 3 + 1, none⟩ (.int .i64 (st[i].2.1 + 1))).setCell ⟨b, i * 3 + 2, none⟩ (.string x)).heap[b]? = _
      rw [blk_set (blk_set (blk_set hT'.rows.1 _ _) _ _) _ _, rows3_set _ _ _ _ hf]
      simp) (by simp) (set_gens (hT.mono (Nat.le_succ m)).gens _ _ ⟨by show 0 ≤ st[i].2.1 + 1; omega, by show st[i].2.1 + 1 ≤ ((m + 1 : Nat) : Int); omega⟩)
    have hcell1 : ((((w'.setCell ⟨b, i * 3, none⟩ (.bool true)).setCell ⟨b, i * 3 + 1, none⟩ (.int .i64 (st[i].2.1 + 1))).setCell ⟨b, i * 3 + 2, none⟩ (.string x)).drew).heap[w.heap.size]? = some (.cells #[.int .i64 0, .int .i64 0] 29 (0, 0)) :=
      blk_far (blk_far (blk_far hcell (by show w.heap.size ≠ b; omega) _) (by show w.heap.size ≠ b; omega) _) (by show w.heap.size ≠ b; omega) _
    generalize ((((w'.setCell ⟨b, i * 3, none⟩ (.bool true)).setCell ⟨b, i * 3 + 1, none⟩ (.int .i64 (st[i].2.1 + 1))).setCell ⟨b, i * 3 + 2, none⟩ (.string x)).drew) = W1 at *
    have hcl := hand_str b (m + 1) _ i W1 hT1 (by simpa using hf)
    have he : (st.set i (true, st[i].2.1 + 1, x))[i]'(by simpa using hf) = (true, st[i].2.1 + 1, x) := by simp
    rw [he] at hcl
    simp only at hcl
    clear he
    have HT1 : Aside (TabStr W1 b (m + 1) (st.set i (true, st[i].2.1 + 1, x))) := hT1
    have hs1 := hT1.slice
    have hfn1 := hT1.fnc
    have HG : Aside (w.grownBy W1 (some b)) := hgr
    have HC : Aside (W1.heap[w.heap.size]? = some (.cells #[.int .i64 0, .int .i64 0] 29 (0, 0))) := hcell1
    generalize hst1 : st.set i (true, st[i].2.1 + 1, x) = st1 at *
    generalize hgg : st[i].2.1 + 1 = gg at *
    clear hcell1 hgr hT1 hlen' hb c0' c1' c2' f0' f1' f2' hs' hfn' hcell q0 q1 z0 z1 hT' hb' hcall hs hfn hg0 hg1 hg2
    go_wp2_with (go_at_fn 38; refine hcl.mono ?_; rintro e w2 ⟨rfl, hb2⟩; have hc2 := (hb2.block _ (Array.getElem?_eq_some_iff.1 HC.out).1).trans HC.out; have q0 := blk_cell hc2 0; have q1 := blk_cell hc2 1; have z0 := blk_frozen hc2 0; have z1 := blk_frozen hc2 1)
    subst hgg
    have hgf := grown_new (grown_new (grown_trans HG.out (grown_of_below hb2 (some b))) (Nat.le_refl _) 0 (.int .i64 (i + 1))) (Nat.le_refl _) 1 (.int .i64 (st[i].2.1 + 1))
    refine bodyPost_ret_by (v := .tuple #[.agg #[.int .i64 (i + 1), .int .i64 (st[i].2.1 + 1)], .int .i64 0]) ?_ rfl ⟨rfl, hgf, ?_⟩
    · refine ret_cell2 (p := 4) (u := 5) rfl _ _ w.heap.size _ _ (by rfl) ?_
      rw [blk_set (blk_set hc2 _ _) _ _]
      rfl
    · have hT2 := HT1.out.below hb2
      rw [hst1]
      exact hT.write hgf (blk_far (blk_far hT2.rows.1 (by show b ≠ w.heap.size; omega) _) (by show b ≠ w.heap.size; omega) _) (by rw [← hst1]; simp) hT2.gens

  · have hn : st[freeAt st]? = none := List.getElem?_eq_none (by omega)
    have hr : freeInt st = -1 := by unfold freeInt; rw [if_neg hf]
    unfold addI addG addC addF
    rw [hn, if_neg hf]
    rw [hr] at hcall
    clear hr hn hf
    go_enter Try.func26, Try.ntmps26
    go_wp2_with (go_at_call 39; refine (hcall _ (hT.below (below_alloc (Below.refl _ _) _)).rows).mono ?_; rintro e w' ⟨rfl, hb'⟩; have hcell := (hb'.block w.heap.size (by simp)).trans (heap_alloc_new w _); have q0 := blk_cell hcell 0; have q1 := blk_cell hcell 1; have z0 := blk_frozen hcell 0; have z1 := blk_frozen hcell 1)
    have hb := below_step (below_alloc (Below.refl w.heap.size w) _) hb'
    refine bodyPost_ret_by (v := .tuple #[.agg #[.int .i64 0, .int .i64 0], .int .i64 14]) ?_ rfl ⟨rfl, grown_new (grown_new (grown_of_below hb _) (Nat.le_refl _) _ _) (Nat.le_refl _) _ _, ?_⟩
    · refine ret_cell2 (p := 4) (u := 5) rfl _ _ w.heap.size _ _ (by rfl) ?_
      rw [blk_set (blk_set hcell _ _) _ _]
      rfl
    · have hB : Below w.heap.size w ((w'.setCell ⟨w.heap.size, 0, none⟩ (.int .i64 0)).setCell ⟨w.heap.size, 1, none⟩ (.int .i64 0)) := below_set (below_set hb (Nat.le_refl _)) (Nat.le_refl _)
      exact (hT.below hB).mono (Nat.le_succ _)

end Go.Proofs.Ytbjmgmngomlmfaa.R
