import Derived.Test.YtenhnkldhodegaaT6
import Derived.Outline
import Derived.Shelf.Abstract
import Derived.Deep.LoopGhost
import Derived.Deep.Draws
import Derived.Laws.EntriesVeiled
import Derived.Laws.ResultCell
import Derived.Laws.Rows
import Derived.Deep.QuietTactic
import Derived.Deep.RegionWith
import Derived.BigQuiet
import Derived.Deep.MidRow
import Derived.Laws.Tables
import Derived.Deep.WholeRow
import Derived.Lib.SliceRun
import Derived.LaidEql
import Derived.RowKitTokens
import Derived.Stop.Asserts
import Derived.Laws.CopyRow
namespace Go.Proofs.Ytenhnkldhodegaa.R
open Go.RowKit Go.Proofs.YtenhnkldhodegaaW.PrintWords Go.Proofs.YtenhnkldhodegaaW.PrintLast Go.Proofs.YtenhnkldhodegaaW.PrintMore
attribute [local go_sem] max2_int min2_int max_two min_two max_three min_three max_four min_four   -- for this text's walks alone
set_option linter.unusedVariables false
set_option linter.unusedSimpArgs false
set_option maxRecDepth 100000 in
set_option maxHeartbeats 8000000 in
theorem put_ok (b : Nat) (most t : Int) (css : List (List Value)) (cs : List Value) (R : List Value → World → Prop) (hq : WfQ cs t) (w : World) (hT : TagsIn w b most css) (hf : ¬ findN css t < css.length) (hm : (css.length : Int) < most) (hm8 : most ≤ 8)
    (hown : ∀ W, Below w.heap.size w W → Calls Try.prog 24 #[.agg cs.toArray] W fun e w' => ∃ cs', e = .returned (.agg cs'.toArray) ∧ WfQ cs' t ∧ R cs' w' ∧ Below W.heap.size W w') :
    Calls Try.prog 10 #[.pointer (some ⟨b, 0, none⟩), .agg cs.toArray] w fun e w' => e = .returned (.int .i64 0) ∧ ∃ cs' w1, WfQ cs' t ∧ R cs' w1 ∧ Below w.heap.size w w1 ∧ w1.grownBy w' (some b) ∧ TagsIn w' b most (css ++ [cs']) := by
  obtain ⟨i0, i2, i3, i4, i5, i6, i7, i8, i9, s, A, n, c, i12, D, m, d, rfl⟩ := hq
  have hu := Try.underlying32
  have hcall := fun W hW => has_ok b most t css W (hT.below hW)
  rw [decide_eq_false hf] at hcall
  have HF : Aside (¬ findN css t < css.length) := hf
  have HT : Aside (TagsIn w b most css) := hT
  have hm' : ¬ most ≤ (css.length : Int) := by omega
  have hn8 : css.length < 8 := by omega
  have hn8i : (css.length : Int) < 8 := by omega
  clear hf hT
  go_enter Try.func10, Try.ntmps10
  go_wp2_with (go_at_call 15; refine (hcall _ (below_alloc (Below.refl _ _) _)).mono ?_; rintro e w1 ⟨rfl, hb1⟩; have hb1' := below_step (below_alloc (Below.refl w.heap.size w) _) hb1; have hT' := HT.out.below hb1'; have q1 := hT'.num; have q2 := hT'.bound; have hcell := (hb1.block w.heap.size (by simp)).trans (heap_alloc_new w _))
  go_quiet (fail)
  have c0 := blk_cell hcell 0
  have c1 := blk_cell hcell 1
  have c2 := blk_cell hcell 2
  have c3 := blk_cell hcell 3
  have c4 := blk_cell hcell 4
  have c5 := blk_cell hcell 5
  have c6 := blk_cell hcell 6
  have c7 := blk_cell hcell 7
  have c8 := blk_cell hcell 8
  have c9 := blk_cell hcell 9
  have c10 := blk_cell hcell 10
  have c11 := blk_cell hcell 11
  have c12 := blk_cell hcell 12
  have c13 := blk_cell hcell 13
  have HC : Aside (w1.heap[w.heap.size]? = _) := hcell
  have HT1 : Aside (TagsIn w1 b most css) := hT'
  have HB1 : Aside (Below w.heap.size w w1) := hb1'
  clear hcell hT' hb1' hb1 q2
  go_wp2
  go_region_with (go_at_call 24; refine (hown _ (below_drew (pw_below_drewN HB1.out _))).mono ?_; rintro e w2 ⟨cs', rfl, ⟨j0, j2, j3, j4, j5, j6, j7, j8, j9, js, jA, jn, jc, j12, jD, jm, jd, rfl⟩, hR, hb2⟩; have hb12 : Below w1.heap.size w1 w2 := below_step (below_drew (pw_below_drewN (Below.refl _ _) _)) hb2; have hT2 := HT1.out.below hb12; have q1' := hT2.num; have hz := hT2.zero hn8; have z0 := hz 0 _ rfl; have f0 := hT2.free (css.length * 14 + 0); have z1 := hz 1 _ rfl; have f1 := hT2.free (css.length * 14 + 1); have z2 := hz 2 _ rfl; have f2 := hT2.free (css.length * 14 + 2); have z3 := hz 3 _ rfl; have f3 := hT2.free (css.length * 14 + 3); have z4 := hz 4 _ rfl; have f4 := hT2.free (css.length * 14 + 4); have z5 := hz 5 _ rfl; have f5 := hT2.free (css.length * 14 + 5); have z6 := hz 6 _ rfl; have f6 := hT2.free (css.length * 14 + 6); have z7 := hz 7 _ rfl; have f7 := hT2.free (css.length * 14 + 7); have z8 := hz 8 _ rfl; have f8 := hT2.free (css.length * 14 + 8); have z9 := hz 9 _ rfl; have f9 := hT2.free (css.length * 14 + 9); have z10 := hz 10 _ rfl; have f10 := hT2.free (css.length * 14 + 10); have z11 := hz 11 _ rfl; have f11 := hT2.free (css.length * 14 + 11); have z12 := hz 12 _ rfl; have f12 := hT2.free (css.length * 14 + 12); have z13 := hz 13 _ rfl; have f13 := hT2.free (css.length * 14 + 13); simp only [Nat.add_zero] at z0 f0; clear hz)
  all_goals
    change Exit.then _ _ _ _ (w2.setCells b (css.length * 14) [Value.int .i64 j0, .int .i64 t, .int .i64 j2, .int .i64 j3, .int .i64 j4, .int .i64 j5, .int .i64 j6, .int .i64 j7, .int .i64 j8, .int .i64 j9, .string js, .slice jA jn jc, .int .i64 j12, .slice jD jm jd])
    have hq' : WfQ [Value.int .i64 j0, .int .i64 t, .int .i64 j2, .int .i64 j3, .int .i64 j4, .int .i64 j5, .int .i64 j6, .int .i64 j7, .int .i64 j8, .int .i64 j9, .string js, .slice jA jn jc, .int .i64 j12, .slice jD jm jd] t := ⟨_, _, _, _, _, _, _, _, _, _, _, _, _, _, _, _, _, rfl⟩
    generalize hcs' : [Value.int .i64 j0, .int .i64 t, .int .i64 j2, .int .i64 j3, .int .i64 j4, .int .i64 j5, .int .i64 j6, .int .i64 j7, .int .i64 j8, .int .i64 j9, .string js, .slice jA jn jc, .int .i64 j12, .slice jD jm jd] = cs' at hq' hR ⊢
    have hlen := hq'.len
    have hg3 := grown_setCells b cs' (css.length * 14) w2
    have hr3 := heap_setRange b 60 cs' (css.length * 14) (cellsT css most) w2 hT2.row
    have q3 : (w2.setCells b (css.length * 14) cs').cell? ⟨b, 112, none⟩ = some (.int .i64 css.length) := by
      rw [World.cell?_setCells_out b cs' (css.length * 14) w2 ⟨b, 112, none⟩ (fun _ _ => .inr (by show css.length * 14 + cs'.length ≤ 112; omega))]
      exact q1'
    have f33 : (w2.setCells b (css.length * 14) cs').frozen? ⟨b, 112, none⟩ = false := by
      rw [World.frozen?_setCells]
      exact hT2.free 112
    have HT2 : Aside (TagsIn w2 b most css) := hT2
    have HG3 : Aside (w2.grownBy (w2.setCells b (css.length * 14) cs') (some b)) := hg3
    have HR3 : Aside ((w2.setCells b (css.length * 14) cs').heap[b]? = some (.cells (setRange (cellsT css most) (css.length * 14) cs').toArray 60 (0, 0))) := hr3
    have HQ : Aside (WfQ cs' t ∧ R cs' w2 ∧ cs'.length = 14 ∧ Below w1.heap.size w1 w2) := ⟨hq', hR, hlen, hb12⟩
    generalize w2.setCells b (css.length * 14) cs' = W3 at *
    clear hT2 hg3 hr3 hq' hR hlen hb12 hb2 hcs' q1' q1 z0 z1 z2 z3 z4 z5 z6 z7 z8 z9 z10 z11 z12 z13 f0 f1 f2 f3 f4 f5 f6 f7 f8 f9 f10 f11 f12 f13
  all_goals
    go_wp2
    go_ret
    refine ⟨rfl, cs', w2, HQ.out.1, HQ.out.2.1, below_step HB1.out HQ.out.2.2.2, grown_trans HG3.out (grown_setCell _ _ _ _), ⟨?_, by simp; omega, ?_⟩⟩
    · rw [blk_set HR3.out, ← cellsT_put css most cs' hn8 HT2.out.lens HQ.out.2.2.1]
      simp
    · intro i hi
      by_cases hi' : i < css.length
      · rw [List.getElem_append_left hi']
        exact HT2.out.wf i hi'
      · have e : i = css.length := by simp at hi; omega
        subst e
        rw [List.getElem_append_right (Nat.le_refl _)]
        simp only [Nat.sub_self, List.getElem_cons_zero]
        rw [HQ.out.1.tagOf]
        exact HQ.out.1

end Go.Proofs.Ytenhnkldhodegaa.R
