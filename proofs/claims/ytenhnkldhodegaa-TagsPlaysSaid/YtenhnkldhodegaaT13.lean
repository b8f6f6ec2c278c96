import Derived.Test.YtenhnkldhodegaaT12
import Derived.Outline
import Derived.Shelf.Abstract
import Derived.Deep.LoopGhost
import Derived.Deep.Draws
import Derived.Laws.EntriesVeiled
import Derived.Laws.ResultCell
import Derived.Laws.Rows
import Derived.Deep.QuietTactic
import Derived.Deep.RegionWith
import Derived.BigQuiet
import Derived.Deep.MidRow
import Derived.Laws.Tables
import Derived.Deep.WholeRow
import Derived.Lib.SliceRun
import Derived.LaidEql
import Derived.RowKitTokens
import Derived.Stop.Asserts
import Derived.Laws.CopyRow
namespace Go.Proofs.Ytenhnkldhodegaa.R
open Go.RowKit Go.Proofs.YtenhnkldhodegaaW.PrintWords Go.Proofs.YtenhnkldhodegaaW.PrintLast Go.Proofs.YtenhnkldhodegaaW.PrintMore
attribute [local go_sem] max2_int min2_int max_two min_two max_three min_three max_four min_four   -- for this text's walks alone
set_option linter.unusedVariables false
set_option linter.unusedSimpArgs false
set_option maxRecDepth 100000 in
set_option maxHeartbeats 8000000 in
theorem pick_ok (b k : Nat) (most : Int) (css : List (List Value)) (w : World) (hT : TagsIn w b most css) (hk : k < css.length) : Calls Try.prog 13 #[.pointer (some ⟨b, 0, none⟩), .int .i64 k] w fun e w' => e = .returned (.tuple #[.agg (css[k]).toArray, .int .i64 0]) ∧ w.grownBy w' (some b) ∧ TagsIn w' b most (css.eraseIdx k) := by
  have hlt := hT.lt
  have hn := hT.num
  have hu := Try.underlying32
  have h8 := hT.le8
  obtain ⟨p, hp⟩ : ∃ p : Nat, css.length = p + 1 := ⟨css.length - 1, by omega⟩
  have HP : Aside (css.length = p + 1) := hp
  clear hp
  have hki : (k : Int) < css.length := by omega
  have hk0 : (0 : Int) ≤ k := by omega
  have hk8 : (k : Int) < 8 := by omega
  have l2 := hT.range k hk
  have HT : Aside (TagsIn w b most css) := hT
  have hwf := hT.wf k hk
  generalize hck : css[k] = ck at l2 hwf ⊢
  have HCK : Aside (css[k] = ck) := hck
  clear hT hck
  generalize tagOf ck = tk at hwf
  obtain ⟨i0, i2, i3, i4, i5, i6, i7, i8, i9, s, A, n, c, i12, D, m, d, rfl⟩ := hwf
  have c0 := l2 0 _ rfl
  have c1 := l2 1 _ rfl
  have c2 := l2 2 _ rfl
  have c3 := l2 3 _ rfl
  have c4 := l2 4 _ rfl
  have c5 := l2 5 _ rfl
  have c6 := l2 6 _ rfl
  have c7 := l2 7 _ rfl
  have c8 := l2 8 _ rfl
  have c9 := l2 9 _ rfl
  have c10 := l2 10 _ rfl
  have c11 := l2 11 _ rfl
  have c12 := l2 12 _ rfl
  have c13 := l2 13 _ rfl
  simp only [Nat.add_zero] at c0
  clear l2
  go_enter Try.func13, Try.ntmps13
  go_wp2
  have hB1 : Below w.heap.size w ((w.alloc (Obj.cells #[Value.int .i64 0, Value.int .i64 0, Value.int .i64 0, Value.int .i64 0, Value.int .i64 0, Value.int .i64 0, Value.int .i64 0, Value.int .i64 0, Value.int .i64 0, Value.int .i64 0, Value.string ⟨#[]⟩, Value.slice none 0 0, Value.int .i64 0, Value.slice none 0 0] 32)).alloc (Obj.cells #[Value.int .i64 i0, Value.int .i64 tk, Value.int .i64 i2, Value.int .i64 i3, Value.int .i64 i4, Value.int .i64 i5, Value.int .i64 i6, Value.int .i64 i7, Value.int .i64 i8, Value.int .i64 i9, Value.string s, Value.slice A n c, Value.int .i64 i12, Value.slice D m d] 32)) := below_alloc (below_alloc (Below.refl _ _) _) _
  have hz1 : ((w.alloc (Obj.cells #[Value.int .i64 0, Value.int .i64 0, Value.int .i64 0, Value.int .i64 0, Value.int .i64 0, Value.int .i64 0, Value.int .i64 0, Value.int .i64 0, Value.int .i64 0, Value.int .i64 0, Value.string ⟨#[]⟩, Value.slice none 0 0, Value.int .i64 0, Value.slice none 0 0] 32)).alloc (Obj.cells #[Value.int .i64 i0, Value.int .i64 tk, Value.int .i64 i2, Value.int .i64 i3, Value.int .i64 i4, Value.int .i64 i5, Value.int .i64 i6, Value.int .i64 i7, Value.int .i64 i8, Value.int .i64 i9, Value.string s, Value.slice A n c, Value.int .i64 i12, Value.slice D m d] 32)).heap[w.heap.size]? = some (.cells #[Value.int .i64 0, Value.int .i64 0, Value.int .i64 0, Value.int .i64 0, Value.int .i64 0, Value.int .i64 0, Value.int .i64 0, Value.int .i64 0, Value.int .i64 0, Value.int .i64 0, Value.string ⟨#[]⟩, Value.slice none 0 0, Value.int .i64 0, Value.slice none 0 0] 32 (0, 0)) := by
    rw [heap_push, if_neg (by simp), heap_push, if_pos rfl]
  have hc1 : ((w.alloc (Obj.cells #[Value.int .i64 0, Value.int .i64 0, Value.int .i64 0, Value.int .i64 0, Value.int .i64 0, Value.int .i64 0, Value.int .i64 0, Value.int .i64 0, Value.int .i64 0, Value.int .i64 0, Value.string ⟨#[]⟩, Value.slice none 0 0, Value.int .i64 0, Value.slice none 0 0] 32)).alloc (Obj.cells #[Value.int .i64 i0, Value.int .i64 tk, Value.int .i64 i2, Value.int .i64 i3, Value.int .i64 i4, Value.int .i64 i5, Value.int .i64 i6, Value.int .i64 i7, Value.int .i64 i8, Value.int .i64 i9, Value.string s, Value.slice A n c, Value.int .i64 i12, Value.slice D m d] 32)).heap[w.heap.size + 1]? = some (.cells #[Value.int .i64 i0, Value.int .i64 tk, Value.int .i64 i2, Value.int .i64 i3, Value.int .i64 i4, Value.int .i64 i5, Value.int .i64 i6, Value.int .i64 i7, Value.int .i64 i8, Value.int .i64 i9, Value.string s, Value.slice A n c, Value.int .i64 i12, Value.slice D m d] 32 (0, 0)) := by
    rw [heap_push, if_pos (by simp)]
  generalize ((w.alloc (Obj.cells #[Value.int .i64 0, Value.int .i64 0, Value.int .i64 0, Value.int .i64 0, Value.int .i64 0, Value.int .i64 0, Value.int .i64 0, Value.int .i64 0, Value.int .i64 0, Value.int .i64 0, Value.string ⟨#[]⟩, Value.slice none 0 0, Value.int .i64 0, Value.slice none 0 0] 32)).alloc (Obj.cells #[Value.int .i64 i0, Value.int .i64 tk, Value.int .i64 i2, Value.int .i64 i3, Value.int .i64 i4, Value.int .i64 i5, Value.int .i64 i6, Value.int .i64 i7, Value.int .i64 i8, Value.int .i64 i9, Value.string s, Value.slice A n c, Value.int .i64 i12, Value.slice D m d] 32)) = W1 at *
  have hT1 := HT.out.below hB1
  have HB1 : Aside (Below w.heap.size w W1) := hB1
  have HZ1 : Aside (W1.heap[w.heap.size]? = some (.cells #[Value.int .i64 0, Value.int .i64 0, Value.int .i64 0, Value.int .i64 0, Value.int .i64 0, Value.int .i64 0, Value.int .i64 0, Value.int .i64 0, Value.int .i64 0, Value.int .i64 0, Value.string ⟨#[]⟩, Value.slice none 0 0, Value.int .i64 0, Value.slice none 0 0] 32 (0, 0))) := hz1
  have HC1 : Aside (W1.heap[w.heap.size + 1]? = some (.cells #[Value.int .i64 i0, Value.int .i64 tk, Value.int .i64 i2, Value.int .i64 i3, Value.int .i64 i4, Value.int .i64 i5, Value.int .i64 i6, Value.int .i64 i7, Value.int .i64 i8, Value.int .i64 i9, Value.string s, Value.slice A n c, Value.int .i64 i12, Value.slice D m d] 32 (0, 0))) := hc1
  have hn1 := hT1.num
  have HT1 : Aside (TagsIn W1 b most css) := hT1
  clear hB1 hz1 hc1 hT1 c0 c1 c2 c3 c4 c5 c6 c7 c8 c9 c10 c11 c12 c13 hn
  obtain ⟨o2, ho2, hs2⟩ := slice_part W1 b k css.length hk h8
  have hs1 := fun W => slice_from W b k (by omega)
  have hk1w : wrap64 ((k : Int) + 1) = (k : Int) + 1 := by unfold wrap64; omega
  have hlen : ((css.drop (k + 1)).flatten).length = (css.length - (k + 1)) * 14 := by
    rw [flat_length _ (fun c hc => HT.out.lens c (List.mem_of_mem_drop hc)), List.length_drop]
  have hcl : (cellsT css most).length = 114 := by
    unfold cellsT
    rw [List.length_append, flat_length _ (rows8_len css HT.out.lens), rows8_length css h8]
    rfl
  have hcp : (Builtin.copy_ #[40, 40] 3 #[.slice (some ⟨b, k * 14, none⟩) (8 - k) (8 - k), .slice (some ⟨b, o2, none⟩) (css.length - (k + 1)) (7 - k)]).run Try.prog W1.drew = .ok (goInt ((css.length - (k + 1) : Nat) : Int)) (W1.drew.setRow b (copied css most k).toArray) := by
    refine run_copy_rows W1.drew 40 40 3 32 14 (css.length - (k + 1)) b (k * 14) (8 - k) (8 - k) ⟨b, o2, none⟩ (css.length - (k + 1)) (7 - k) (cellsT css most).toArray 60 (css.drop (k + 1)).flatten Try.underlying40 (by kernel_rfl) HT1.out.row (Nat.min_eq_left (by omega)) hlen ?_ (by rw [hlen]; simp only [List.size_toArray]; rw [hcl]; omega) ?_
    · intro j v hj
      have hjl : j < ((css.drop (k + 1)).flatten).length := (List.getElem?_eq_some_iff.1 hj).1
      rw [hlen] at hjl
      have ho := ho2 (by omega)
      have hq : j / 14 < (css.drop (k + 1)).length := by rw [List.length_drop]; omega
      have e : j = j / 14 * 14 + j % 14 := by omega
      have hg := flat_get (css.drop (k + 1)) (fun c hc => HT.out.lens c (List.mem_of_mem_drop hc)) (j / 14) (j % 14) hq (by omega)
      rw [← e, hj, List.getElem_drop] at hg
      have hr := HT1.out.range (k + 1 + j / 14) (by omega) (j % 14) v hg.symm
      rw [Addr.add_mid]
      have e2 : o2 + j = (k + 1 + j / 14) * 14 + j % 14 := by omega
      rw [e2]
      exact hr
    · intro v hv
      obtain ⟨c, hc, hv⟩ := List.mem_flatten.1 hv
      obtain ⟨i, hi, rfl⟩ := List.mem_iff_getElem.1 (List.mem_of_mem_drop hc)
      obtain ⟨j0, j2, j3, j4, j5, j6, j7, j8, j9, js, jA, jn, jc, j12, jD, jm, jd, e⟩ := HT.out.wf i hi
      rw [e] at hv
      simp only [List.mem_cons, List.not_mem_nil, or_false] at hv
      rcases hv with rfl | rfl | rfl | rfl | rfl | rfl | rfl | rfl | rfl | rfl | rfl | rfl | rfl | rfl <;> rfl
  clear hlen hcl ho2
  have hcn := copied_num css most k p HP.out hk h8 HT.out.lens
  have hpe := picked_eq css most k p HP.out hk h8 HT.out.lens
  have hr2 : (W1.drew.setRow b (copied css most k).toArray).heap[b]? = some (.cells (copied css most k).toArray 60 (0, 0)) := setRow_heap W1.drew b _ _ _ _ HT1.out.row
  have hg2 : W1.grownBy (W1.drew.setRow b (copied css most k).toArray) (some b) := grown_trans (grown_of_below (below_drew (Below.refl _ _)) _) (grown_setRow _ _ _)
  have HR2 : Aside ((W1.drew.setRow b (copied css most k).toArray).heap[b]? = some (.cells (copied css most k).toArray 60 (0, 0))) := hr2
  have HG2 : Aside (W1.grownBy (W1.drew.setRow b (copied css most k).toArray) (some b)) := hg2
  have q2 : (W1.drew.setRow b (copied css most k).toArray).cell? ⟨b, 112, none⟩ = some (.int .i64 ((p : Int) + 1)) := by
    rw [cell_of_row _ _ _ _ _ _ hr2]
    simpa using hcn.1
  have f2 : (W1.drew.setRow b (copied css most k).toArray).frozen? ⟨b, 112, none⟩ = false := blk_frozen hr2 _
  have HCN : Aside (∀ (v : Value) (j : Nat), j < 14 → ∃ u, ((copied css most k).set 112 v)[p * 14 + j]? = some u) := hcn.2
  have HPE : Aside (setRange ((copied css most k).set 112 (.int .i64 p)) (p * 14) zq = cellsT (css.eraseIdx k) most) := hpe
  clear hcn hpe hr2 hg2
  have hp8 : p < 8 := by have := HP.out; omega
  have hp8i : (p : Int) < 8 := by omega
  have hp0 : (0 : Int) ≤ p := by omega
  go_region
  all_goals
    clear hcp hs1 hs2 hn1
    generalize W1.drew.setRow b (copied css most k).toArray = W2 at *
    go_wp2
    have hr3 : (W2.setCell ⟨b, 112, none⟩ (.int .i64 p)).heap[b]? = some (.cells ((copied css most k).set 112 (.int .i64 p)).toArray 60 (0, 0)) := by rw [blk_set HR2.out]; simp
    have HR3 : Aside ((W2.setCell ⟨b, 112, none⟩ (.int .i64 p)).heap[b]? = some (.cells ((copied css most k).set 112 (.int .i64 p)).toArray 60 (0, 0))) := hr3
    have HG3 : Aside (W1.grownBy (W2.setCell ⟨b, 112, none⟩ (.int .i64 p)) (some b)) := grown_trans HG2.out (grown_setCell _ _ _ _)
    have q3 : (W2.setCell ⟨b, 112, none⟩ (.int .i64 p)).cell? ⟨b, 112, none⟩ = some (.int .i64 p) := World.cell?_setCell_same _ _ _ q2
    have hx : ∀ j, j < 14 → ∃ u, (W2.setCell ⟨b, 112, none⟩ (.int .i64 p)).cell? ⟨b, p * 14 + j, none⟩ = some u := fun j hj => by
      obtain ⟨u, hu⟩ := HCN.out (.int .i64 p) j hj
      exact ⟨u, by rw [cell_of_row _ _ _ _ _ _ hr3]; simpa using hu⟩
    clear hr3
    generalize W2.setCell ⟨b, 112, none⟩ (.int .i64 p) = W3 at *
    obtain ⟨x0, y0⟩ := hx 0 (by omega)
    obtain ⟨x1, y1⟩ := hx 1 (by omega)
    obtain ⟨x2, y2⟩ := hx 2 (by omega)
    obtain ⟨x3, y3⟩ := hx 3 (by omega)
    obtain ⟨x4, y4⟩ := hx 4 (by omega)
    obtain ⟨x5, y5⟩ := hx 5 (by omega)
    obtain ⟨x6, y6⟩ := hx 6 (by omega)
    obtain ⟨x7, y7⟩ := hx 7 (by omega)
    obtain ⟨x8, y8⟩ := hx 8 (by omega)
    obtain ⟨x9, y9⟩ := hx 9 (by omega)
    obtain ⟨x10, y10⟩ := hx 10 (by omega)
    obtain ⟨x11, y11⟩ := hx 11 (by omega)
    obtain ⟨x12, y12⟩ := hx 12 (by omega)
    obtain ⟨x13, y13⟩ := hx 13 (by omega)
    have fr0 : W3.frozen? ⟨b, p * 14 + 0, none⟩ = false := blk_frozen HR3.out _
    have fr1 : W3.frozen? ⟨b, p * 14 + 1, none⟩ = false := blk_frozen HR3.out _
    have fr2 : W3.frozen? ⟨b, p * 14 + 2, none⟩ = false := blk_frozen HR3.out _
    have fr3 : W3.frozen? ⟨b, p * 14 + 3, none⟩ = false := blk_frozen HR3.out _
    have fr4 : W3.frozen? ⟨b, p * 14 + 4, none⟩ = false := blk_frozen HR3.out _
    have fr5 : W3.frozen? ⟨b, p * 14 + 5, none⟩ = false := blk_frozen HR3.out _
    have fr6 : W3.frozen? ⟨b, p * 14 + 6, none⟩ = false := blk_frozen HR3.out _
    have fr7 : W3.frozen? ⟨b, p * 14 + 7, none⟩ = false := blk_frozen HR3.out _
    have fr8 : W3.frozen? ⟨b, p * 14 + 8, none⟩ = false := blk_frozen HR3.out _
    have fr9 : W3.frozen? ⟨b, p * 14 + 9, none⟩ = false := blk_frozen HR3.out _
    have fr10 : W3.frozen? ⟨b, p * 14 + 10, none⟩ = false := blk_frozen HR3.out _
    have fr11 : W3.frozen? ⟨b, p * 14 + 11, none⟩ = false := blk_frozen HR3.out _
    have fr12 : W3.frozen? ⟨b, p * 14 + 12, none⟩ = false := blk_frozen HR3.out _
    have fr13 : W3.frozen? ⟨b, p * 14 + 13, none⟩ = false := blk_frozen HR3.out _
    simp only [Nat.add_zero] at y0 fr0
    clear hx q2 f2
    go_region
    all_goals
      clear y0 fr0 y1 fr1 y2 fr2 y3 fr3 y4 fr4 y5 fr5 y6 fr6 y7 fr7 y8 fr8 y9 fr9 y10 fr10 y11 fr11 y12 fr12 y13 fr13 q3
      change Exit.then _ _ _ _ ((W3.setCells b (p * 14) zq).drew)
      have hr4 := heap_setRange b 60 zq (p * 14) _ W3 HR3.out
      rw [HPE.out] at hr4
      have hg4 : W1.grownBy (W3.setCells b (p * 14) zq) (some b) := grown_trans HG3.out (grown_setCells b zq (p * 14) W3)
      generalize W3.setCells b (p * 14) zq = V at *
      have HR4 : Aside (V.drew.heap[b]? = some (.cells (cellsT (css.eraseIdx k) most).toArray 60 (0, 0))) := hr4
      have hgd : W1.grownBy V.drew (some b) := grown_trans hg4 (grown_of_below (below_drew (Below.refl _ _)) _)
      have HG4 : Aside (W1.grownBy V.drew (some b)) := hgd
      have hz4 := block_of hgd HZ1.out (by omega)
      have hc4 := block_of hgd HC1.out (by omega)
      clear hr4 hg4 hgd
      generalize V.drew = W4 at *
  all_goals
    have c0 := blk_cell hc4 0
    have z0 := blk_cell hz4 0
    have g0 := blk_frozen hz4 0
    have c1 := blk_cell hc4 1
    have z1 := blk_cell hz4 1
    have g1 := blk_frozen hz4 1
    have c2 := blk_cell hc4 2
    have z2 := blk_cell hz4 2
    have g2 := blk_frozen hz4 2
    have c3 := blk_cell hc4 3
    have z3 := blk_cell hz4 3
    have g3 := blk_frozen hz4 3
    have c4 := blk_cell hc4 4
    have z4 := blk_cell hz4 4
    have g4 := blk_frozen hz4 4
    have c5 := blk_cell hc4 5
    have z5 := blk_cell hz4 5
    have g5 := blk_frozen hz4 5
    have c6 := blk_cell hc4 6
    have z6 := blk_cell hz4 6
    have g6 := blk_frozen hz4 6
    have c7 := blk_cell hc4 7
    have z7 := blk_cell hz4 7
    have g7 := blk_frozen hz4 7
    have c8 := blk_cell hc4 8
    have z8 := blk_cell hz4 8
    have g8 := blk_frozen hz4 8
    have c9 := blk_cell hc4 9
    have z9 := blk_cell hz4 9
    have g9 := blk_frozen hz4 9
    have c10 := blk_cell hc4 10
    have z10 := blk_cell hz4 10
    have g10 := blk_frozen hz4 10
    have c11 := blk_cell hc4 11
    have z11 := blk_cell hz4 11
    have g11 := blk_frozen hz4 11
    have c12 := blk_cell hc4 12
    have z12 := blk_cell hz4 12
    have g12 := blk_frozen hz4 12
    have c13 := blk_cell hc4 13
    have z13 := blk_cell hz4 13
    have g13 := blk_frozen hz4 13
    have HZ4 : Aside (W4.heap[w.heap.size]? = _) := hz4
    clear hz4 hc4
    go_wp2
    change bodyPost _ _ _ _ _ (W4.setCells w.heap.size 0 [Value.int .i64 i0, Value.int .i64 tk, Value.int .i64 i2, Value.int .i64 i3, Value.int .i64 i4, Value.int .i64 i5, Value.int .i64 i6, Value.int .i64 i7, Value.int .i64 i8, Value.int .i64 i9, Value.string s, Value.slice A n c, Value.int .i64 i12, Value.slice D m d])
    have hr5 := heap_setRange w.heap.size 32 [Value.int .i64 i0, Value.int .i64 tk, Value.int .i64 i2, Value.int .i64 i3, Value.int .i64 i4, Value.int .i64 i5, Value.int .i64 i6, Value.int .i64 i7, Value.int .i64 i8, Value.int .i64 i9, Value.string s, Value.slice A n c, Value.int .i64 i12, Value.slice D m d] 0 zq W4 HZ4.out
    have hg5 : w.grownBy (W4.setCells w.heap.size 0 [Value.int .i64 i0, Value.int .i64 tk, Value.int .i64 i2, Value.int .i64 i3, Value.int .i64 i4, Value.int .i64 i5, Value.int .i64 i6, Value.int .i64 i7, Value.int .i64 i8, Value.int .i64 i9, Value.string s, Value.slice A n c, Value.int .i64 i12, Value.slice D m d]) (some b) := grown_news (Nat.le_refl _) _ _ (grown_trans (grown_of_below HB1.out _) HG4.out)
    have hb5 : (W4.setCells w.heap.size 0 [Value.int .i64 i0, Value.int .i64 tk, Value.int .i64 i2, Value.int .i64 i3, Value.int .i64 i4, Value.int .i64 i5, Value.int .i64 i6, Value.int .i64 i7, Value.int .i64 i8, Value.int .i64 i9, Value.string s, Value.slice A n c, Value.int .i64 i12, Value.slice D m d]).heap[b]? = some (.cells (cellsT (css.eraseIdx k) most).toArray 60 (0, 0)) :=
      block_of (grown_setCells w.heap.size [Value.int .i64 i0, Value.int .i64 tk, Value.int .i64 i2, Value.int .i64 i3, Value.int .i64 i4, Value.int .i64 i5, Value.int .i64 i6, Value.int .i64 i7, Value.int .i64 i8, Value.int .i64 i9, Value.string s, Value.slice A n c, Value.int .i64 i12, Value.slice D m d] 0 W4) HR4.out (by omega)
    generalize W4.setCells w.heap.size 0 [Value.int .i64 i0, Value.int .i64 tk, Value.int .i64 i2, Value.int .i64 i3, Value.int .i64 i4, Value.int .i64 i5, Value.int .i64 i6, Value.int .i64 i7, Value.int .i64 i8, Value.int .i64 i9, Value.string s, Value.slice A n c, Value.int .i64 i12, Value.slice D m d] = W5 at *
    refine bodyPost_ret_by (v := .tuple #[.agg [Value.int .i64 i0, Value.int .i64 tk, Value.int .i64 i2, Value.int .i64 i3, Value.int .i64 i4, Value.int .i64 i5, Value.int .i64 i6, Value.int .i64 i7, Value.int .i64 i8, Value.int .i64 i9, Value.string s, Value.slice A n c, Value.int .i64 i12, Value.slice D m d].toArray, .int .i64 0]) (ret_ask2 (p := 4) (u := 5) rfl _ _ w.heap.size [Value.int .i64 i0, Value.int .i64 tk, Value.int .i64 i2, Value.int .i64 i3, Value.int .i64 i4, Value.int .i64 i5, Value.int .i64 i6, Value.int .i64 i7, Value.int .i64 i8, Value.int .i64 i9, Value.string s, Value.slice A n c, Value.int .i64 i12, Value.slice D m d] rfl rfl hr5) rfl ⟨rfl, hg5, hb5, ?_, ?_⟩
    · have := List.length_eraseIdx_le css k
      omega
    · intro i hi
      have hm := List.mem_of_mem_eraseIdx (List.getElem_mem hi)
      obtain ⟨j, hj, e⟩ := List.mem_iff_getElem.1 hm
      rw [← e]
      exact HT.out.wf j hj

end Go.Proofs.Ytenhnkldhodegaa.R
