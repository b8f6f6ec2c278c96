import Derived.Test.YtenhnkldhodegaaT16
import Derived.Outline
import Derived.Shelf.Abstract
import Derived.Deep.LoopGhost
import Derived.Deep.Draws
import Derived.Laws.EntriesVeiled
import Derived.Laws.ResultCell
import Derived.Laws.Rows
import Derived.Deep.QuietTactic
import Derived.Deep.RegionWith
import Derived.BigQuiet
import Derived.Deep.MidRow
import Derived.Laws.Tables
import Derived.Deep.WholeRow
import Derived.Lib.SliceRun
import Derived.LaidEql
import Derived.RowKitTokens
import Derived.Stop.Asserts
import Derived.Laws.CopyRow
namespace Go.Proofs.Ytenhnkldhodegaa.R
open Go.RowKit Go.Proofs.YtenhnkldhodegaaW.PrintWords Go.Proofs.YtenhnkldhodegaaW.PrintLast Go.Proofs.YtenhnkldhodegaaW.PrintMore
attribute [local go_sem] max2_int min2_int max_two min_two max_three min_three max_four min_four   -- for this text's walks alone
set_option linter.unusedVariables false
set_option linter.unusedSimpArgs false
set_option maxRecDepth 100000 in
set_option maxHeartbeats 8000000 in
theorem own_ok (i0 t i2 i3 i4 i5 i6 i7 i8 i9 : Int) (s : ByteArray) (A : Option Addr) (c : Nat) (ns : List ByteArray) (i12 : Int) (D : Option Addr) (d : Nat) (bs : List Int) (w : World) (hN : Kd.C Kd.string w A ns.length ns) (hB : Kd.C (Kd.int .u8) w D bs.length bs) (hnl : ns.length ≤ 1000) (hbl : bs.length ≤ 1000000) :
    Calls Try.prog 24 #[.agg #[.int .i64 i0, .int .i64 t, .int .i64 i2, .int .i64 i3, .int .i64 i4, .int .i64 i5, .int .i64 i6, .int .i64 i7, .int .i64 i8, .int .i64 i9, .string s, .slice A ns.length c, .int .i64 i12, .slice D bs.length d]] w fun e w' => ∃ A' c' D' d', e = .returned (.agg #[.int .i64 i0, .int .i64 t, .int .i64 i2, .int .i64 i3, .int .i64 i4, .int .i64 i5, .int .i64 i6, .int .i64 i7, .int .i64 i8, .int .i64 i9, .string s, .slice A' ns.length c', .int .i64 i12, .slice D' bs.length d']) ∧ Kd.R Kd.string 9 w' w.heap.size (fun _ => True) (.slice A' ns.length c') ns ∧ Kd.R (Kd.int .u8) 5 w' w.heap.size (fun _ => True) (.slice D' bs.length d') bs ∧ Below w.heap.size w w' := by
  have hu := Try.underlying32
  have h1 : ∀ W, Below w.heap.size w W → Calls Try.prog 34 #[.slice A ns.length c] W fun e w' => ∃ v, e = .returned v ∧ Kd.R Kd.string 9 w' W.heap.size (fun _ => True) v ns ∧ Below W.heap.size W w' := fun W hW => clone_strs A c ns W (Kd.C_below hN hW) hnl
  have h2 : ∀ W, Below w.heap.size w W → Calls Try.prog 35 #[.slice D bs.length d] W fun e w' => ∃ v, e = .returned v ∧ Kd.R (Kd.int .u8) 5 w' W.heap.size (fun _ => True) v bs ∧ Below W.heap.size W w' := fun W hW => clone_bytes D d bs W (Kd.C_below hB hW) hbl
  clear hN hB
  go_enter Try.func24, Try.ntmps24
  go_wp2
  have hbA : Below w.heap.size w ((w.alloc (.cells #[.int .i64 i0, .int .i64 t, .int .i64 i2, .int .i64 i3, .int .i64 i4, .int .i64 i5, .int .i64 i6, .int .i64 i7, .int .i64 i8, .int .i64 i9, .string s, .slice A ns.length c, .int .i64 i12, .slice D bs.length d] 32)).alloc (.cells #[.int .i64 0, .int .i64 0, .int .i64 0, .int .i64 0, .int .i64 0, .int .i64 0, .int .i64 0, .int .i64 0, .int .i64 0, .int .i64 0, .string ⟨#[]⟩, .slice none 0 0, .int .i64 0, .slice none 0 0] 32)).drew := below_drew (below_alloc (below_alloc (Below.refl _ _) _) _)
  have hx1 : ((w.alloc (.cells #[.int .i64 i0, .int .i64 t, .int .i64 i2, .int .i64 i3, .int .i64 i4, .int .i64 i5, .int .i64 i6, .int .i64 i7, .int .i64 i8, .int .i64 i9, .string s, .slice A ns.length c, .int .i64 i12, .slice D bs.length d] 32)).alloc (.cells #[.int .i64 0, .int .i64 0, .int .i64 0, .int .i64 0, .int .i64 0, .int .i64 0, .int .i64 0, .int .i64 0, .int .i64 0, .int .i64 0, .string ⟨#[]⟩, .slice none 0 0, .int .i64 0, .slice none 0 0] 32)).drew.heap[w.heap.size]? = some (.cells #[.int .i64 i0, .int .i64 t, .int .i64 i2, .int .i64 i3, .int .i64 i4, .int .i64 i5, .int .i64 i6, .int .i64 i7, .int .i64 i8, .int .i64 i9, .string s, .slice A ns.length c, .int .i64 i12, .slice D bs.length d] 32 (0, 0)) := by
    show ((w.alloc _).alloc _).heap[w.heap.size]? = _
    rw [heap_push, if_neg (by simp), heap_push, if_pos rfl]
  have hy1 := heap_two w (.cells #[.int .i64 i0, .int .i64 t, .int .i64 i2, .int .i64 i3, .int .i64 i4, .int .i64 i5, .int .i64 i6, .int .i64 i7, .int .i64 i8, .int .i64 i9, .string s, .slice A ns.length c, .int .i64 i12, .slice D bs.length d] 32) (.cells #[.int .i64 0, .int .i64 0, .int .i64 0, .int .i64 0, .int .i64 0, .int .i64 0, .int .i64 0, .int .i64 0, .int .i64 0, .int .i64 0, .string ⟨#[]⟩, .slice none 0 0, .int .i64 0, .slice none 0 0] 32)
  have HBA := Aside0.mk hbA
  have HX1 := Aside0.mk hx1
  have HY1 := Aside0.mk hy1
  clear hbA hx1 hy1
  go_region_with (first
    | (go_at_call 34; refine (h1 _ HBA.out).mono ?_; rintro e w1 ⟨v, rfl, hR1, hb1⟩; obtain ⟨A', c', rfl, -, -⟩ := Kd.R_reads hR1; have hx2 := (hb1.block _ (Array.getElem?_eq_some_iff.1 HX1.out).1).trans HX1.out; have q13 := blk_cell hx2 13)
    | (go_at_call 35; refine (h2 _ (below_step HBA.out hb1)).mono ?_; rintro e w2 ⟨v, rfl, hR2, hb2⟩; obtain ⟨D', d', rfl, -, -⟩ := Kd.R_reads hR2; have hx3 := (hb2.block _ (Array.getElem?_eq_some_iff.1 hx2).1).trans hx2; have p11 := blk_cell hx3 11; have p13 := blk_cell hx3 13; have g11 := blk_frozen hx3 11; have g13 := blk_frozen hx3 13))
  all_goals
    have hsz : ((w.alloc (.cells #[.int .i64 i0, .int .i64 t, .int .i64 i2, .int .i64 i3, .int .i64 i4, .int .i64 i5, .int .i64 i6, .int .i64 i7, .int .i64 i8, .int .i64 i9, .string s, .slice A ns.length c, .int .i64 i12, .slice D bs.length d] 32)).alloc (.cells #[.int .i64 0, .int .i64 0, .int .i64 0, .int .i64 0, .int .i64 0, .int .i64 0, .int .i64 0, .int .i64 0, .int .i64 0, .int .i64 0, .string ⟨#[]⟩, .slice none 0 0, .int .i64 0, .slice none 0 0] 32)).drew.heap.size = w.heap.size + 2 := by
      show ((w.alloc _).alloc _).heap.size = _
      simp
    have hy3 := (hb2.block _ (Array.getElem?_eq_some_iff.1 ((hb1.block _ (Array.getElem?_eq_some_iff.1 HY1.out).1).trans HY1.out)).1).trans ((hb1.block _ (Array.getElem?_eq_some_iff.1 HY1.out).1).trans HY1.out)
    have hs1 := hb1.size
    have hR1' := Kd.R_mono (Kd.R_bound (Kd.R_below hR1 hb2)) (ok' := fun k => w.heap.size + 2 ≤ k) (fun k hk => by have := hk.2.1; omega)
    have hR2' := Kd.R_mono (Kd.R_bound hR2) (ok' := fun k => w.heap.size + 2 ≤ k) (fun k hk => by have := hk.2.1; omega)
    have hbw2 : Below w.heap.size w w2 := below_step (below_step HBA.out hb1) hb2
    have hR1w := Kd.R_lower hR1' (base' := w.heap.size) (by omega)
    have hR2w := Kd.R_lower hR2' (base' := w.heap.size) (by omega)
    clear hR1 hR2 hR1' hR2'
    have hx4 : ((w2.setCell ⟨w.heap.size, 11, none⟩ (.slice A' ns.length c')).setCell ⟨w.heap.size, 13, none⟩ (.slice D' bs.length d')).heap[w.heap.size]? = some (.cells #[.int .i64 i0, .int .i64 t, .int .i64 i2, .int .i64 i3, .int .i64 i4, .int .i64 i5, .int .i64 i6, .int .i64 i7, .int .i64 i8, .int .i64 i9, .string s, .slice A' ns.length c', .int .i64 i12, .slice D' bs.length d'] 32 (0, 0)) := by
      rw [blk_set (blk_set hx3 _ _) _ _]; rfl
    have hy4 := blk_far (blk_far hy3 (p := ⟨w.heap.size, 11, none⟩) (by show w.heap.size + 1 ≠ w.heap.size; omega) (.slice A' ns.length c')) (p := ⟨w.heap.size, 13, none⟩) (by show w.heap.size + 1 ≠ w.heap.size; omega) (.slice D' bs.length d')
    have hb4 : Below w.heap.size w ((w2.setCell ⟨w.heap.size, 11, none⟩ (.slice A' ns.length c')).setCell ⟨w.heap.size, 13, none⟩ (.slice D' bs.length d')) := below_set (below_set hbw2 (Nat.le_refl _)) (Nat.le_refl _)
    have hR1z := Kd.R_far (Kd.R_far hR1w (p := ⟨w.heap.size, 11, none⟩) (fun k hk => by show k ≠ w.heap.size; omega) (.slice A' ns.length c')) (p := ⟨w.heap.size, 13, none⟩) (fun k hk => by show k ≠ w.heap.size; omega) (.slice D' bs.length d')
    have hR2z := Kd.R_far (Kd.R_far hR2w (p := ⟨w.heap.size, 11, none⟩) (fun k hk => by show k ≠ w.heap.size; omega) (.slice A' ns.length c')) (p := ⟨w.heap.size, 13, none⟩) (fun k hk => by show k ≠ w.heap.size; omega) (.slice D' bs.length d')
    clear hR1w hR2w hx2 hx3 hy3 hs1 hb1 hb2 hbw2 hsz h1 h2 p11 p13 g11 g13 q13
    generalize (w2.setCell ⟨w.heap.size, 11, none⟩ (.slice A' ns.length c')).setCell ⟨w.heap.size, 13, none⟩ (.slice D' bs.length d') = W3 at *
    have HB4 := Aside0.mk hb4
    have HR1 := Aside0.mk hR1z
    have HR2 := Aside0.mk hR2z
    have HY4 := Aside0.mk hy4
    have c0 := blk_cell hx4 0
    have z0 := blk_cell hy4 0
    have g0 := blk_frozen hy4 0
    have c1 := blk_cell hx4 1
    have z1 := blk_cell hy4 1
    have g1 := blk_frozen hy4 1
    have c2 := blk_cell hx4 2
    have z2 := blk_cell hy4 2
    have g2 := blk_frozen hy4 2
    have c3 := blk_cell hx4 3
    have z3 := blk_cell hy4 3
    have g3 := blk_frozen hy4 3
    have c4 := blk_cell hx4 4
    have z4 := blk_cell hy4 4
    have g4 := blk_frozen hy4 4
    have c5 := blk_cell hx4 5
    have z5 := blk_cell hy4 5
    have g5 := blk_frozen hy4 5
    have c6 := blk_cell hx4 6
    have z6 := blk_cell hy4 6
    have g6 := blk_frozen hy4 6
    have c7 := blk_cell hx4 7
    have z7 := blk_cell hy4 7
    have g7 := blk_frozen hy4 7
    have c8 := blk_cell hx4 8
    have z8 := blk_cell hy4 8
    have g8 := blk_frozen hy4 8
    have c9 := blk_cell hx4 9
    have z9 := blk_cell hy4 9
    have g9 := blk_frozen hy4 9
    have c10 := blk_cell hx4 10
    have z10 := blk_cell hy4 10
    have g10 := blk_frozen hy4 10
    have c11 := blk_cell hx4 11
    have z11 := blk_cell hy4 11
    have g11 := blk_frozen hy4 11
    have c12 := blk_cell hx4 12
    have z12 := blk_cell hy4 12
    have g12 := blk_frozen hy4 12
    have c13 := blk_cell hx4 13
    have z13 := blk_cell hy4 13
    have g13 := blk_frozen hy4 13
    clear hb4 hR1z hR2z hx4 hy4
    go_wp2
    change bodyPost _ _ _ _ _ (W3.setCells (w.heap.size + 1) 0 [Value.int .i64 i0, .int .i64 t, .int .i64 i2, .int .i64 i3, .int .i64 i4, .int .i64 i5, .int .i64 i6, .int .i64 i7, .int .i64 i8, .int .i64 i9, .string s, .slice A' ns.length c', .int .i64 i12, .slice D' bs.length d'])
    have hr5 := heap_setRange (w.heap.size + 1) 32 [Value.int .i64 i0, .int .i64 t, .int .i64 i2, .int .i64 i3, .int .i64 i4, .int .i64 i5, .int .i64 i6, .int .i64 i7, .int .i64 i8, .int .i64 i9, .string s, .slice A' ns.length c', .int .i64 i12, .slice D' bs.length d'] 0 zq W3 HY4.out
    have hg5 := grown_setCells (w.heap.size + 1) [Value.int .i64 i0, .int .i64 t, .int .i64 i2, .int .i64 i3, .int .i64 i4, .int .i64 i5, .int .i64 i6, .int .i64 i7, .int .i64 i8, .int .i64 i9, .string s, .slice A' ns.length c', .int .i64 i12, .slice D' bs.length d'] 0 W3
    have hb5 := pw_below_grown HB4.out _ HB4.out.size hg5 (fun k e => by cases e; omega)
    generalize W3.setCells (w.heap.size + 1) 0 [Value.int .i64 i0, .int .i64 t, .int .i64 i2, .int .i64 i3, .int .i64 i4, .int .i64 i5, .int .i64 i6, .int .i64 i7, .int .i64 i8, .int .i64 i9, .string s, .slice A' ns.length c', .int .i64 i12, .slice D' bs.length d'] = W5 at *
    refine bodyPost_ret_by (results_cell_row rfl _ _ (w.heap.size + 1) 32 _ _ _ rfl hr5 Try.underlying32 rfl (by kernel_rfl)) rfl ?_
    exact ⟨A', c', D', d', rfl, Kd.R_mono (Kd.R_grown HR1.out hg5 (fun k hk e => by cases e; omega)) (fun _ _ => trivial), Kd.R_mono (Kd.R_grown HR2.out hg5 (fun k hk e => by cases e; omega)) (fun _ _ => trivial), hb5⟩

end Go.Proofs.Ytenhnkldhodegaa.R
