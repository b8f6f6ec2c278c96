-- Printed for Ytbjmgmngomlmfaa by hprint.py, a program of this session over the kit's print.py, some functions taken from texts by hand.
import Derived.Test.YtbjmgmngomlmfaaRx0
import Derived.Test.YtbjmgmngomlmfaaRx2
namespace Go.Proofs.Ytbjmgmngomlmfaa.R
open Go.RowKit Go.Proofs.YtbjmgmngomlmfaaW.PrintWords Go.Proofs.YtbjmgmngomlmfaaW.PrintLast Go.Proofs.YtbjmgmngomlmfaaW.PrintMore
attribute [local go_sem] max2_int min2_int max_two min_two max_three min_three max_four min_four   -- for this text's walks alone
set_option linter.unusedVariables false
set_option linter.unusedSimpArgs false

/-! ### truchmanref10_Add: function 19 -/
mutual
def truchmanref10_Add.l0 : Nat → Int → Int → Int → List (S53) → Option (Int × (List (S53)) × Int × Int × Int)
  | 0, _, _, _, _ => none
  | k + 1, x1, x7, x122000, x122001 => (truchmanref10_taken.f k x122000 x122001 x7).bind fun t124 => (if t124 = true then (truchmanref10_Add.l0 k x1 (wrap64 (x7 + 1)) x122000 x122001) else (if x7 > x122000 then (some (x122000, x122001, 0, 0, 14)) else (truchmanref10_Add.l1 k x1 x7 1 0 x122000 x122001)))
def truchmanref10_Add.l1 : Nat → Int → Int → Int → Int → Int → List (S53) → Option (Int × (List (S53)) × Int × Int × Int)
  | 0, _, _, _, _, _, _ => none
  | k + 1, x1, x7, x8, x9, x122000, x122001 => if x9 < (x122001.length : Int) then (if 0 ≤ x9 then (if ((rd_T53 x122001 x9).f0.f0) = x7 then (truchmanref10_Add.l1 k x1 x7 (wrap64 (x8 + 1)) (wrap64 (x9 + 1)) x122000 x122001) else (truchmanref10_Add.l1 k x1 x7 x8 (wrap64 (x9 + 1)) x122000 x122001)) else (none)) else (if ([] : List (S53)).length + x122001.length < 4398046511104 then ((some (([] : List (S53)) ++ x122001 : List (S53))).bind fun y127 => (if y127.length < 4398046511104 then (some (x122000, (y127 ++ [(⟨(⟨x7, x8⟩ : S29), x1, true⟩ : S53)]), x7, x8, 0)) else (none))) else (none))
end
def truchmanref10_Add.f (k : Nat) (a0_0 : Int) (l0_1 : List (S53)) (a1 : Int) : Option (Int × (List (S53)) × Int × Int × Int) := truchmanref10_Add.l0 k a1 1 a0_0 l0_1
theorem truchmanref10_Add.mono_l : ∀ k, (∀ y0 y1 y2 y3, LeO (truchmanref10_Add.l0 k y0 y1 y2 y3) (truchmanref10_Add.l0 (k + 1) y0 y1 y2 y3)) ∧ (∀ y0 y1 y2 y3 y4 y5, LeO (truchmanref10_Add.l1 k y0 y1 y2 y3 y4 y5) (truchmanref10_Add.l1 (k + 1) y0 y1 y2 y3 y4 y5))
  | 0 => ⟨fun _ _ _ _ r h => by simp [truchmanref10_Add.l0] at h, fun _ _ _ _ _ _ r h => by simp [truchmanref10_Add.l1] at h⟩
  | k + 1 => by
    obtain ⟨ih0, ih1⟩ := truchmanref10_Add.mono_l k
    refine ⟨?_, ?_⟩
    · intro y0 y1 y2 y3
      unfold truchmanref10_Add.l0
      repeat' first
      | (with_reducible exact ih0 _ _ _ _)
      | (with_reducible exact ih1 _ _ _ _ _ _)
      | (with_reducible exact truchmanref10_taken.mono _ _ _ _)
      | (with_reducible exact LeO.refl _)
      | (with_reducible exact LeO.none _)
      | (with_reducible refine LeO.ite ?_ ?_)
      | (with_reducible refine LeO.bind ?_ (fun _ => ?_))
      | exact ih0 _ _ _ _
      | exact ih1 _ _ _ _ _ _
      | exact truchmanref10_taken.mono _ _ _ _
      | exact LeO.none _
      | refine LeO.ite ?_ ?_
      | refine LeO.bind ?_ (fun _ => ?_)
    · intro y0 y1 y2 y3 y4 y5
      unfold truchmanref10_Add.l1
      repeat' first
      | (with_reducible exact ih0 _ _ _ _)
      | (with_reducible exact ih1 _ _ _ _ _ _)
      | (with_reducible exact truchmanref10_taken.mono _ _ _ _)
      | (with_reducible exact LeO.refl _)
      | (with_reducible exact LeO.none _)
      | (with_reducible refine LeO.ite ?_ ?_)
      | (with_reducible refine LeO.bind ?_ (fun _ => ?_))
      | exact ih0 _ _ _ _
      | exact ih1 _ _ _ _ _ _
      | exact truchmanref10_taken.mono _ _ _ _
      | exact LeO.none _
      | refine LeO.ite ?_ ?_
      | refine LeO.bind ?_ (fun _ => ?_)
theorem truchmanref10_Add.mono : ∀ a0 a1 a2 k, LeO (truchmanref10_Add.f k a0 a1 a2) (truchmanref10_Add.f (k + 1) a0 a1 a2) := by
  intro a0 a1 a2 k
  obtain ⟨ih0, ih1⟩ := truchmanref10_Add.mono_l k
  unfold truchmanref10_Add.f
  repeat' first
      | (with_reducible exact ih0 _ _ _ _)
      | (with_reducible exact ih1 _ _ _ _ _ _)
      | (with_reducible exact truchmanref10_taken.mono _ _ _ _)
      | (with_reducible exact LeO.refl _)
      | (with_reducible exact LeO.none _)
      | (with_reducible refine LeO.ite ?_ ?_)
      | (with_reducible refine LeO.bind ?_ (fun _ => ?_))
      | exact ih0 _ _ _ _
      | exact ih1 _ _ _ _ _ _
      | exact truchmanref10_taken.mono _ _ _ _
      | exact LeO.none _
      | refine LeO.ite ?_ ?_
      | refine LeO.bind ?_ (fun _ => ?_)
set_option maxHeartbeats 8000000 in
set_option maxRecDepth 100000 in
theorem truchmanref10_Add.calls (k : Nat) (a0_0 : Int) (P0_1_ : Nat → Prop) (u9000_ : Value) (l0_1 : List (S53)) (a1 : Int) (r1 : Int) (r2 : List (S53)) (r3 : Int) (r4 : Int) (r5 : Int) (w0 w : World) (hB : Below w0.heap.size w0 w) (ho0_1 : Kd.R k53 53 w w0.heap.size P0_1_ u9000_ l0_1) (h : truchmanref10_Add.f k a0_0 l0_1 a1 = some (r1, r2, r3, r4, r5)) :
    Calls Try.prog 19 #[.agg #[.int .i64 a0_0, u9000_], .int .i64 a1] w fun e w' => ∃ v1_ : Value, e = .returned (.tuple #[.agg #[.int .i64 r1, v1_], .agg #[.int .i64 r3, .int .i64 r4], .int .i64 r5]) ∧ Kd.R k53 53 w' w0.heap.size (fun k_ => (P0_1_ k_ ∨ w.heap.size ≤ k_)) v1_ r2 ∧ Below w0.heap.size w0 w' ∧ Kept w w' (fun k_ => P0_1_ k_) := by
  have hu48 := Try.underlying48
  have hu29 := Try.underlying29
  have hu53 := Try.underlying53
  have HO0_1 := Aside0.mk (show Kd.R k53 53 w w0.heap.size (fun k_ => (P0_1_ k_ ∨ w.heap.size ≤ k_)) u9000_ l0_1 from Kd.R_mono ho0_1 (fun k_ hk => (.inl hk)))
  have HK := Aside0.mk (Kept.refl w (fun k_ => P0_1_ k_))
  have HW0 := Aside0.mk hB.size
  have HB := Aside0.mk hB
  clear hB
  have H : (truchmanref10_Add.l0 k a1 1 a0_0 l0_1) = some (r1, r2, r3, r4, r5) := h
  clear h
  have H' := Aside0.mk H
  clear H
  obtain ⟨Ao3, co3, eo3⟩ := Kd.R_slice HO0_1.out
  subst eo3
  go_enter Try.func19, Try.ntmps19
  go_wp2_with (first | ((with_reducible refine gate_dst (N := 2) rfl ?_); refine box_event ?hg (N := 2) ?hd (cs := #[.int .i64 a0_0, .slice Ao3 l0_1.length co3]) (t := 48) ?hr ?_; (case hd => rfl); (case hg => rfl); (case hr => first | (go_simp; done) | (go_simp; rfl)); intro gb121 hg w4 hbox hb; have n0_ := Aside0.mk (Kd.R_below (by (with_reducible repeat (first | apply Kd.R_alloc | apply Kd.R_drewN | apply Kd.R_drew)); exact HO0_1.out) hb); have n1_ := Aside0.mk (Kept.below (S := (fun k_ => P0_1_ k_)) (by repeat (first | (with_reducible first | exact HK.out | apply Kept.alloc | apply Kept.drewN | apply Kept.drew) | exact HK.out)) hb); have n2_ := Aside0.mk (below_step (by repeat (first | (with_reducible first | exact HB.out | apply below_alloc | apply pw_below_drewN | apply below_drew1) | exact HB.out)) hb); have n3_ := Aside0.mk (hbox); have n4_ := Aside0.mk ((by rw [hg]; exact (by first | exact HK.out.1 | exact (show Kept w _ (fun k_ => P0_1_ k_) from by repeat (first | (with_reducible first | exact HK.out | apply Kept.alloc | apply Kept.drewN | apply Kept.drew) | exact HK.out)).1) : w.heap.size ≤ gb121)); have n5_ := Aside0.mk ((by rw [hg]; exact (below_size (by repeat (first | (with_reducible first | exact HB.out | apply below_alloc | apply pw_below_drewN | apply below_drew1) | exact HB.out))) : w0.heap.size ≤ gb121)); clear HO0_1; clear HK; clear HB; have HO0_1 := n0_; have HK := n1_; have HB := n2_; have BK121 := n3_; have GW121 := n4_; have GE121 := n5_; clear n0_ n1_ n2_ n3_ n4_ n5_; clear hb hbox hg) | ((with_reducible refine gate_dst (N := 4) rfl ?_); refine box_event ?hg (N := 4) ?hd (cs := #[.int .i64 0, .slice none 0 0]) (t := 48) ?hr ?_; (case hd => rfl); (case hg => rfl); (case hr => first | (go_simp; done) | (go_simp; rfl)); intro gb122 hg w5 hbox hb; have n0_ := Aside0.mk (Kd.R_below (by (with_reducible repeat (first | apply Kd.R_alloc | apply Kd.R_drewN | apply Kd.R_drew)); exact HO0_1.out) hb); have n1_ := Aside0.mk (blk_below (g := gb121) (o := .cells #[.int .i64 a0_0, .slice Ao3 l0_1.length co3] 48 (0, 0)) (by (with_reducible repeat (first | refine blk_drewN ?_ _ | refine blk_drew ?_ | refine blk_alloc ?_ _)); exact BK121.out) hb); have n2_ := Aside0.mk (Kept.below (S := (fun k_ => P0_1_ k_)) (by repeat (first | (with_reducible first | exact HK.out | apply Kept.alloc | apply Kept.drewN | apply Kept.drew | refine Kept.setCell ?_ (.inr GW121.out) _) | exact HK.out)) hb); have n3_ := Aside0.mk (below_step (by repeat (first | (with_reducible first | exact HB.out | apply below_alloc | apply pw_below_drewN | apply below_drew1 | refine below_set ?_ GE121.out) | exact HB.out)) hb); have n4_ := Aside0.mk (hbox); have n5_ := Aside0.mk ((by rw [hg]; exact (by first | exact HK.out.1 | exact (show Kept w _ (fun k_ => P0_1_ k_) from by repeat (first | (with_reducible first | exact HK.out | apply Kept.alloc | apply Kept.drewN | apply Kept.drew | refine Kept.setCell ?_ (.inr GW121.out) _) | exact HK.out)).1) : w.heap.size ≤ gb122)); have n6_ := Aside0.mk ((by rw [hg]; exact (below_size (by repeat (first | (with_reducible first | exact HB.out | apply below_alloc | apply pw_below_drewN | apply below_drew1 | refine below_set ?_ GE121.out) | exact HB.out))) : w0.heap.size ≤ gb122)); have n7_ := Aside0.mk ((by rw [hg]; exact Nat.ne_of_lt (blk_lt (g := gb121) (o := .cells #[.int .i64 a0_0, .slice Ao3 l0_1.length co3] 48 (0, 0)) (by (with_reducible repeat (first | refine blk_drewN ?_ _ | refine blk_drew ?_ | refine blk_alloc ?_ _)); exact BK121.out)) : gb121 ≠ gb122)); have n8_ := Aside0.mk ((by rw [hg]; exact Nat.ne_of_gt (blk_lt (g := gb121) (o := .cells #[.int .i64 a0_0, .slice Ao3 l0_1.length co3] 48 (0, 0)) (by (with_reducible repeat (first | refine blk_drewN ?_ _ | refine blk_drew ?_ | refine blk_alloc ?_ _)); exact BK121.out)) : gb122 ≠ gb121)); clear HO0_1; clear BK121; clear HK; clear HB; have HO0_1 := n0_; have BK121 := n1_; have HK := n2_; have HB := n3_; have BK122 := n4_; have GW122 := n5_; have GE122 := n6_; have NB121_122 := n7_; have NB122_121 := n8_; clear n0_ n1_ n2_ n3_ n4_ n5_ n6_ n7_ n8_; clear hb hbox hg) | ((with_reducible refine gate_dst (N := 5) rfl ?_); refine box_event ?hg (N := 5) ?hd (cs := #[.int .i64 0, .int .i64 0]) (t := 29) ?hr ?_; (case hd => rfl); (case hg => rfl); (case hr => first | (go_simp; done) | (go_simp; rfl)); intro gb123 hg w6 hbox hb; have n0_ := Aside0.mk (Kd.R_below (by (with_reducible repeat (first | apply Kd.R_alloc | apply Kd.R_drewN | apply Kd.R_drew)); exact HO0_1.out) hb); have n1_ := Aside0.mk (blk_below (g := gb121) (o := .cells #[.int .i64 a0_0, .slice Ao3 l0_1.length co3] 48 (0, 0)) (by (with_reducible repeat (first | refine blk_drewN ?_ _ | refine blk_drew ?_ | refine blk_alloc ?_ _)); exact BK121.out) hb); have n2_ := Aside0.mk (blk_below (g := gb122) (o := .cells #[.int .i64 0, .slice none 0 0] 48 (0, 0)) (by (with_reducible repeat (first | refine blk_drewN ?_ _ | refine blk_drew ?_ | refine blk_alloc ?_ _)); exact BK122.out) hb); have n3_ := Aside0.mk (Kept.below (S := (fun k_ => P0_1_ k_)) (by repeat (first | (with_reducible first | exact HK.out | apply Kept.alloc | apply Kept.drewN | apply Kept.drew | refine Kept.setCell ?_ (.inr GW121.out) _ | refine Kept.setCell ?_ (.inr GW122.out) _) | exact HK.out)) hb); have n4_ := Aside0.mk (below_step (by repeat (first | (with_reducible first | exact HB.out | apply below_alloc | apply pw_below_drewN | apply below_drew1 | refine below_set ?_ GE121.out | refine below_set ?_ GE122.out) | exact HB.out)) hb); have n5_ := Aside0.mk (hbox); have n6_ := Aside0.mk ((by rw [hg]; exact (by first | exact HK.out.1 | exact (show Kept w _ (fun k_ => P0_1_ k_) from by repeat (first | (with_reducible first | exact HK.out | apply Kept.alloc | apply Kept.drewN | apply Kept.drew | refine Kept.setCell ?_ (.inr GW121.out) _ | refine Kept.setCell ?_ (.inr GW122.out) _) | exact HK.out)).1) : w.heap.size ≤ gb123)); have n7_ := Aside0.mk ((by rw [hg]; exact (below_size (by repeat (first | (with_reducible first | exact HB.out | apply below_alloc | apply pw_below_drewN | apply below_drew1 | refine below_set ?_ GE121.out | refine below_set ?_ GE122.out) | exact HB.out))) : w0.heap.size ≤ gb123)); have n8_ := Aside0.mk ((by rw [hg]; exact Nat.ne_of_lt (blk_lt (g := gb121) (o := .cells #[.int .i64 a0_0, .slice Ao3 l0_1.length co3] 48 (0, 0)) (by (with_reducible repeat (first | refine blk_drewN ?_ _ | refine blk_drew ?_ | refine blk_alloc ?_ _)); exact BK121.out)) : gb121 ≠ gb123)); have n9_ := Aside0.mk ((by rw [hg]; exact Nat.ne_of_gt (blk_lt (g := gb121) (o := .cells #[.int .i64 a0_0, .slice Ao3 l0_1.length co3] 48 (0, 0)) (by (with_reducible repeat (first | refine blk_drewN ?_ _ | refine blk_drew ?_ | refine blk_alloc ?_ _)); exact BK121.out)) : gb123 ≠ gb121)); have n10_ := Aside0.mk ((by rw [hg]; exact Nat.ne_of_lt (blk_lt (g := gb122) (o := .cells #[.int .i64 0, .slice none 0 0] 48 (0, 0)) (by (with_reducible repeat (first | refine blk_drewN ?_ _ | refine blk_drew ?_ | refine blk_alloc ?_ _)); exact BK122.out)) : gb122 ≠ gb123)); have n11_ := Aside0.mk ((by rw [hg]; exact Nat.ne_of_gt (blk_lt (g := gb122) (o := .cells #[.int .i64 0, .slice none 0 0] 48 (0, 0)) (by (with_reducible repeat (first | refine blk_drewN ?_ _ | refine blk_drew ?_ | refine blk_alloc ?_ _)); exact BK122.out)) : gb123 ≠ gb122)); clear HO0_1; clear BK121; clear BK122; clear HK; clear HB; have HO0_1 := n0_; have BK121 := n1_; have BK122 := n2_; have HK := n3_; have HB := n4_; have BK123 := n5_; have GW123 := n6_; have GE123 := n7_; have NB121_123 := n8_; have NB123_121 := n9_; have NB122_123 := n10_; have NB123_122 := n11_; clear n0_ n1_ n2_ n3_ n4_ n5_ n6_ n7_ n8_ n9_ n10_ n11_; clear hb hbox hg))
  go_loopg [7] k (fun kq v7 w' => ∃ (x7_1 : Int), v7 = .int .i64 x7_1 ∧ Aside0 (truchmanref10_Add.l0 kq a1 x7_1 a0_0 l0_1 = some (r1, r2, r3, r4, r5)) ∧ Aside0 (kq ≤ k) ∧ Aside0 (Kd.R k53 53 w' w0.heap.size (fun k_ => (P0_1_ k_ ∨ w.heap.size ≤ k_)) (.slice Ao3 l0_1.length co3) l0_1) ∧ Aside0 (w'.heap[gb121]? = some (.cells #[.int .i64 a0_0, (.slice Ao3 l0_1.length co3)] 48 (0, 0))) ∧ Aside0 (w'.heap[gb122]? = some (.cells #[.int .i64 0, (.slice none 0 0)] 48 (0, 0))) ∧ Aside0 (w'.heap[gb123]? = some (.cells #[.int .i64 0, .int .i64 0] 29 (0, 0))) ∧ Aside0 (Kept w w' (fun k_ => P0_1_ k_)) ∧ Aside0 (Below w0.heap.size w0 w'))
  case atStart => exact ⟨(1), (by first | rfl | (simp; done) | (simp [*]; done)), H', ⟨Nat.le_refl _⟩, ⟨by (with_reducible repeat (first | apply Kd.R_alloc | apply Kd.R_drewN | apply Kd.R_drew)); exact HO0_1.out⟩, ⟨by (with_reducible repeat (first | refine blk_drewN ?_ _ | refine blk_drew ?_ | refine blk_alloc ?_ _)); exact BK121.out⟩, ⟨by (with_reducible repeat (first | refine blk_drewN ?_ _ | refine blk_drew ?_ | refine blk_alloc ?_ _)); exact BK122.out⟩, ⟨by (with_reducible repeat (first | refine blk_drewN ?_ _ | refine blk_drew ?_ | refine blk_alloc ?_ _)); exact BK123.out⟩, ⟨by repeat (first | (with_reducible first | exact HK.out | apply Kept.alloc | apply Kept.drewN | apply Kept.drew | refine Kept.setCell ?_ (.inr GW121.out) _ | refine Kept.setCell ?_ (.inr GW122.out) _ | refine Kept.setCell ?_ (.inr GW123.out) _) | exact HK.out)⟩, ⟨by repeat (first | (with_reducible first | exact HB.out | apply below_alloc | apply pw_below_drewN | apply below_drew1 | refine below_set ?_ GE121.out | refine below_set ?_ GE122.out | refine below_set ?_ GE123.out) | exact HB.out)⟩⟩
  case round =>
    clear H'
    try clear c1
    try clear p2
    obtain ⟨x7_1, rfl, HA, HK1, HO_122001, BK121, BK122, BK123, HK, HB⟩ := hrel
    cases gk with
    | zero => exact absurd HA.out (by simp [truchmanref10_Add.l0])
    | succ k1 =>
      have H := HA.out
      clear HA
      simp only [truchmanref10_Add.l0] at H
      replace H := Option.bind_eq_some_iff.mp H
      obtain ⟨t124, A70, H⟩ := H
      replace H : (if t124 = true then (truchmanref10_Add.l0 k1 a1 (wrap64 (x7_1 + 1)) a0_0 l0_1) else (if x7_1 > a0_0 then (some (a0_0, l0_1, 0, 0, 14)) else (truchmanref10_Add.l1 k1 a1 x7_1 1 0 a0_0 l0_1))) = some (r1, r2, r3, r4, r5) := H
      have A7 := Aside0.mk A70
      clear A70
      by_cases c8 : t124 = true
      · subst c8
        have H1 : (truchmanref10_Add.l0 k1 a1 (wrap64 (x7_1 + 1)) a0_0 l0_1) = some (r1, r2, r3, r4, r5) := by rw [if_pos rfl] at H; exact H
        clear H
        have H := H1
        clear H1
        have H' := Aside0.mk H
        clear H
        have hnb9 := NB121_122.out
        have hnc9 := NB122_121.out
        have hnb10 := NB121_123.out
        have hnc10 := NB123_121.out
        have hcz11_0 : wr.cell? ⟨gb121, 0, none⟩ = some (.int .i64 a0_0) := (blk_cell BK121.out 0).trans rfl
        have hcz11_1 : wr.cell? ⟨gb121, 1, none⟩ = some (.slice Ao3 l0_1.length co3) := (blk_cell BK121.out 1).trans rfl
        have hfz11_0 := blk_frozen BK121.out 0
        have hfz11_1 := blk_frozen BK121.out 1
        go_wp2_with (first | ((with_reducible refine gate_callee (f := 33) rfl ?_); refine goesL_ (some 14) rfl rfl Try.func33 (by kernel_rfl) rfl #[.agg #[.int .i64 a0_0, .slice Ao3 l0_1.length co3], .int .i64 x7_1] rfl (by (try simp only [List.map_toArray, List.map_cons, List.map_nil]); first | done | rfl | (simp only [List.length_drop, List.length_take]; rfl)) ?_; (with_reducible refine (truchmanref10_taken.calls k1 a0_0 _ _ l0_1 x7_1 true _ ?side1 ?side2 A7.out).mono ?_); (case side1 => repeat (first | exact (Kd.R_reads' HO_122001.out).2.2 | (with_reducible refine Kd.C_alloc ?_ _) | (with_reducible refine Kd.C_drewN ?_ _) | (with_reducible refine Kd.C_drew ?_))); (case side2 => exact (Kd.R_reads' HO_122001.out).2.1); rintro e w12 ⟨rfl, hb⟩; refine ⟨_, rfl, ?_⟩; have n0_ := Aside0.mk (Kd.R_below (by (with_reducible repeat (first | apply Kd.R_alloc | apply Kd.R_drewN | apply Kd.R_drew)); exact HO_122001.out) hb); have n1_ := Aside0.mk (blk_below (g := gb121) (o := .cells #[.int .i64 a0_0, .slice Ao3 l0_1.length co3] 48 (0, 0)) (by (with_reducible repeat (first | refine blk_drewN ?_ _ | refine blk_drew ?_ | refine blk_alloc ?_ _)); exact BK121.out) hb); have n2_ := Aside0.mk (blk_below (g := gb122) (o := .cells #[.int .i64 0, .slice none 0 0] 48 (0, 0)) (by (with_reducible repeat (first | refine blk_drewN ?_ _ | refine blk_drew ?_ | refine blk_alloc ?_ _)); exact BK122.out) hb); have n3_ := Aside0.mk (blk_below (g := gb123) (o := .cells #[.int .i64 0, .int .i64 0] 29 (0, 0)) (by (with_reducible repeat (first | refine blk_drewN ?_ _ | refine blk_drew ?_ | refine blk_alloc ?_ _)); exact BK123.out) hb); have n4_ := Aside0.mk (Kept.below (S := (fun k_ => P0_1_ k_)) (by repeat (first | (with_reducible first | exact HK.out | apply Kept.alloc | apply Kept.drewN | apply Kept.drew | refine Kept.setCell ?_ (.inr GW121.out) _ | refine Kept.setCell ?_ (.inr GW122.out) _ | refine Kept.setCell ?_ (.inr GW123.out) _) | exact HK.out)) hb); have n5_ := Aside0.mk (below_step (by repeat (first | (with_reducible first | exact HB.out | apply below_alloc | apply pw_below_drewN | apply below_drew1 | refine below_set ?_ GE121.out | refine below_set ?_ GE122.out | refine below_set ?_ GE123.out) | exact HB.out)) hb); clear HO_122001; clear BK121; clear BK122; clear BK123; clear HK; clear HB; have HO_122001 := n0_; have BK121 := n1_; have BK122 := n2_; have BK123 := n3_; have HK := n4_; have HB := n5_; clear n0_ n1_ n2_ n3_ n4_ n5_; (try clear hb); (try clear hb2); (try clear hk); (try clear hi)))
        go_roundg k1
        case measure => have := HK1.out; omega
        case rel => exact ⟨(wrap64 (x7_1 + 1)), (by first | rfl | (simp; done) | (simp [*]; done)), H', ⟨by have := HK1.out; omega⟩, ⟨by (with_reducible repeat (first | apply Kd.R_alloc | apply Kd.R_drewN | apply Kd.R_drew)); exact HO_122001.out⟩, ⟨by (with_reducible repeat (first | refine blk_drewN ?_ _ | refine blk_drew ?_ | refine blk_alloc ?_ _)); exact BK121.out⟩, ⟨by (with_reducible repeat (first | refine blk_drewN ?_ _ | refine blk_drew ?_ | refine blk_alloc ?_ _)); exact BK122.out⟩, ⟨by (with_reducible repeat (first | refine blk_drewN ?_ _ | refine blk_drew ?_ | refine blk_alloc ?_ _)); exact BK123.out⟩, ⟨by repeat (first | (with_reducible first | exact HK.out | apply Kept.alloc | apply Kept.drewN | apply Kept.drew | refine Kept.setCell ?_ (.inr GW121.out) _ | refine Kept.setCell ?_ (.inr GW122.out) _ | refine Kept.setCell ?_ (.inr GW123.out) _) | exact HK.out)⟩, ⟨by repeat (first | (with_reducible first | exact HB.out | apply below_alloc | apply pw_below_drewN | apply below_drew1 | refine below_set ?_ GE121.out | refine below_set ?_ GE122.out | refine below_set ?_ GE123.out) | exact HB.out)⟩⟩
      · replace c8 := Bool.eq_false_iff.mpr c8
        subst c8
        have H1 : (if x7_1 > a0_0 then (some (a0_0, l0_1, 0, 0, 14)) else (truchmanref10_Add.l1 k1 a1 x7_1 1 0 a0_0 l0_1)) = some (r1, r2, r3, r4, r5) := by rw [if_neg (show ¬ (false = true) by decide)] at H; exact H
        clear H
        have H := H1
        clear H1
        by_cases c13 : x7_1 > a0_0
        · rw [if_pos c13] at H
          have c13b0 : decide (a0_0 < x7_1) = true := decide_eq_true c13
          clear c13
          simp only [Option.some.injEq, Prod.mk.injEq] at H
          obtain ⟨rfl, rfl, rfl, rfl, rfl⟩ := H
          have hnb14 := NB121_122.out
          have hnc14 := NB122_121.out
          have hnb15 := NB121_123.out
          have hnc15 := NB123_121.out
          have hcz16_0 : wr.cell? ⟨gb121, 0, none⟩ = some (.int .i64 a0_0) := (blk_cell BK121.out 0).trans rfl
          have hcz16_1 : wr.cell? ⟨gb121, 1, none⟩ = some (.slice Ao3 l0_1.length co3) := (blk_cell BK121.out 1).trans rfl
          have hfz16_0 := blk_frozen BK121.out 0
          have hfz16_1 := blk_frozen BK121.out 1
          go_wp2_with (first | ((with_reducible refine gate_callee (f := 33) rfl ?_); refine goesL_ (some 14) rfl rfl Try.func33 (by kernel_rfl) rfl #[.agg #[.int .i64 a0_0, .slice Ao3 l0_1.length co3], .int .i64 x7_1] rfl (by (try simp only [List.map_toArray, List.map_cons, List.map_nil]); first | done | rfl | (simp only [List.length_drop, List.length_take]; rfl)) ?_; (with_reducible refine (truchmanref10_taken.calls k1 a0_0 _ _ l0_1 x7_1 false _ ?side1 ?side2 A7.out).mono ?_); (case side1 => repeat (first | exact (Kd.R_reads' HO_122001.out).2.2 | (with_reducible refine Kd.C_alloc ?_ _) | (with_reducible refine Kd.C_drewN ?_ _) | (with_reducible refine Kd.C_drew ?_))); (case side2 => exact (Kd.R_reads' HO_122001.out).2.1); rintro e w17 ⟨rfl, hb⟩; refine ⟨_, rfl, ?_⟩; have n0_ := Aside0.mk (Kd.R_below (by (with_reducible repeat (first | apply Kd.R_alloc | apply Kd.R_drewN | apply Kd.R_drew)); exact HO_122001.out) hb); have n1_ := Aside0.mk (blk_below (g := gb121) (o := .cells #[.int .i64 a0_0, .slice Ao3 l0_1.length co3] 48 (0, 0)) (by (with_reducible repeat (first | refine blk_drewN ?_ _ | refine blk_drew ?_ | refine blk_alloc ?_ _)); exact BK121.out) hb); have n2_ := Aside0.mk (blk_below (g := gb122) (o := .cells #[.int .i64 0, .slice none 0 0] 48 (0, 0)) (by (with_reducible repeat (first | refine blk_drewN ?_ _ | refine blk_drew ?_ | refine blk_alloc ?_ _)); exact BK122.out) hb); have n3_ := Aside0.mk (blk_below (g := gb123) (o := .cells #[.int .i64 0, .int .i64 0] 29 (0, 0)) (by (with_reducible repeat (first | refine blk_drewN ?_ _ | refine blk_drew ?_ | refine blk_alloc ?_ _)); exact BK123.out) hb); have n4_ := Aside0.mk (Kept.below (S := (fun k_ => P0_1_ k_)) (by repeat (first | (with_reducible first | exact HK.out | apply Kept.alloc | apply Kept.drewN | apply Kept.drew | refine Kept.setCell ?_ (.inr GW121.out) _ | refine Kept.setCell ?_ (.inr GW122.out) _ | refine Kept.setCell ?_ (.inr GW123.out) _) | exact HK.out)) hb); have n5_ := Aside0.mk (below_step (by repeat (first | (with_reducible first | exact HB.out | apply below_alloc | apply pw_below_drewN | apply below_drew1 | refine below_set ?_ GE121.out | refine below_set ?_ GE122.out | refine below_set ?_ GE123.out) | exact HB.out)) hb); clear HO_122001; clear BK121; clear BK122; clear BK123; clear HK; clear HB; have HO_122001 := n0_; have BK121 := n1_; have BK122 := n2_; have BK123 := n3_; have HK := n4_; have HB := n5_; clear n0_ n1_ n2_ n3_ n4_ n5_; (try clear hb); (try clear hb2); (try clear hk); (try clear hi); have hcz18_0 : w17.cell? ⟨gb121, 0, none⟩ = some (.int .i64 a0_0) := (blk_cell BK121.out 0).trans rfl; have hcz18_1 : w17.cell? ⟨gb121, 1, none⟩ = some (.slice Ao3 l0_1.length co3) := (blk_cell BK121.out 1).trans rfl; have hfz18_0 := blk_frozen BK121.out 0; have hfz18_1 := blk_frozen BK121.out 1; have hnb19 := NB122_123.out; have hnc19 := NB123_122.out; have hcz20_0 : w17.cell? ⟨gb122, 0, none⟩ = some (.int .i64 0) := (blk_cell BK122.out 0).trans rfl; have hcz20_1 : w17.cell? ⟨gb122, 1, none⟩ = some (.slice none 0 0) := (blk_cell BK122.out 1).trans rfl; have hfz20_0 := blk_frozen BK122.out 0; have hfz20_1 := blk_frozen BK122.out 1; have hcz21_0 : w17.cell? ⟨gb123, 0, none⟩ = some (.int .i64 0) := (blk_cell BK123.out 0).trans rfl; have hcz21_1 : w17.cell? ⟨gb123, 1, none⟩ = some (.int .i64 0) := (blk_cell BK123.out 1).trans rfl; have hfz21_0 := blk_frozen BK123.out 0; have hfz21_1 := blk_frozen BK123.out 1))
          refine bodyPost_ret (results_list (rs := [.cell 4 48, .cell 5 29, .tmp 6]) rfl (by simp) (.cell gb122 48 #[.int .i64 a0_0, .slice Ao3 l0_1.length co3] (0, 0) _ rfl (by (with_reducible repeat (first | refine blk_drewN ?_ _ | refine blk_drew ?_ | refine blk_alloc ?_ _)); refine blk_far ?_ NB122_123.out _; (with_reducible repeat (first | refine blk_drewN ?_ _ | refine blk_drew ?_ | refine blk_alloc ?_ _)); refine blk_far ?_ NB122_123.out _; (with_reducible repeat (first | refine blk_drewN ?_ _ | refine blk_drew ?_ | refine blk_alloc ?_ _)); refine blk_put (cs := #[.int .i64 a0_0, .slice none 0 0]) ?_ 1 _ rfl; (with_reducible repeat (first | refine blk_drewN ?_ _ | refine blk_drew ?_ | refine blk_alloc ?_ _)); refine blk_put (cs := #[.int .i64 0, .slice none 0 0]) ?_ 0 _ rfl; (with_reducible repeat (first | refine blk_drewN ?_ _ | refine blk_drew ?_ | refine blk_alloc ?_ _)); exact BK122.out) Try.underlying48 rfl (by kernel_rfl) (.cell gb123 29 #[.int .i64 0, .int .i64 0] (0, 0) _ rfl (by (with_reducible repeat (first | refine blk_drewN ?_ _ | refine blk_drew ?_ | refine blk_alloc ?_ _)); refine blk_put (cs := #[.int .i64 0, .int .i64 0]) ?_ 1 _ rfl; (with_reducible repeat (first | refine blk_drewN ?_ _ | refine blk_drew ?_ | refine blk_alloc ?_ _)); refine blk_put (cs := #[.int .i64 0, .int .i64 0]) ?_ 0 _ rfl; (with_reducible repeat (first | refine blk_drewN ?_ _ | refine blk_drew ?_ | refine blk_alloc ?_ _)); refine blk_far ?_ NB123_122.out _; (with_reducible repeat (first | refine blk_drewN ?_ _ | refine blk_drew ?_ | refine blk_alloc ?_ _)); refine blk_far ?_ NB123_122.out _; (with_reducible repeat (first | refine blk_drewN ?_ _ | refine blk_drew ?_ | refine blk_alloc ?_ _)); exact BK123.out) Try.underlying29 rfl (by kernel_rfl) (.tmp .nil)))) rfl ?_
          exact ⟨_, by first | rfl | (simp [errW_none, errW_some] <;> rfl) | (simp [*, errW_none, errW_some] <;> rfl), by (with_reducible repeat (first | apply Kd.R_alloc | apply Kd.R_drewN | apply Kd.R_drew)); exact Kd.R_mono (Kd.R_far (p := ⟨gb123, 1, none⟩) (Kd.R_far (p := ⟨gb123, 0, none⟩) (Kd.R_far (p := ⟨gb122, 1, none⟩) (Kd.R_far (p := ⟨gb122, 0, none⟩) (Kd.R_types (Kd.R_types HO_122001.out BK122.out (by decide)) BK123.out (by decide)) (fun _ hk => by first | exact hk.1.2 | exact hk.1 | exact hk.2 | exact hk.1.1 | exact hk.1.2 | exact hk.2.1 | exact hk.2.2 | exact hk) (.int .i64 a0_0)) (fun _ hk => by first | exact hk.1.2 | exact hk.1 | exact hk.2 | exact hk.1.1 | exact hk.1.2 | exact hk.2.1 | exact hk.2.2 | exact hk) (.slice Ao3 l0_1.length co3)) (fun _ hk => by first | exact hk.2 | exact hk.1 | exact hk.2 | exact hk.1.1 | exact hk.1.2 | exact hk.2.1 | exact hk.2.2 | exact hk) (.int .i64 0)) (fun _ hk => by first | exact hk.2 | exact hk.1 | exact hk.2 | exact hk.1.1 | exact hk.1.2 | exact hk.2.1 | exact hk.2.2 | exact hk) (.int .i64 0)) (fun _ hk => by first | exact hk.1.1 | exact hk.1 | exact hk.2 | exact hk.1.1 | exact hk.1.2 | exact hk.2.1 | exact hk.2.2 | exact hk), by repeat (first | (with_reducible first | exact HB.out | apply below_alloc | apply pw_below_drewN | apply below_drew1 | refine below_set ?_ GE121.out | refine below_set ?_ GE122.out | refine below_set ?_ GE123.out) | exact HB.out), by repeat (first | (with_reducible first | exact HK.out | apply Kept.alloc | apply Kept.drewN | apply Kept.drew | refine Kept.setCell ?_ (.inr GW121.out) _ | refine Kept.setCell ?_ (.inr GW122.out) _ | refine Kept.setCell ?_ (.inr GW123.out) _) | exact HK.out)⟩
        · rw [if_neg c13] at H
          have c13b0 : decide (a0_0 < x7_1) = false := decide_eq_false c13
          clear c13
          have H' := Aside0.mk H
          clear H
          have hnb22 := NB121_122.out
          have hnc22 := NB122_121.out
          have hnb23 := NB121_123.out
          have hnc23 := NB123_121.out
          have hcz24_0 : wr.cell? ⟨gb121, 0, none⟩ = some (.int .i64 a0_0) := (blk_cell BK121.out 0).trans rfl
          have hcz24_1 : wr.cell? ⟨gb121, 1, none⟩ = some (.slice Ao3 l0_1.length co3) := (blk_cell BK121.out 1).trans rfl
          have hfz24_0 := blk_frozen BK121.out 0
          have hfz24_1 := blk_frozen BK121.out 1
          go_wp2_with (first | ((with_reducible refine gate_callee (f := 33) rfl ?_); refine goesL_ (some 14) rfl rfl Try.func33 (by kernel_rfl) rfl #[.agg #[.int .i64 a0_0, .slice Ao3 l0_1.length co3], .int .i64 x7_1] rfl (by (try simp only [List.map_toArray, List.map_cons, List.map_nil]); first | done | rfl | (simp only [List.length_drop, List.length_take]; rfl)) ?_; (with_reducible refine (truchmanref10_taken.calls k1 a0_0 _ _ l0_1 x7_1 false _ ?side1 ?side2 A7.out).mono ?_); (case side1 => repeat (first | exact (Kd.R_reads' HO_122001.out).2.2 | (with_reducible refine Kd.C_alloc ?_ _) | (with_reducible refine Kd.C_drewN ?_ _) | (with_reducible refine Kd.C_drew ?_))); (case side2 => exact (Kd.R_reads' HO_122001.out).2.1); rintro e w25 ⟨rfl, hb⟩; refine ⟨_, rfl, ?_⟩; have n0_ := Aside0.mk (Kd.R_below (by (with_reducible repeat (first | apply Kd.R_alloc | apply Kd.R_drewN | apply Kd.R_drew)); exact HO_122001.out) hb); have n1_ := Aside0.mk (blk_below (g := gb121) (o := .cells #[.int .i64 a0_0, .slice Ao3 l0_1.length co3] 48 (0, 0)) (by (with_reducible repeat (first | refine blk_drewN ?_ _ | refine blk_drew ?_ | refine blk_alloc ?_ _)); exact BK121.out) hb); have n2_ := Aside0.mk (blk_below (g := gb122) (o := .cells #[.int .i64 0, .slice none 0 0] 48 (0, 0)) (by (with_reducible repeat (first | refine blk_drewN ?_ _ | refine blk_drew ?_ | refine blk_alloc ?_ _)); exact BK122.out) hb); have n3_ := Aside0.mk (blk_below (g := gb123) (o := .cells #[.int .i64 0, .int .i64 0] 29 (0, 0)) (by (with_reducible repeat (first | refine blk_drewN ?_ _ | refine blk_drew ?_ | refine blk_alloc ?_ _)); exact BK123.out) hb); have n4_ := Aside0.mk (Kept.below (S := (fun k_ => P0_1_ k_)) (by repeat (first | (with_reducible first | exact HK.out | apply Kept.alloc | apply Kept.drewN | apply Kept.drew | refine Kept.setCell ?_ (.inr GW121.out) _ | refine Kept.setCell ?_ (.inr GW122.out) _ | refine Kept.setCell ?_ (.inr GW123.out) _) | exact HK.out)) hb); have n5_ := Aside0.mk (below_step (by repeat (first | (with_reducible first | exact HB.out | apply below_alloc | apply pw_below_drewN | apply below_drew1 | refine below_set ?_ GE121.out | refine below_set ?_ GE122.out | refine below_set ?_ GE123.out) | exact HB.out)) hb); clear HO_122001; clear BK121; clear BK122; clear BK123; clear HK; clear HB; have HO_122001 := n0_; have BK121 := n1_; have BK122 := n2_; have BK123 := n3_; have HK := n4_; have HB := n5_; clear n0_ n1_ n2_ n3_ n4_ n5_; (try clear hb); (try clear hb2); (try clear hk); (try clear hi); have hcz26_0 : w25.cell? ⟨gb121, 0, none⟩ = some (.int .i64 a0_0) := (blk_cell BK121.out 0).trans rfl; have hcz26_1 : w25.cell? ⟨gb121, 1, none⟩ = some (.slice Ao3 l0_1.length co3) := (blk_cell BK121.out 1).trans rfl; have hfz26_0 := blk_frozen BK121.out 0; have hfz26_1 := blk_frozen BK121.out 1))
          go_loopg [8, 9] k1 (fun kq v8 v9 w' => ∃ (x8_2 : Int) (x9_2 : Int), v8 = .int .i64 x8_2 ∧ v9 = .int .i64 x9_2 ∧ Aside0 (truchmanref10_Add.l1 kq a1 x7_1 x8_2 x9_2 a0_0 l0_1 = some (r1, r2, r3, r4, r5)) ∧ Aside0 (kq ≤ k1) ∧ Aside0 (Kd.R k53 53 w' w0.heap.size (fun k_ => (P0_1_ k_ ∨ w.heap.size ≤ k_)) (.slice Ao3 l0_1.length co3) l0_1) ∧ Aside0 (w'.heap[gb121]? = some (.cells #[.int .i64 a0_0, (.slice Ao3 l0_1.length co3)] 48 (0, 0))) ∧ Aside0 (w'.heap[gb122]? = some (.cells #[.int .i64 0, (.slice none 0 0)] 48 (0, 0))) ∧ Aside0 (w'.heap[gb123]? = some (.cells #[.int .i64 0, .int .i64 0] 29 (0, 0))) ∧ Aside0 (Kept w w' (fun k_ => P0_1_ k_)) ∧ Aside0 (Below w0.heap.size w0 w'))
          case atStart => exact ⟨(1), (0), (by first | rfl | (simp; done) | (simp [*]; done)), (by first | rfl | (simp; done) | (simp [*]; done)), H', ⟨Nat.le_refl _⟩, ⟨by (with_reducible repeat (first | apply Kd.R_alloc | apply Kd.R_drewN | apply Kd.R_drew)); exact HO_122001.out⟩, ⟨by (with_reducible repeat (first | refine blk_drewN ?_ _ | refine blk_drew ?_ | refine blk_alloc ?_ _)); exact BK121.out⟩, ⟨by (with_reducible repeat (first | refine blk_drewN ?_ _ | refine blk_drew ?_ | refine blk_alloc ?_ _)); exact BK122.out⟩, ⟨by (with_reducible repeat (first | refine blk_drewN ?_ _ | refine blk_drew ?_ | refine blk_alloc ?_ _)); exact BK123.out⟩, ⟨by repeat (first | (with_reducible first | exact HK.out | apply Kept.alloc | apply Kept.drewN | apply Kept.drew | refine Kept.setCell ?_ (.inr GW121.out) _ | refine Kept.setCell ?_ (.inr GW122.out) _ | refine Kept.setCell ?_ (.inr GW123.out) _) | exact HK.out)⟩, ⟨by repeat (first | (with_reducible first | exact HB.out | apply below_alloc | apply pw_below_drewN | apply below_drew1 | refine below_set ?_ GE121.out | refine below_set ?_ GE122.out | refine below_set ?_ GE123.out) | exact HB.out)⟩⟩
          case round =>
            clear H'
            try clear c1
            try clear c2
            try clear p2
            try clear c3
            try clear p6
            try clear c8
            try clear c9
            try clear c10
            try clear c13
            try clear c13b0
            try clear c14
            try clear c15
            try clear c19
            try clear c22
            try clear c23
            try clear hcz11_0
            try clear hcz11_1
            try clear hcz16_0
            try clear hcz16_1
            try clear hcz18_0
            try clear hcz18_1
            try clear hcz20_0
            try clear hcz20_1
            try clear hcz21_0
            try clear hcz21_1
            try clear hcz24_0
            try clear hcz24_1
            try clear hcz26_0
            try clear hcz26_1
            try clear hfz11_0
            try clear hfz11_1
            try clear hfz16_0
            try clear hfz16_1
            try clear hfz18_0
            try clear hfz18_1
            try clear hfz20_0
            try clear hfz20_1
            try clear hfz21_0
            try clear hfz21_1
            try clear hfz24_0
            try clear hfz24_1
            try clear hfz26_0
            try clear hfz26_1
            try clear p2
            obtain ⟨x8_2, x9_2, rfl, rfl, HA, HK2, HO_122001, BK121, BK122, BK123, HK, HB⟩ := hrel
            cases gk with
            | zero => exact absurd HA.out (by simp [truchmanref10_Add.l1])
            | succ k2 =>
              have H := HA.out
              clear HA
              simp only [truchmanref10_Add.l1] at H
              by_cases c27 : x9_2 < (l0_1.length : Int)
              · rw [if_pos c27] at H
                have c27b0 : decide (x9_2 < (l0_1.length : Int)) = true := decide_eq_true c27
                clear c27
                by_cases c28 : 0 ≤ x9_2
                · rw [if_pos c28] at H
                  have c28b0 : decide (0 ≤ x9_2) = true := decide_eq_true c28
                  clear c28
                  by_cases c29 : ((rd_T53 l0_1 x9_2).f0.f0) = x7_1
                  · rw [if_pos c29] at H
                    have c29b0 : (((rd_T53 l0_1 x9_2).f0.f0) == x7_1) = true := beq_iff_eq.mpr c29
                    have c29b1 : (((rd_T53 l0_1 x9_2).f0.f0) != x7_1) = false := bne_eq_false_iff_eq.mpr c29
                    clear c29
                    have H' := Aside0.mk H
                    clear H
                    have hnb30 := NB121_122.out
                    have hnc30 := NB122_121.out
                    have hnb31 := NB121_123.out
                    have hnc31 := NB123_121.out
                    have hcz32_0 : wr.cell? ⟨gb121, 0, none⟩ = some (.int .i64 a0_0) := (blk_cell BK121.out 0).trans rfl
                    have hcz32_1 : wr.cell? ⟨gb121, 1, none⟩ = some (.slice Ao3 l0_1.length co3) := (blk_cell BK121.out 1).trans rfl
                    have hfz32_0 := blk_frozen BK121.out 0
                    have hfz32_1 := blk_frozen BK121.out 1
                    have p125 : 0 ≤ (x9_2 : Int) := of_decide_eq_true (by first | (with_reducible assumption) | assumption)
                    have q125 : x9_2 < (l0_1.length : Int) := of_decide_eq_true (by first | (with_reducible assumption) | assumption)
                    obtain ⟨ad125, e125, hx125_0, hx125_1, hx125_2, hx125_3⟩ := at_T53 (Kd.R_reads' HO_122001.out).2.2 x9_2 p125 q125
                    cases e125
                    replace p125 := eq_true p125
                    replace q125 := eq_true q125
                    go_wp2
                    go_roundg k2
                    case measure => have := HK1.out; have := HK2.out; omega
                    case rel => exact ⟨(wrap64 (x8_2 + 1)), (wrap64 (x9_2 + 1)), (by first | rfl | (simp; done) | (simp [*]; done)), (by first | rfl | (simp; done) | (simp [*]; done)), H', ⟨by have := HK1.out; have := HK2.out; omega⟩, ⟨by (with_reducible repeat (first | apply Kd.R_alloc | apply Kd.R_drewN | apply Kd.R_drew)); exact HO_122001.out⟩, ⟨by (with_reducible repeat (first | refine blk_drewN ?_ _ | refine blk_drew ?_ | refine blk_alloc ?_ _)); exact BK121.out⟩, ⟨by (with_reducible repeat (first | refine blk_drewN ?_ _ | refine blk_drew ?_ | refine blk_alloc ?_ _)); exact BK122.out⟩, ⟨by (with_reducible repeat (first | refine blk_drewN ?_ _ | refine blk_drew ?_ | refine blk_alloc ?_ _)); exact BK123.out⟩, ⟨by repeat (first | (with_reducible first | exact HK.out | apply Kept.alloc | apply Kept.drewN | apply Kept.drew | refine Kept.setCell ?_ (.inr GW121.out) _ | refine Kept.setCell ?_ (.inr GW122.out) _ | refine Kept.setCell ?_ (.inr GW123.out) _) | exact HK.out)⟩, ⟨by repeat (first | (with_reducible first | exact HB.out | apply below_alloc | apply pw_below_drewN | apply below_drew1 | refine below_set ?_ GE121.out | refine below_set ?_ GE122.out | refine below_set ?_ GE123.out) | exact HB.out)⟩⟩
                  · rw [if_neg c29] at H
                    have c29b0 : (((rd_T53 l0_1 x9_2).f0.f0) == x7_1) = false := beq_eq_false_iff_ne.mpr c29
                    have c29b1 : (((rd_T53 l0_1 x9_2).f0.f0) != x7_1) = true := bne_iff_ne.mpr c29
                    have H' := Aside0.mk H
                    clear H
                    have hnb33 := NB121_122.out
                    have hnc33 := NB122_121.out
                    have hnb34 := NB121_123.out
                    have hnc34 := NB123_121.out
                    have hcz35_0 : wr.cell? ⟨gb121, 0, none⟩ = some (.int .i64 a0_0) := (blk_cell BK121.out 0).trans rfl
                    have hcz35_1 : wr.cell? ⟨gb121, 1, none⟩ = some (.slice Ao3 l0_1.length co3) := (blk_cell BK121.out 1).trans rfl
                    have hfz35_0 := blk_frozen BK121.out 0
                    have hfz35_1 := blk_frozen BK121.out 1
                    have p125 : 0 ≤ (x9_2 : Int) := of_decide_eq_true (by first | (with_reducible assumption) | assumption)
                    have q125 : x9_2 < (l0_1.length : Int) := of_decide_eq_true (by first | (with_reducible assumption) | assumption)
                    obtain ⟨ad125, e125, hx125_0, hx125_1, hx125_2, hx125_3⟩ := at_T53 (Kd.R_reads' HO_122001.out).2.2 x9_2 p125 q125
                    cases e125
                    replace p125 := eq_true p125
                    replace q125 := eq_true q125
                    go_wp2
                    go_roundg k2
                    case measure => have := HK1.out; have := HK2.out; omega
                    case rel => exact ⟨(x8_2), (wrap64 (x9_2 + 1)), (by first | rfl | (simp; done) | (simp [*]; done)), (by first | rfl | (simp; done) | (simp [*]; done)), H', ⟨by have := HK1.out; have := HK2.out; omega⟩, ⟨by (with_reducible repeat (first | apply Kd.R_alloc | apply Kd.R_drewN | apply Kd.R_drew)); exact HO_122001.out⟩, ⟨by (with_reducible repeat (first | refine blk_drewN ?_ _ | refine blk_drew ?_ | refine blk_alloc ?_ _)); exact BK121.out⟩, ⟨by (with_reducible repeat (first | refine blk_drewN ?_ _ | refine blk_drew ?_ | refine blk_alloc ?_ _)); exact BK122.out⟩, ⟨by (with_reducible repeat (first | refine blk_drewN ?_ _ | refine blk_drew ?_ | refine blk_alloc ?_ _)); exact BK123.out⟩, ⟨by repeat (first | (with_reducible first | exact HK.out | apply Kept.alloc | apply Kept.drewN | apply Kept.drew | refine Kept.setCell ?_ (.inr GW121.out) _ | refine Kept.setCell ?_ (.inr GW122.out) _ | refine Kept.setCell ?_ (.inr GW123.out) _) | exact HK.out)⟩, ⟨by repeat (first | (with_reducible first | exact HB.out | apply below_alloc | apply pw_below_drewN | apply below_drew1 | refine below_set ?_ GE121.out | refine below_set ?_ GE122.out | refine below_set ?_ GE123.out) | exact HB.out)⟩⟩
                · rw [if_neg c28] at H
                  exact absurd H (by simp)
              · rw [if_neg c27] at H
                have c27b0 : decide (x9_2 < (l0_1.length : Int)) = false := decide_eq_false c27
                clear c27
                by_cases c36 : ([] : List (S53)).length + l0_1.length < 4398046511104
                · rw [if_pos c36] at H
                  have LMc36 := Aside0.mk c36
                  clear c36
                  obtain ⟨y127, hy127⟩ : ∃ y_ : List (S53), y_ = (([] : List (S53)) ++ l0_1) := ⟨_, rfl⟩
                  replace H : (if y127.length < 4398046511104 then (some (a0_0, (y127 ++ [(⟨(⟨x7_1, x8_2⟩ : S29), a1, true⟩ : S53)]), x7_1, x8_2, 0)) else (none)) = some (r1, r2, r3, r4, r5) := by first | (rw [hy127]; with_reducible exact H) | (have H2_ := (Option.bind_some _ _).symm.trans H; rw [hy127]; with_reducible exact H2_) | (have H2_ := (Option.bind_some _ _).symm.trans H; with_reducible exact H2_) | with_reducible exact H | (rw [hy127]; exact H) | exact H
                  have Ny127 := Aside0.mk hy127
                  clear hy127
                  by_cases c37 : y127.length < 4398046511104
                  · rw [if_pos c37] at H
                    have LMc37 := Aside0.mk c37
                    clear c37
                    obtain ⟨y130, hy130⟩ : ∃ y_ : List (S53), y_ = (y127 ++ [(⟨(⟨x7_1, x8_2⟩ : S29), a1, true⟩ : S53)]) := ⟨_, rfl⟩
                    replace H : (some (a0_0, y130, x7_1, x8_2, 0)) = some (r1, r2, r3, r4, r5) := by first | (rw [hy130]; with_reducible exact H) | (have H2_ := (Option.bind_some _ _).symm.trans H; rw [hy130]; with_reducible exact H2_) | (have H2_ := (Option.bind_some _ _).symm.trans H; with_reducible exact H2_) | with_reducible exact H | (rw [hy130]; exact H) | exact H
                    have Ny130 := Aside0.mk hy130
                    clear hy130
                    simp only [Option.some.injEq, Prod.mk.injEq] at H
                    obtain ⟨rfl, rfl, rfl, rfl, rfl⟩ := H
                    have hnb38 := NB121_122.out
                    have hnc38 := NB122_121.out
                    have hnb39 := NB121_123.out
                    have hnc39 := NB123_121.out
                    have hcz40_0 : wr.cell? ⟨gb121, 0, none⟩ = some (.int .i64 a0_0) := (blk_cell BK121.out 0).trans rfl
                    have hcz40_1 : wr.cell? ⟨gb121, 1, none⟩ = some (.slice Ao3 l0_1.length co3) := (blk_cell BK121.out 1).trans rfl
                    have hfz40_0 := blk_frozen BK121.out 0
                    have hfz40_1 := blk_frozen BK121.out 1
                    try go_wp2_with (first | ((with_reducible refine gate_dst (N := 10) rfl ?_); refine box_event ?hg (N := 10) ?hd (cs := #[.int .i64 0, .int .i64 0]) (t := 29) ?hr ?_; (case hd => rfl); (case hg => rfl); (case hr => first | (go_simp; done) | (go_simp; rfl)); intro gb126 hg w41 hbox hb; have n0_ := Aside0.mk (Kd.R_below (by (with_reducible repeat (first | apply Kd.R_alloc | apply Kd.R_drewN | apply Kd.R_drew)); exact HO_122001.out) hb); have n1_ := Aside0.mk (blk_below (g := gb121) (o := .cells #[.int .i64 a0_0, .slice Ao3 l0_1.length co3] 48 (0, 0)) (by (with_reducible repeat (first | refine blk_drewN ?_ _ | refine blk_drew ?_ | refine blk_alloc ?_ _)); exact BK121.out) hb); have n2_ := Aside0.mk (blk_below (g := gb122) (o := .cells #[.int .i64 0, .slice none 0 0] 48 (0, 0)) (by (with_reducible repeat (first | refine blk_drewN ?_ _ | refine blk_drew ?_ | refine blk_alloc ?_ _)); exact BK122.out) hb); have n3_ := Aside0.mk (blk_below (g := gb123) (o := .cells #[.int .i64 0, .int .i64 0] 29 (0, 0)) (by (with_reducible repeat (first | refine blk_drewN ?_ _ | refine blk_drew ?_ | refine blk_alloc ?_ _)); exact BK123.out) hb); have n4_ := Aside0.mk (Kept.below (S := (fun k_ => P0_1_ k_)) (by repeat (first | (with_reducible first | exact HK.out | apply Kept.alloc | apply Kept.drewN | apply Kept.drew | refine Kept.setCell ?_ (.inr GW121.out) _ | refine Kept.setCell ?_ (.inr GW122.out) _ | refine Kept.setCell ?_ (.inr GW123.out) _) | exact HK.out)) hb); have n5_ := Aside0.mk (below_step (by repeat (first | (with_reducible first | exact HB.out | apply below_alloc | apply pw_below_drewN | apply below_drew1 | refine below_set ?_ GE121.out | refine below_set ?_ GE122.out | refine below_set ?_ GE123.out) | exact HB.out)) hb); have n6_ := Aside0.mk (hbox); have n7_ := Aside0.mk ((by rw [hg]; exact (by first | exact HK.out.1 | exact (show Kept w _ (fun k_ => P0_1_ k_) from by repeat (first | (with_reducible first | exact HK.out | apply Kept.alloc | apply Kept.drewN | apply Kept.drew | refine Kept.setCell ?_ (.inr GW121.out) _ | refine Kept.setCell ?_ (.inr GW122.out) _ | refine Kept.setCell ?_ (.inr GW123.out) _) | exact HK.out)).1) : w.heap.size ≤ gb126)); have n8_ := Aside0.mk ((by rw [hg]; exact (below_size (by repeat (first | (with_reducible first | exact HB.out | apply below_alloc | apply pw_below_drewN | apply below_drew1 | refine below_set ?_ GE121.out | refine below_set ?_ GE122.out | refine below_set ?_ GE123.out) | exact HB.out))) : w0.heap.size ≤ gb126)); have n9_ := Aside0.mk ((by rw [hg]; exact Nat.ne_of_lt (blk_lt (g := gb121) (o := .cells #[.int .i64 a0_0, .slice Ao3 l0_1.length co3] 48 (0, 0)) (by (with_reducible repeat (first | refine blk_drewN ?_ _ | refine blk_drew ?_ | refine blk_alloc ?_ _)); exact BK121.out)) : gb121 ≠ gb126)); have n10_ := Aside0.mk ((by rw [hg]; exact Nat.ne_of_gt (blk_lt (g := gb121) (o := .cells #[.int .i64 a0_0, .slice Ao3 l0_1.length co3] 48 (0, 0)) (by (with_reducible repeat (first | refine blk_drewN ?_ _ | refine blk_drew ?_ | refine blk_alloc ?_ _)); exact BK121.out)) : gb126 ≠ gb121)); have n11_ := Aside0.mk ((by rw [hg]; exact Nat.ne_of_lt (blk_lt (g := gb122) (o := .cells #[.int .i64 0, .slice none 0 0] 48 (0, 0)) (by (with_reducible repeat (first | refine blk_drewN ?_ _ | refine blk_drew ?_ | refine blk_alloc ?_ _)); exact BK122.out)) : gb122 ≠ gb126)); have n12_ := Aside0.mk ((by rw [hg]; exact Nat.ne_of_gt (blk_lt (g := gb122) (o := .cells #[.int .i64 0, .slice none 0 0] 48 (0, 0)) (by (with_reducible repeat (first | refine blk_drewN ?_ _ | refine blk_drew ?_ | refine blk_alloc ?_ _)); exact BK122.out)) : gb126 ≠ gb122)); have n13_ := Aside0.mk ((by rw [hg]; exact Nat.ne_of_lt (blk_lt (g := gb123) (o := .cells #[.int .i64 0, .int .i64 0] 29 (0, 0)) (by (with_reducible repeat (first | refine blk_drewN ?_ _ | refine blk_drew ?_ | refine blk_alloc ?_ _)); exact BK123.out)) : gb123 ≠ gb126)); have n14_ := Aside0.mk ((by rw [hg]; exact Nat.ne_of_gt (blk_lt (g := gb123) (o := .cells #[.int .i64 0, .int .i64 0] 29 (0, 0)) (by (with_reducible repeat (first | refine blk_drewN ?_ _ | refine blk_drew ?_ | refine blk_alloc ?_ _)); exact BK123.out)) : gb126 ≠ gb123)); clear HO_122001; clear BK121; clear BK122; clear BK123; clear HK; clear HB; have HO_122001 := n0_; have BK121 := n1_; have BK122 := n2_; have BK123 := n3_; have HK := n4_; have HB := n5_; have BK126 := n6_; have GW126 := n7_; have GE126 := n8_; have NB121_126 := n9_; have NB126_121 := n10_; have NB122_126 := n11_; have NB126_122 := n12_; have NB123_126 := n13_; have NB126_123 := n14_; clear n0_ n1_ n2_ n3_ n4_ n5_ n6_ n7_ n8_ n9_ n10_ n11_ n12_ n13_ n14_; clear hb hbox hg; have hnb42 := NB126_121.out; have hnc42 := NB121_126.out; have hnb43 := NB126_122.out; have hnc43 := NB122_126.out; have hnb44 := NB126_123.out; have hnc44 := NB123_126.out; have hcz45_0 : w41.cell? ⟨gb126, 0, none⟩ = some (.int .i64 0) := (blk_cell BK126.out 0).trans rfl; have hcz45_1 : w41.cell? ⟨gb126, 1, none⟩ = some (.int .i64 0) := (blk_cell BK126.out 1).trans rfl; have hfz45_0 := blk_frozen BK126.out 0; have hfz45_1 := blk_frozen BK126.out 1; have hcz46_0 : w41.cell? ⟨gb121, 0, none⟩ = some (.int .i64 a0_0) := (blk_cell BK121.out 0).trans rfl; have hcz46_1 : w41.cell? ⟨gb121, 1, none⟩ = some (.slice Ao3 l0_1.length co3) := (blk_cell BK121.out 1).trans rfl; have hfz46_0 := blk_frozen BK121.out 0; have hfz46_1 := blk_frozen BK121.out 1) | ((with_reducible refine gate_builtin (b := .append) (xs := #[.tmp 44, .tmp 46]) rfl ?_); at_builtin; refine Kd.R_append_rows k53 (w0 := w0) w0.heap.size rfl (.tmp 44) (.tmp 46) 46 53 (.agg #[(.int .i64 0), (.int .i64 0), (.int .i64 0), (.bool false)]) 32 rfl Try.underlying46 info53 rfl (by decide) (by omega) (.slice none 0 0) ([] : List (S53)) l0_1 _ _ _ (fun k_ => (P0_1_ k_ ∨ w.heap.size ≤ k_) ∧ some k_ ≠ (.slice Ao3 l0_1.length co3 : Value).ownBlock) (fun _ => False) rfl rfl ?aO ?aR (fun _ _ h => h) (fun _ h => h.elim) ?aF ?aB ?aS ?aL ?_; (case aR => refine (Kd.R_reads' (e := 53) (base := w0.heap.size) (ok := fun k_ => (P0_1_ k_ ∨ w.heap.size ≤ k_)) (n := l0_1.length) (c := co3) ?_).2.2; exact (by (with_reducible repeat (first | apply Kd.R_alloc | apply Kd.R_drewN | apply Kd.R_drew)); exact (Kd.R_mono (Kd.R_far (p := ⟨gb126, 1, none⟩) (Kd.R_far (p := ⟨gb126, 0, none⟩) (Kd.R_types HO_122001.out BK126.out (by decide)) (fun _ hk => by first | exact hk.2 | exact hk.1 | exact hk.2 | exact hk.1.1 | exact hk.1.2 | exact hk.2.1 | exact hk.2.2 | exact hk) (.int .i64 x7_1)) (fun _ hk => by first | exact hk.2 | exact hk.1 | exact hk.2 | exact hk.1.1 | exact hk.1.2 | exact hk.2.1 | exact hk.2.2 | exact hk) (.int .i64 x8_2)) (fun _ h_ => h_.1)))); (case aB => exact (by repeat (first | (with_reducible first | exact HB.out | apply below_alloc | apply pw_below_drewN | apply below_drew1 | refine below_set ?_ GE121.out | refine below_set ?_ GE122.out | refine below_set ?_ GE123.out | refine below_set ?_ GE126.out) | exact HB.out))); (case aF => exact (fun k_ hk => ⟨(.inr (Nat.le_trans (show Kept w _ (fun k_ => P0_1_ k_) from by repeat (first | (with_reducible first | exact HK.out | apply Kept.alloc | apply Kept.drewN | apply Kept.drew | refine Kept.setCell ?_ (.inr GW121.out) _ | refine Kept.setCell ?_ (.inr GW122.out) _ | refine Kept.setCell ?_ (.inr GW123.out) _ | refine Kept.setCell ?_ (.inr GW126.out) _) | exact HK.out)).1 hk)), Kd.fresh' (Kd.R_lt (by (with_reducible repeat (first | apply Kd.R_alloc | apply Kd.R_drewN | apply Kd.R_drew)); exact (Kd.R_mono (Kd.R_far (p := ⟨gb126, 1, none⟩) (Kd.R_far (p := ⟨gb126, 0, none⟩) (Kd.R_types HO_122001.out BK126.out (by decide)) (fun _ hk => by first | exact hk.2 | exact hk.1 | exact hk.2 | exact hk.1.1 | exact hk.1.2 | exact hk.2.1 | exact hk.2.2 | exact hk) (.int .i64 x7_1)) (fun _ hk => by first | exact hk.2 | exact hk.1 | exact hk.2 | exact hk.1.1 | exact hk.1.2 | exact hk.2.1 | exact hk.2.2 | exact hk) (.int .i64 x8_2)) (fun _ h_ => h_.1)))) k_ hk⟩)); (case aO => exact ((Kd.R_nil _ _ _ _ (fun k_ => (P0_1_ k_ ∨ w.heap.size ≤ k_) ∧ some k_ ≠ (.slice Ao3 l0_1.length co3 : Value).ownBlock)))); (case aS => exact (below_size (by repeat (first | (with_reducible first | exact HB.out | apply below_alloc | apply pw_below_drewN | apply below_drew1 | refine below_set ?_ GE121.out | refine below_set ?_ GE122.out | refine below_set ?_ GE123.out | refine below_set ?_ GE126.out) | exact HB.out)))); (case aL => have := LMc36.out; omega); intro v128 w47 ho hb hg hat; rw [← Ny127.out] at ho; have n0_ := Aside0.mk (Kd.R_after (Kd.R_apart_nil (by (with_reducible repeat (first | apply Kd.R_alloc | apply Kd.R_drewN | apply Kd.R_drew)); exact (Kd.R_mono (Kd.R_far (p := ⟨gb126, 1, none⟩) (Kd.R_far (p := ⟨gb126, 0, none⟩) (Kd.R_types HO_122001.out BK126.out (by decide)) (fun _ hk => by first | exact hk.2 | exact hk.1 | exact hk.2 | exact hk.1.1 | exact hk.1.2 | exact hk.2.1 | exact hk.2.2 | exact hk) (.int .i64 x7_1)) (fun _ hk => by first | exact hk.2 | exact hk.1 | exact hk.2 | exact hk.1.1 | exact hk.1.2 | exact hk.2.1 | exact hk.2.2 | exact hk) (.int .i64 x8_2)) (fun _ h_ => h_.1)))) hg hat); have n1_ := Aside0.mk (blk_grown (g := gb121) (o := .cells #[.int .i64 a0_0, .slice Ao3 l0_1.length co3] 48 (0, 0)) (by (with_reducible repeat (first | refine blk_drewN ?_ _ | refine blk_drew ?_ | refine blk_alloc ?_ _)); refine blk_far ?_ NB121_126.out _; (with_reducible repeat (first | refine blk_drewN ?_ _ | refine blk_drew ?_ | refine blk_alloc ?_ _)); refine blk_far ?_ NB121_126.out _; (with_reducible repeat (first | refine blk_drewN ?_ _ | refine blk_drew ?_ | refine blk_alloc ?_ _)); exact BK121.out) hg (by simp [Value.ownBlock])); have n2_ := Aside0.mk (blk_grown (g := gb122) (o := .cells #[.int .i64 0, .slice none 0 0] 48 (0, 0)) (by (with_reducible repeat (first | refine blk_drewN ?_ _ | refine blk_drew ?_ | refine blk_alloc ?_ _)); refine blk_far ?_ NB122_126.out _; (with_reducible repeat (first | refine blk_drewN ?_ _ | refine blk_drew ?_ | refine blk_alloc ?_ _)); refine blk_far ?_ NB122_126.out _; (with_reducible repeat (first | refine blk_drewN ?_ _ | refine blk_drew ?_ | refine blk_alloc ?_ _)); exact BK122.out) hg (by simp [Value.ownBlock])); have n3_ := Aside0.mk (blk_grown (g := gb123) (o := .cells #[.int .i64 0, .int .i64 0] 29 (0, 0)) (by (with_reducible repeat (first | refine blk_drewN ?_ _ | refine blk_drew ?_ | refine blk_alloc ?_ _)); refine blk_far ?_ NB123_126.out _; (with_reducible repeat (first | refine blk_drewN ?_ _ | refine blk_drew ?_ | refine blk_alloc ?_ _)); refine blk_far ?_ NB123_126.out _; (with_reducible repeat (first | refine blk_drewN ?_ _ | refine blk_drew ?_ | refine blk_alloc ?_ _)); exact BK123.out) hg (by simp [Value.ownBlock])); have n4_ := Aside0.mk (blk_grown (g := gb126) (o := .cells #[.int .i64 x7_1, .int .i64 x8_2] 29 (0, 0)) (by (with_reducible repeat (first | refine blk_drewN ?_ _ | refine blk_drew ?_ | refine blk_alloc ?_ _)); refine blk_put (cs := #[.int .i64 x7_1, .int .i64 0]) ?_ 1 _ rfl; (with_reducible repeat (first | refine blk_drewN ?_ _ | refine blk_drew ?_ | refine blk_alloc ?_ _)); refine blk_put (cs := #[.int .i64 0, .int .i64 0]) ?_ 0 _ rfl; (with_reducible repeat (first | refine blk_drewN ?_ _ | refine blk_drew ?_ | refine blk_alloc ?_ _)); exact BK126.out) hg (by simp [Value.ownBlock])); have n5_ := Aside0.mk (hb); have n6_ := Aside0.mk (Kept.of_grown (S := (fun k_ => P0_1_ k_)) hg (by repeat (first | (with_reducible first | exact HK.out | apply Kept.alloc | apply Kept.drewN | apply Kept.drew | refine Kept.setCell ?_ (.inr GW121.out) _ | refine Kept.setCell ?_ (.inr GW122.out) _ | refine Kept.setCell ?_ (.inr GW123.out) _ | refine Kept.setCell ?_ (.inr GW126.out) _) | exact HK.out)) (fun k_ e_ => by simp [Value.ownBlock] at e_)); have n7_ := Aside0.mk (ho); clear HO_122001; clear BK121; clear BK122; clear BK123; clear BK126; clear HB; clear HK; have HO_122001 := n0_; have BK121 := n1_; have BK122 := n2_; have BK123 := n3_; have BK126 := n4_; have HB := n5_; have HK := n6_; have HO129 := n7_; clear n0_ n1_ n2_ n3_ n4_ n5_ n6_ n7_; clear ho hb hg hat; have hcz48_0 : w47.cell? ⟨gb126, 0, none⟩ = some (.int .i64 x7_1) := (blk_cell BK126.out 0).trans rfl; have hcz48_1 : w47.cell? ⟨gb126, 1, none⟩ = some (.int .i64 x8_2) := (blk_cell BK126.out 1).trans rfl; have hfz48_0 := blk_frozen BK126.out 0; have hfz48_1 := blk_frozen BK126.out 1) | ((with_reducible refine gate_builtin (b := .append) (xs := #[.tmp 48, .tmp 52]) rfl ?_); at_builtin; refine Kd.R_append k53 (w0 := w0) w0.heap.size rfl (.tmp 48) (.tmp 52) 46 53 (.agg #[(.int .i64 0), (.int .i64 0), (.int .i64 0), (.bool false)]) 32 rfl Try.underlying46 info53 rfl (by decide) (by omega) v128 y127 (⟨(⟨x7_1, x8_2⟩ : S29), a1, true⟩ : S53) [.int .i64 x7_1, .int .i64 x8_2, .int .i64 a1, .bool true] (fun k_ => (P0_1_ k_ ∨ w.heap.size ≤ k_) ∧ some k_ ≠ (.slice Ao3 l0_1.length co3 : Value).ownBlock) (fun _ => False) rfl rfl ?aP (fun _ hk => hk.elim) ?aF ?aO ?aB ?aS ?aL ?_; (case aP => exact k53_mkM _ _ _ (⟨(⟨x7_1, x8_2⟩ : S29), a1, true⟩ : S53)); (case aB => exact (by repeat (first | (with_reducible first | exact HB.out | apply below_alloc | apply pw_below_drewN | apply below_drew1 | refine below_set ?_ GE121.out | refine below_set ?_ GE122.out | refine below_set ?_ GE123.out | refine below_set ?_ GE126.out) | exact HB.out))); (case aF => exact (fun k_ hk => ⟨(.inr (Nat.le_trans (by first | exact HK.out.1 | exact (show Kept w _ (fun k_ => P0_1_ k_) from by repeat (first | (with_reducible first | exact HK.out | apply Kept.alloc | apply Kept.drewN | apply Kept.drew | refine Kept.setCell ?_ (.inr GW121.out) _ | refine Kept.setCell ?_ (.inr GW122.out) _ | refine Kept.setCell ?_ (.inr GW123.out) _ | refine Kept.setCell ?_ (.inr GW126.out) _) | exact HK.out)).1) hk)), Kd.fresh' (Kd.R_lt (by (with_reducible repeat (first | apply Kd.R_alloc | apply Kd.R_drewN | apply Kd.R_drew)); exact HO_122001.out)) k_ hk⟩)); (case aO => exact (by (with_reducible repeat (first | apply Kd.R_alloc | apply Kd.R_drewN | apply Kd.R_drew)); exact HO129.out)); (case aS => exact (below_size (by repeat (first | (with_reducible first | exact HB.out | apply below_alloc | apply pw_below_drewN | apply below_drew1 | refine below_set ?_ GE121.out | refine below_set ?_ GE122.out | refine below_set ?_ GE123.out | refine below_set ?_ GE126.out) | exact HB.out)))); (case aL => have := LMc37.out; omega); intro v131 w49 ho hb hg hat; rw [← Ny130.out] at ho; have n0_ := Aside0.mk (Kd.R_after (ok := (fun k_ => (P0_1_ k_ ∨ w.heap.size ≤ k_))) (by (with_reducible repeat (first | apply Kd.R_alloc | apply Kd.R_drewN | apply Kd.R_drew)); exact HO_122001.out) hg hat); have n1_ := Aside0.mk (blk_grown (g := gb121) (o := .cells #[.int .i64 a0_0, .slice Ao3 l0_1.length co3] 48 (0, 0)) (by (with_reducible repeat (first | refine blk_drewN ?_ _ | refine blk_drew ?_ | refine blk_alloc ?_ _)); exact BK121.out) hg (Kd.R_ne HO129.out BK121.out (by decide))); have n2_ := Aside0.mk (blk_grown (g := gb122) (o := .cells #[.int .i64 0, .slice none 0 0] 48 (0, 0)) (by (with_reducible repeat (first | refine blk_drewN ?_ _ | refine blk_drew ?_ | refine blk_alloc ?_ _)); exact BK122.out) hg (Kd.R_ne HO129.out BK122.out (by decide))); have n3_ := Aside0.mk (blk_grown (g := gb123) (o := .cells #[.int .i64 0, .int .i64 0] 29 (0, 0)) (by (with_reducible repeat (first | refine blk_drewN ?_ _ | refine blk_drew ?_ | refine blk_alloc ?_ _)); exact BK123.out) hg (Kd.R_ne HO129.out BK123.out (by decide))); have n4_ := Aside0.mk (blk_grown (g := gb126) (o := .cells #[.int .i64 x7_1, .int .i64 x8_2] 29 (0, 0)) (by (with_reducible repeat (first | refine blk_drewN ?_ _ | refine blk_drew ?_ | refine blk_alloc ?_ _)); exact BK126.out) hg (Kd.R_ne HO129.out BK126.out (by decide))); have n5_ := Aside0.mk (hb); have n6_ := Aside0.mk (Kept.of_grown (S := (fun k_ => P0_1_ k_)) hg (by repeat (first | (with_reducible first | exact HK.out | apply Kept.alloc | apply Kept.drewN | apply Kept.drew | refine Kept.setCell ?_ (.inr GW121.out) _ | refine Kept.setCell ?_ (.inr GW122.out) _ | refine Kept.setCell ?_ (.inr GW123.out) _ | refine Kept.setCell ?_ (.inr GW126.out) _) | exact HK.out)) (fun k_ e_ => (HO129.out.1 k_ e_).1)); have n7_ := Aside0.mk (ho); clear HO_122001; clear BK121; clear BK122; clear BK123; clear BK126; clear HB; clear HK; clear HO129; have HO_122001 := n0_; have BK121 := n1_; have BK122 := n2_; have BK123 := n3_; have BK126 := n4_; have HB := n5_; have HK := n6_; have HO132 := n7_; clear n0_ n1_ n2_ n3_ n4_ n5_ n6_ n7_; clear ho hb hg hat; obtain ⟨Ao50, co50, eo50⟩ := Kd.R_slice HO132.out; subst eo50; have hcz51_0 : w49.cell? ⟨gb121, 0, none⟩ = some (.int .i64 a0_0) := (blk_cell BK121.out 0).trans rfl; have hcz51_1 : w49.cell? ⟨gb121, 1, none⟩ = some (.slice Ao3 l0_1.length co3) := (blk_cell BK121.out 1).trans rfl; have hfz51_0 := blk_frozen BK121.out 0; have hfz51_1 := blk_frozen BK121.out 1))
                    have n0_ : Aside0 (Kd.R k53 53 (w49.setCell ⟨gb121, 1, none⟩ (.slice Ao50 y130.length co50)) w0.heap.size (fun k_ => (P0_1_ k_ ∨ w.heap.size ≤ k_) ∧ some k_ ≠ (.slice Ao50 y130.length co50 : Value).ownBlock) (.slice Ao3 l0_1.length co3) l0_1) := ⟨by (with_reducible repeat (first | apply Kd.R_alloc | apply Kd.R_drewN | apply Kd.R_drew)); exact Kd.R_mono (Kd.R_far (p := ⟨gb121, 1, none⟩) (Kd.R_types HO_122001.out BK121.out (by decide)) (fun _ hk => by first | exact hk.2 | exact hk.1 | exact hk.2 | exact hk.1.1 | exact hk.1.2 | exact hk.2.1 | exact hk.2.2 | exact hk) (.slice Ao50 y130.length co50)) (fun _ hk => ⟨hk.1.1, hk.1.2⟩)⟩
                    have n1_ : Aside0 (Kd.R k53 53 (w49.setCell ⟨gb121, 1, none⟩ (.slice Ao50 y130.length co50)) w0.heap.size (fun k_ => (P0_1_ k_ ∨ w.heap.size ≤ k_) ∧ some k_ ≠ (.slice Ao3 l0_1.length co3 : Value).ownBlock) (.slice Ao50 y130.length co50) y130) := ⟨by (with_reducible repeat (first | apply Kd.R_alloc | apply Kd.R_drewN | apply Kd.R_drew)); exact Kd.R_mono (Kd.R_far (p := ⟨gb121, 1, none⟩) (Kd.R_types HO132.out BK121.out (by decide)) (fun _ hk => by first | exact hk.2 | exact hk.1 | exact hk.2 | exact hk.1.1 | exact hk.1.2 | exact hk.2.1 | exact hk.2.2 | exact hk) (.slice Ao50 y130.length co50)) (fun _ hk => ⟨hk.1.1, hk.1.2⟩)⟩
                    have n2_ : Aside0 ((w49.setCell ⟨gb121, 1, none⟩ (.slice Ao50 y130.length co50)).heap[gb121]? = some (.cells #[.int .i64 a0_0, .slice Ao50 y130.length co50] 48 (0, 0))) := ⟨by (with_reducible repeat (first | refine blk_drewN ?_ _ | refine blk_drew ?_ | refine blk_alloc ?_ _)); refine blk_put (cs := #[.int .i64 a0_0, .slice Ao3 l0_1.length co3]) ?_ 1 _ rfl; (with_reducible repeat (first | refine blk_drewN ?_ _ | refine blk_drew ?_ | refine blk_alloc ?_ _)); exact BK121.out⟩
                    have n3_ : Aside0 ((w49.setCell ⟨gb121, 1, none⟩ (.slice Ao50 y130.length co50)).heap[gb122]? = some (.cells #[.int .i64 0, .slice none 0 0] 48 (0, 0))) := ⟨by (with_reducible repeat (first | refine blk_drewN ?_ _ | refine blk_drew ?_ | refine blk_alloc ?_ _)); refine blk_far ?_ NB122_121.out _; (with_reducible repeat (first | refine blk_drewN ?_ _ | refine blk_drew ?_ | refine blk_alloc ?_ _)); exact BK122.out⟩
                    have n4_ : Aside0 ((w49.setCell ⟨gb121, 1, none⟩ (.slice Ao50 y130.length co50)).heap[gb123]? = some (.cells #[.int .i64 0, .int .i64 0] 29 (0, 0))) := ⟨by (with_reducible repeat (first | refine blk_drewN ?_ _ | refine blk_drew ?_ | refine blk_alloc ?_ _)); refine blk_far ?_ NB123_121.out _; (with_reducible repeat (first | refine blk_drewN ?_ _ | refine blk_drew ?_ | refine blk_alloc ?_ _)); exact BK123.out⟩
                    have n5_ : Aside0 ((w49.setCell ⟨gb121, 1, none⟩ (.slice Ao50 y130.length co50)).heap[gb126]? = some (.cells #[.int .i64 x7_1, .int .i64 x8_2] 29 (0, 0))) := ⟨by (with_reducible repeat (first | refine blk_drewN ?_ _ | refine blk_drew ?_ | refine blk_alloc ?_ _)); refine blk_far ?_ NB126_121.out _; (with_reducible repeat (first | refine blk_drewN ?_ _ | refine blk_drew ?_ | refine blk_alloc ?_ _)); exact BK126.out⟩
                    have n6_ : Aside0 (Kept w (w49.setCell ⟨gb121, 1, none⟩ (.slice Ao50 y130.length co50)) (fun k_ => P0_1_ k_)) := ⟨by repeat (first | (with_reducible first | exact HK.out | apply Kept.alloc | apply Kept.drewN | apply Kept.drew | refine Kept.setCell ?_ (.inr GW121.out) _ | refine Kept.setCell ?_ (.inr GW122.out) _ | refine Kept.setCell ?_ (.inr GW123.out) _ | refine Kept.setCell ?_ (.inr GW126.out) _) | exact HK.out)⟩
                    have n7_ : Aside0 (Below w0.heap.size w0 (w49.setCell ⟨gb121, 1, none⟩ (.slice Ao50 y130.length co50))) := ⟨by repeat (first | (with_reducible first | exact HB.out | apply below_alloc | apply pw_below_drewN | apply below_drew1 | refine below_set ?_ GE121.out | refine below_set ?_ GE122.out | refine below_set ?_ GE123.out | refine below_set ?_ GE126.out) | exact HB.out)⟩
                    (try clear HO_122001)
                    (try clear HO132)
                    (try clear BK121)
                    (try clear BK122)
                    (try clear BK123)
                    (try clear BK126)
                    (try clear HK)
                    (try clear HB)
                    generalize (w49.setCell ⟨gb121, 1, none⟩ (.slice Ao50 y130.length co50)) = w52 at n0_ n1_ n2_ n3_ n4_ n5_ n6_ n7_ ⊢
                    have HO_122001 := n0_
                    have HO132 := n1_
                    have BK121 := n2_
                    have BK122 := n3_
                    have BK123 := n4_
                    have BK126 := n5_
                    have HK := n6_
                    have HB := n7_
                    clear n0_ n1_ n2_ n3_ n4_ n5_ n6_ n7_
                    have n0_ := Aside0.mk (Kd.R_drew HO_122001.out)
                    have n1_ := Aside0.mk (Kd.R_drew HO132.out)
                    have n2_ := Aside0.mk (blk_drew BK121.out)
                    have n3_ := Aside0.mk (blk_drew BK122.out)
                    have n4_ := Aside0.mk (blk_drew BK123.out)
                    have n5_ := Aside0.mk (blk_drew BK126.out)
                    have n6_ := Aside0.mk (Kept.drew HK.out)
                    have n7_ := Aside0.mk (below_drew1 HB.out)
                    clear HO_122001
                    clear HO132
                    clear BK121
                    clear BK122
                    clear BK123
                    clear BK126
                    clear HK
                    clear HB
                    have HO_122001 := n0_
                    have HO132 := n1_
                    have BK121 := n2_
                    have BK122 := n3_
                    have BK123 := n4_
                    have BK126 := n5_
                    have HK := n6_
                    have HB := n7_
                    clear n0_ n1_ n2_ n3_ n4_ n5_ n6_ n7_
                    refine start_ (n := 5) (S := fun w' => w'.cell? ⟨gb121, 0, none⟩ = some (.int .i64 a0_0) ∧ w'.cell? ⟨gb121, 1, none⟩ = some (.slice Ao50 y130.length co50) ∧ w'.cell? ⟨gb126, 0, none⟩ = some (.int .i64 x7_1) ∧ w'.cell? ⟨gb126, 1, none⟩ = some (.int .i64 x8_2)) (ds := []) #[false, false, false, false, false] (by kernel_rfl) rfl rfl ⟨(blk_cell BK121.out 0).trans rfl, (blk_cell BK121.out 1).trans rfl, (blk_cell BK126.out 0).trans rfl, (blk_cell BK126.out 1).trans rfl⟩ (fun hHeld => ?_)
                    generalize w52.drew = w53 at HO_122001 HO132 BK121 BK122 BK123 BK126 HK HB hHeld ⊢
                    refine take_ (i := 0) (N := some 55) (v := ?_) (a' := ?_) #[true, false, false, false, false] rfl rfl (by kernel_rfl) (fun _ _ _ h => h) (Or.inl ⟨by rfl, ?_⟩) hHeld ?_ ?_
                    rotate_left
                    · rintro w' ⟨s0, s1, s2, s3⟩
                      go_simp
                      with_reducible rfl
                    rotate_left
                    · simp only [Act.put, List.setIfInBounds_toArray, List.set_cons_zero, List.set_cons_succ, i64_w, i32_w]
                      rfl
                    refine take_ (i := 1) (N := some 56) (v := ?_) (a' := ?_) #[true, true, false, false, false] rfl rfl (by kernel_rfl) (fun _ _ _ h => h) (Or.inl ⟨by rfl, ?_⟩) hHeld ?_ ?_
                    rotate_left
                    · rintro w' ⟨s0, s1, s2, s3⟩
                      go_simp
                      with_reducible rfl
                    rotate_left
                    · simp only [Act.put, List.setIfInBounds_toArray, List.set_cons_zero, List.set_cons_succ, i64_w, i32_w]
                      rfl
                    refine one_ (i := 2) (N := none) #[true, true, true, false, false] rfl rfl (by kernel_rfl) (by decide) (fun K hK => ?_)
                    have hs54 : w53.cell? ⟨gb122, 0, none⟩ = some (.int .i64 0) := (blk_cell BK122.out 0).trans rfl
                    have hfs54 := blk_frozen BK122.out 0
                    have hns54_0 := NB121_122.out
                    have hns54_2 := NB123_122.out
                    have hns54_3 := NB126_122.out
                    have hms54_0 := NB122_121.out
                    have hms54_2 := NB122_123.out
                    have hms54_3 := NB122_126.out
                    have hs55 : w53.cell? ⟨gb122, 1, none⟩ = some (.slice none 0 0) := (blk_cell BK122.out 1).trans rfl
                    have hfs55 := blk_frozen BK122.out 1
                    have hns55_0 := NB121_122.out
                    have hns55_2 := NB123_122.out
                    have hns55_3 := NB126_122.out
                    have hms55_0 := NB122_121.out
                    have hms55_2 := NB122_123.out
                    have hms55_3 := NB122_126.out
                    refine skip_ (w1 := ?_) (by rfl) rfl ?_ ?_
                    rotate_left
                    · go_simp
                      rfl
                    refine hK.out _ _ ⟨((cell_far (p := ⟨gb122, _, none⟩) NB121_122.out _).trans (((cell_far (p := ⟨gb122, _, none⟩) NB121_122.out _).trans (hHeld.1)))), ((cell_far (p := ⟨gb122, _, none⟩) NB121_122.out _).trans (((cell_far (p := ⟨gb122, _, none⟩) NB121_122.out _).trans (hHeld.2.1)))), ((cell_far (p := ⟨gb122, _, none⟩) NB126_122.out _).trans (((cell_far (p := ⟨gb122, _, none⟩) NB126_122.out _).trans (hHeld.2.2.1)))), ((cell_far (p := ⟨gb122, _, none⟩) NB126_122.out _).trans (((cell_far (p := ⟨gb122, _, none⟩) NB126_122.out _).trans (hHeld.2.2.2))))⟩ (fun hHeld => ?_)
                    clear hK K
                    refine one_ (i := 3) (N := none) #[true, true, true, true, false] rfl rfl (by kernel_rfl) (by decide) (fun K hK => ?_)
                    have hs56 : w53.cell? ⟨gb123, 0, none⟩ = some (.int .i64 0) := (blk_cell BK123.out 0).trans rfl
                    have hfs56 := blk_frozen BK123.out 0
                    have hns56_0 := NB121_123.out
                    have hns56_1 := NB122_123.out
                    have hns56_3 := NB126_123.out
                    have hms56_0 := NB123_121.out
                    have hms56_1 := NB123_122.out
                    have hms56_3 := NB123_126.out
                    have hs57 : w53.cell? ⟨gb123, 1, none⟩ = some (.int .i64 0) := (blk_cell BK123.out 1).trans rfl
                    have hfs57 := blk_frozen BK123.out 1
                    have hns57_0 := NB121_123.out
                    have hns57_1 := NB122_123.out
                    have hns57_3 := NB126_123.out
                    have hms57_0 := NB123_121.out
                    have hms57_1 := NB123_122.out
                    have hms57_3 := NB123_126.out
                    refine skip_ (w1 := ?_) (by rfl) rfl ?_ ?_
                    rotate_left
                    · go_simp
                      rfl
                    refine hK.out _ _ ⟨((cell_far (p := ⟨gb123, _, none⟩) NB121_123.out _).trans (((cell_far (p := ⟨gb123, _, none⟩) NB121_123.out _).trans (hHeld.1)))), ((cell_far (p := ⟨gb123, _, none⟩) NB121_123.out _).trans (((cell_far (p := ⟨gb123, _, none⟩) NB121_123.out _).trans (hHeld.2.1)))), ((cell_far (p := ⟨gb123, _, none⟩) NB126_123.out _).trans (((cell_far (p := ⟨gb123, _, none⟩) NB126_123.out _).trans (hHeld.2.2.1)))), ((cell_far (p := ⟨gb123, _, none⟩) NB126_123.out _).trans (((cell_far (p := ⟨gb123, _, none⟩) NB126_123.out _).trans (hHeld.2.2.2))))⟩ (fun hHeld => ?_)
                    clear hK K
                    refine pure_ (i := 4) (N := some 6) (v := ?_) (a' := ?_) #[true, true, true, true, true] rfl rfl (by kernel_rfl) (fun _ _ _ h => h) (Or.inl ⟨by rfl, ?_⟩) ?_ ?_
                    rotate_left
                    · intro w'
                      go_simp
                      with_reducible rfl
                    rotate_left
                    · simp only [Act.put, List.setIfInBounds_toArray, List.set_cons_zero, List.set_cons_succ, i64_w, i32_w]
                      rfl
                    refine done_ (by kernel_rfl) ?_
                    try go_wp2
                    refine bodyPost_ret (results_list (rs := [.cell 4 48, .cell 5 29, .tmp 6]) rfl (by simp) (.cell gb122 48 #[.int .i64 a0_0, .slice Ao50 y130.length co50] (0, 0) _ rfl (by (with_reducible repeat (first | refine blk_drewN ?_ _ | refine blk_drew ?_ | refine blk_alloc ?_ _)); refine blk_far ?_ NB122_123.out _; (with_reducible repeat (first | refine blk_drewN ?_ _ | refine blk_drew ?_ | refine blk_alloc ?_ _)); refine blk_far ?_ NB122_123.out _; (with_reducible repeat (first | refine blk_drewN ?_ _ | refine blk_drew ?_ | refine blk_alloc ?_ _)); refine blk_put (cs := #[.int .i64 a0_0, .slice none 0 0]) ?_ 1 _ rfl; (with_reducible repeat (first | refine blk_drewN ?_ _ | refine blk_drew ?_ | refine blk_alloc ?_ _)); refine blk_put (cs := #[.int .i64 0, .slice none 0 0]) ?_ 0 _ rfl; (with_reducible repeat (first | refine blk_drewN ?_ _ | refine blk_drew ?_ | refine blk_alloc ?_ _)); exact BK122.out) Try.underlying48 rfl (by kernel_rfl) (.cell gb123 29 #[.int .i64 x7_1, .int .i64 x8_2] (0, 0) _ rfl (by (with_reducible repeat (first | refine blk_drewN ?_ _ | refine blk_drew ?_ | refine blk_alloc ?_ _)); refine blk_put (cs := #[.int .i64 x7_1, .int .i64 0]) ?_ 1 _ rfl; (with_reducible repeat (first | refine blk_drewN ?_ _ | refine blk_drew ?_ | refine blk_alloc ?_ _)); refine blk_put (cs := #[.int .i64 0, .int .i64 0]) ?_ 0 _ rfl; (with_reducible repeat (first | refine blk_drewN ?_ _ | refine blk_drew ?_ | refine blk_alloc ?_ _)); refine blk_far ?_ NB123_122.out _; (with_reducible repeat (first | refine blk_drewN ?_ _ | refine blk_drew ?_ | refine blk_alloc ?_ _)); refine blk_far ?_ NB123_122.out _; (with_reducible repeat (first | refine blk_drewN ?_ _ | refine blk_drew ?_ | refine blk_alloc ?_ _)); exact BK123.out) Try.underlying29 rfl (by kernel_rfl) (.tmp .nil)))) rfl ?_
                    exact ⟨_, by first | rfl | (simp [errW_none, errW_some] <;> rfl) | (simp [*, errW_none, errW_some] <;> rfl), by (with_reducible repeat (first | apply Kd.R_alloc | apply Kd.R_drewN | apply Kd.R_drew)); exact Kd.R_mono (Kd.R_far (p := ⟨gb123, 1, none⟩) (Kd.R_far (p := ⟨gb123, 0, none⟩) (Kd.R_far (p := ⟨gb122, 1, none⟩) (Kd.R_far (p := ⟨gb122, 0, none⟩) (Kd.R_types (Kd.R_types HO132.out BK122.out (by decide)) BK123.out (by decide)) (fun _ hk => by first | exact hk.1.2 | exact hk.1 | exact hk.2 | exact hk.1.1 | exact hk.1.2 | exact hk.2.1 | exact hk.2.2 | exact hk) (.int .i64 a0_0)) (fun _ hk => by first | exact hk.1.2 | exact hk.1 | exact hk.2 | exact hk.1.1 | exact hk.1.2 | exact hk.2.1 | exact hk.2.2 | exact hk) (.slice Ao50 y130.length co50)) (fun _ hk => by first | exact hk.2 | exact hk.1 | exact hk.2 | exact hk.1.1 | exact hk.1.2 | exact hk.2.1 | exact hk.2.2 | exact hk) (.int .i64 x7_1)) (fun _ hk => by first | exact hk.2 | exact hk.1 | exact hk.2 | exact hk.1.1 | exact hk.1.2 | exact hk.2.1 | exact hk.2.2 | exact hk) (.int .i64 x8_2)) (fun _ hk => by first | exact hk.1.1.1 | exact hk.1 | exact hk.2 | exact hk.1.1 | exact hk.1.2 | exact hk.2.1 | exact hk.2.2 | exact hk), by repeat (first | (with_reducible first | exact HB.out | apply below_alloc | apply pw_below_drewN | apply below_drew1 | refine below_set ?_ GE121.out | refine below_set ?_ GE122.out | refine below_set ?_ GE123.out | refine below_set ?_ GE126.out) | exact HB.out), by repeat (first | (with_reducible first | exact HK.out | apply Kept.alloc | apply Kept.drewN | apply Kept.drew | refine Kept.setCell ?_ (.inr GW121.out) _ | refine Kept.setCell ?_ (.inr GW122.out) _ | refine Kept.setCell ?_ (.inr GW123.out) _ | refine Kept.setCell ?_ (.inr GW126.out) _) | exact HK.out)⟩
                  · rw [if_neg c37] at H
                    exact absurd H (by simp)
                · rw [if_neg c36] at H
                  exact absurd H (by simp)

-- NOT PRINTED: function 35 (inode_Table_int_Each)

-- NOT PRINTED: function 21 (inode_Table_int_Len)

/-! ### truchmanref10_Each: function 34 -/
mutual
def truchmanref10_Each.l0 : Nat → List (S53) → Int → Int → List (S53) → Option ((List (S53)))
  | 0, _, _, _, _ => none
  | k + 1, x3, x4, x134000, x134001 => if x4 ≤ x134000 then (truchmanref10_Each.l1 k x3 x4 0 x134000 x134001) else (some x3)
def truchmanref10_Each.l1 : Nat → List (S53) → Int → Int → Int → List (S53) → Option ((List (S53)))
  | 0, _, _, _, _, _ => none
  | k + 1, x3, x4, x5, x134000, x134001 => if x5 < (x134001.length : Int) then (if 0 ≤ x5 then (if (rd_T53 x134001 x5).f2 = true then (if ((rd_T53 x134001 x5).f0.f0) = x4 then (if x3.length < 4398046511104 then (truchmanref10_Each.l1 k (x3 ++ [(⟨(⟨(rd_T53 x134001 x5).f0.f0, (rd_T53 x134001 x5).f0.f1⟩ : S29), (rd_T53 x134001 x5).f1, (rd_T53 x134001 x5).f2⟩ : S53)]) x4 (wrap64 (x5 + 1)) x134000 x134001) else (none)) else (truchmanref10_Each.l1 k x3 x4 (wrap64 (x5 + 1)) x134000 x134001)) else (truchmanref10_Each.l1 k x3 x4 (wrap64 (x5 + 1)) x134000 x134001)) else (none)) else (truchmanref10_Each.l0 k x3 (wrap64 (x4 + 1)) x134000 x134001)
end
def truchmanref10_Each.f (k : Nat) (a0_0 : Int) (l0_1 : List (S53)) : Option ((List (S53))) := truchmanref10_Each.l0 k ([] : List (S53)) 1 a0_0 l0_1
theorem truchmanref10_Each.mono_l : ∀ k, (∀ y0 y1 y2 y3, LeO (truchmanref10_Each.l0 k y0 y1 y2 y3) (truchmanref10_Each.l0 (k + 1) y0 y1 y2 y3)) ∧ (∀ y0 y1 y2 y3 y4, LeO (truchmanref10_Each.l1 k y0 y1 y2 y3 y4) (truchmanref10_Each.l1 (k + 1) y0 y1 y2 y3 y4))
  | 0 => ⟨fun _ _ _ _ r h => by simp [truchmanref10_Each.l0] at h, fun _ _ _ _ _ r h => by simp [truchmanref10_Each.l1] at h⟩
  | k + 1 => by
    obtain ⟨ih0, ih1⟩ := truchmanref10_Each.mono_l k
    refine ⟨?_, ?_⟩
    · intro y0 y1 y2 y3
      unfold truchmanref10_Each.l0
      repeat' first
      | (with_reducible exact ih0 _ _ _ _)
      | (with_reducible exact ih1 _ _ _ _ _)
      | (with_reducible exact LeO.refl _)
      | (with_reducible exact LeO.none _)
      | (with_reducible refine LeO.ite ?_ ?_)
      | (with_reducible refine LeO.bind ?_ (fun _ => ?_))
      | exact ih0 _ _ _ _
      | exact ih1 _ _ _ _ _
      | exact LeO.none _
      | refine LeO.ite ?_ ?_
      | refine LeO.bind ?_ (fun _ => ?_)
    · intro y0 y1 y2 y3 y4
      unfold truchmanref10_Each.l1
      repeat' first
      | (with_reducible exact ih0 _ _ _ _)
      | (with_reducible exact ih1 _ _ _ _ _)
      | (with_reducible exact LeO.refl _)
      | (with_reducible exact LeO.none _)
      | (with_reducible refine LeO.ite ?_ ?_)
      | (with_reducible refine LeO.bind ?_ (fun _ => ?_))
      | exact ih0 _ _ _ _
      | exact ih1 _ _ _ _ _
      | exact LeO.none _
      | refine LeO.ite ?_ ?_
      | refine LeO.bind ?_ (fun _ => ?_)
theorem truchmanref10_Each.mono : ∀ a0 a1 k, LeO (truchmanref10_Each.f k a0 a1) (truchmanref10_Each.f (k + 1) a0 a1) := by
  intro a0 a1 k
  obtain ⟨ih0, ih1⟩ := truchmanref10_Each.mono_l k
  unfold truchmanref10_Each.f
  repeat' first
      | (with_reducible exact ih0 _ _ _ _)
      | (with_reducible exact ih1 _ _ _ _ _)
      | (with_reducible exact LeO.refl _)
      | (with_reducible exact LeO.none _)
      | (with_reducible refine LeO.ite ?_ ?_)
      | (with_reducible refine LeO.bind ?_ (fun _ => ?_))
      | exact ih0 _ _ _ _
      | exact ih1 _ _ _ _ _
      | exact LeO.none _
      | refine LeO.ite ?_ ?_
      | refine LeO.bind ?_ (fun _ => ?_)
set_option maxHeartbeats 8000000 in
set_option maxRecDepth 100000 in
theorem truchmanref10_Each.calls (k : Nat) (a0_0 : Int) (A0_1 : Option Addr) (c0_1 : Nat) (l0_1 : List (S53)) (r : List (S53)) (w : World) (hr0_1 : Kd.C k53 w A0_1 l0_1.length l0_1) (hc0_1 : l0_1.length ≤ c0_1) (h : truchmanref10_Each.f k a0_0 l0_1 = some r) :
    Calls Try.prog 34 #[.agg #[.int .i64 a0_0, .slice A0_1 l0_1.length c0_1]] w fun e w' => ∃ v0_ : Value, e = .returned (v0_) ∧ Kd.R k53 53 w' w.heap.size (fun _ => True) v0_ r ∧ Below w.heap.size w w' := by
  have hu48 := Try.underlying48
  have hu53 := Try.underlying53
  have HR0_1 := Aside0.mk hr0_1
  have HC0_1 := Aside0.mk hc0_1
  clear hr0_1 hc0_1
  have HB := Aside0.mk (Below.refl w.heap.size w)
  have H : (truchmanref10_Each.l0 k ([] : List (S53)) 1 a0_0 l0_1) = some r := h
  clear h
  have H' := Aside0.mk H
  clear H
  go_enter Try.func34, Try.ntmps34
  go_wp2_with (first | ((with_reducible refine gate_dst (N := 1) rfl ?_); refine box_event ?hg (N := 1) ?hd (cs := #[.int .i64 a0_0, .slice A0_1 l0_1.length c0_1]) (t := 48) ?hr ?_; (case hd => rfl); (case hg => rfl); (case hr => first | (go_simp; done) | (go_simp; rfl)); intro gb133 hg w2 hbox hb; have n0_ := Aside0.mk (below_step (by repeat (first | (with_reducible first | exact HB.out | apply below_alloc | apply pw_below_drewN | apply below_drew1) | exact HB.out)) hb); have n1_ := Aside0.mk (hbox); have n2_ := Aside0.mk ((by rw [hg]; exact (below_size (by repeat (first | (with_reducible first | exact HB.out | apply below_alloc | apply pw_below_drewN | apply below_drew1) | exact HB.out))) : w.heap.size ≤ gb133)); have n3_ := Aside0.mk ((by rw [hg]; exact (below_size (by repeat (first | (with_reducible first | exact HB.out | apply below_alloc | apply pw_below_drewN | apply below_drew1) | exact HB.out))) : w.heap.size ≤ gb133)); clear HB; have HB := n0_; have BK133 := n1_; have GW133 := n2_; have GE133 := n3_; clear n0_ n1_ n2_ n3_; clear hb hbox hg))
  go_loopg [3, 4] k (fun kq v3 v4 w' => ∃ (x3_1 : List (S53)) (x4_1 : Int), v4 = .int .i64 x4_1 ∧ Aside0 (truchmanref10_Each.l0 kq x3_1 x4_1 a0_0 l0_1 = some r) ∧ Aside0 (kq ≤ k) ∧ Aside0 (Kd.R k53 53 w' w.heap.size (fun _ => True) v3 x3_1) ∧ Aside0 (w'.heap[gb133]? = some (.cells #[.int .i64 a0_0, (.slice A0_1 l0_1.length c0_1)] 48 (0, 0))) ∧ Aside0 (Below w.heap.size w w'))
  case atStart => exact ⟨(([] : List (S53))), (1), (by first | rfl | (simp; done) | (simp [*]; done)), H', ⟨Nat.le_refl _⟩, ⟨by first | exact Kd.R_nil _ _ _ _ _ | exact Kd.N_nil _ _ _ _ _ | exact Kd.V_nil _ _ _ _ _ | exact Kd.Q_nil _ _ _ _ _ | exact Kd.S_nil _ _ _ _ _⟩, ⟨by (with_reducible repeat (first | refine blk_drewN ?_ _ | refine blk_drew ?_ | refine blk_alloc ?_ _)); exact BK133.out⟩, ⟨by repeat (first | (with_reducible first | exact HB.out | apply below_alloc | apply pw_below_drewN | apply below_drew1 | refine below_set ?_ GE133.out) | exact HB.out)⟩⟩
  case round =>
    clear H'
    try clear p2
    obtain ⟨x3_1, x4_1, rfl, HA, HK1, HO_3, BK133, HB⟩ := hrel
    cases gk with
    | zero => exact absurd HA.out (by simp [truchmanref10_Each.l0])
    | succ k1 =>
      have H := HA.out
      clear HA
      simp only [truchmanref10_Each.l0] at H
      by_cases c3 : x4_1 ≤ a0_0
      · rw [if_pos c3] at H
        have c3b0 : decide (x4_1 ≤ a0_0) = true := decide_eq_true c3
        clear c3
        have H' := Aside0.mk H
        clear H
        have hcz4_0 : wr.cell? ⟨gb133, 0, none⟩ = some (.int .i64 a0_0) := (blk_cell BK133.out 0).trans rfl
        have hcz4_1 : wr.cell? ⟨gb133, 1, none⟩ = some (.slice A0_1 l0_1.length c0_1) := (blk_cell BK133.out 1).trans rfl
        have hfz4_0 := blk_frozen BK133.out 0
        have hfz4_1 := blk_frozen BK133.out 1
        go_wp2
        go_loopg [3, 5] k1 (fun kq v3 v5 w' => ∃ (x3_2 : List (S53)) (x5_2 : Int), v5 = .int .i64 x5_2 ∧ Aside0 (truchmanref10_Each.l1 kq x3_2 x4_1 x5_2 a0_0 l0_1 = some r) ∧ Aside0 (kq ≤ k1) ∧ Aside0 (Kd.R k53 53 w' w.heap.size (fun _ => True) v3 x3_2) ∧ Aside0 (w'.heap[gb133]? = some (.cells #[.int .i64 a0_0, (.slice A0_1 l0_1.length c0_1)] 48 (0, 0))) ∧ Aside0 (Below w.heap.size w w'))
        case atStart => exact ⟨(x3_1), (0), (by first | rfl | (simp; done) | (simp [*]; done)), H', ⟨Nat.le_refl _⟩, ⟨by (with_reducible repeat (first | apply Kd.R_alloc | apply Kd.R_drewN | apply Kd.R_drew)); exact HO_3.out⟩, ⟨by (with_reducible repeat (first | refine blk_drewN ?_ _ | refine blk_drew ?_ | refine blk_alloc ?_ _)); exact BK133.out⟩, ⟨by repeat (first | (with_reducible first | exact HB.out | apply below_alloc | apply pw_below_drewN | apply below_drew1 | refine below_set ?_ GE133.out) | exact HB.out)⟩⟩
        case round =>
          clear H'
          try clear p2
          try clear c3
          try clear c3b0
          try clear hcz4_0
          try clear hcz4_1
          try clear hfz4_0
          try clear hfz4_1
          try clear p2
          obtain ⟨x3_2, x5_2, rfl, HA, HK2, HO_3, BK133, HB⟩ := hrel
          cases gk with
          | zero => exact absurd HA.out (by simp [truchmanref10_Each.l1])
          | succ k2 =>
            have H := HA.out
            clear HA
            simp only [truchmanref10_Each.l1] at H
            by_cases c5 : x5_2 < (l0_1.length : Int)
            · rw [if_pos c5] at H
              have c5b0 : decide (x5_2 < (l0_1.length : Int)) = true := decide_eq_true c5
              clear c5
              by_cases c6 : 0 ≤ x5_2
              · rw [if_pos c6] at H
                have c6b0 : decide (0 ≤ x5_2) = true := decide_eq_true c6
                clear c6
                obtain ⟨bq7, hbq7⟩ : ∃ b_ : Bool, b_ = ((rd_T53 l0_1 x5_2).f2) := ⟨_, rfl⟩
                replace H : (if bq7 = true then (if ((rd_T53 l0_1 x5_2).f0.f0) = x4_1 then (if x3_2.length < 4398046511104 then (truchmanref10_Each.l1 k2 (x3_2 ++ [(⟨(⟨(rd_T53 l0_1 x5_2).f0.f0, (rd_T53 l0_1 x5_2).f0.f1⟩ : S29), (rd_T53 l0_1 x5_2).f1, bq7⟩ : S53)]) x4_1 (wrap64 (x5_2 + 1)) a0_0 l0_1) else (none)) else (truchmanref10_Each.l1 k2 x3_2 x4_1 (wrap64 (x5_2 + 1)) a0_0 l0_1)) else (truchmanref10_Each.l1 k2 x3_2 x4_1 (wrap64 (x5_2 + 1)) a0_0 l0_1)) = some r := by rw [← hbq7] at H; exact H
                have Nbq7 := Aside0.mk hbq7
                clear hbq7
                by_cases c8 : bq7 = true
                · subst c8
                  have H1 : (if ((rd_T53 l0_1 x5_2).f0.f0) = x4_1 then (if x3_2.length < 4398046511104 then (truchmanref10_Each.l1 k2 (x3_2 ++ [(⟨(⟨(rd_T53 l0_1 x5_2).f0.f0, (rd_T53 l0_1 x5_2).f0.f1⟩ : S29), (rd_T53 l0_1 x5_2).f1, true⟩ : S53)]) x4_1 (wrap64 (x5_2 + 1)) a0_0 l0_1) else (none)) else (truchmanref10_Each.l1 k2 x3_2 x4_1 (wrap64 (x5_2 + 1)) a0_0 l0_1)) = some r := by rw [if_pos rfl] at H; exact H
                  clear H
                  have H := H1
                  clear H1
                  by_cases c9 : ((rd_T53 l0_1 x5_2).f0.f0) = x4_1
                  · rw [if_pos c9] at H
                    have c9b0 : (((rd_T53 l0_1 x5_2).f0.f0) == x4_1) = true := beq_iff_eq.mpr c9
                    have c9b1 : (((rd_T53 l0_1 x5_2).f0.f0) != x4_1) = false := bne_eq_false_iff_eq.mpr c9
                    clear c9
                    by_cases c10 : x3_2.length < 4398046511104
                    · rw [if_pos c10] at H
                      have LMc10 := Aside0.mk c10
                      clear c10
                      obtain ⟨y137, hy137⟩ : ∃ y_ : List (S53), y_ = (x3_2 ++ [(⟨(⟨(rd_T53 l0_1 x5_2).f0.f0, (rd_T53 l0_1 x5_2).f0.f1⟩ : S29), (rd_T53 l0_1 x5_2).f1, true⟩ : S53)]) := ⟨_, rfl⟩
                      replace H : (truchmanref10_Each.l1 k2 y137 x4_1 (wrap64 (x5_2 + 1)) a0_0 l0_1) = some r := by first | (rw [hy137]; with_reducible exact H) | (have H2_ := (Option.bind_some _ _).symm.trans H; rw [hy137]; with_reducible exact H2_) | (have H2_ := (Option.bind_some _ _).symm.trans H; with_reducible exact H2_) | with_reducible exact H | (rw [hy137]; exact H) | exact H
                      have Ny137 := Aside0.mk hy137
                      clear hy137
                      have H' := Aside0.mk H
                      clear H
                      have hcz11_0 : wr.cell? ⟨gb133, 0, none⟩ = some (.int .i64 a0_0) := (blk_cell BK133.out 0).trans rfl
                      have hcz11_1 : wr.cell? ⟨gb133, 1, none⟩ = some (.slice A0_1 l0_1.length c0_1) := (blk_cell BK133.out 1).trans rfl
                      have hfz11_0 := blk_frozen BK133.out 0
                      have hfz11_1 := blk_frozen BK133.out 1
                      have p134 : 0 ≤ (x5_2 : Int) := of_decide_eq_true (by first | (with_reducible assumption) | assumption)
                      have q134 : x5_2 < (l0_1.length : Int) := of_decide_eq_true (by first | (with_reducible assumption) | assumption)
                      obtain ⟨ad134, e134, hx134_0, hx134_1, hx134_2, hx134_3⟩ := at_T53 HR0_1.out x5_2 p134 q134
                      (try rw [← Nbq7.out] at hx134_3)
                      cases e134
                      replace hx134_0 := (HB.out.cell (World.block_lt_of_cell? w _ hx134_0)).trans hx134_0
                      replace hx134_1 := (HB.out.cell (World.block_lt_of_cell? w _ hx134_1)).trans hx134_1
                      replace hx134_2 := (HB.out.cell (World.block_lt_of_cell? w _ hx134_2)).trans hx134_2
                      replace hx134_3 := (HB.out.cell (World.block_lt_of_cell? w _ hx134_3)).trans hx134_3
                      replace p134 := eq_true p134
                      replace q134 := eq_true q134
                      have p135 : 0 ≤ (x5_2 : Int) := of_decide_eq_true (by first | (with_reducible assumption) | assumption)
                      have q135 : x5_2 < (l0_1.length : Int) := of_decide_eq_true (by first | (with_reducible assumption) | assumption)
                      obtain ⟨ad135, e135, hx135_0, hx135_1, hx135_2, hx135_3⟩ := at_T53 HR0_1.out x5_2 p135 q135
                      (try rw [← Nbq7.out] at hx135_3)
                      obtain rfl : ad134 = ad135 := (by injection e135)
                      replace hx135_0 := (HB.out.cell (World.block_lt_of_cell? w _ hx135_0)).trans hx135_0
                      replace hx135_1 := (HB.out.cell (World.block_lt_of_cell? w _ hx135_1)).trans hx135_1
                      replace hx135_2 := (HB.out.cell (World.block_lt_of_cell? w _ hx135_2)).trans hx135_2
                      replace hx135_3 := (HB.out.cell (World.block_lt_of_cell? w _ hx135_3)).trans hx135_3
                      replace p135 := eq_true p135
                      replace q135 := eq_true q135
                      have p136 : 0 ≤ (x5_2 : Int) := of_decide_eq_true (by first | (with_reducible assumption) | assumption)
                      have q136 : x5_2 < (l0_1.length : Int) := of_decide_eq_true (by first | (with_reducible assumption) | assumption)
                      obtain ⟨ad136, e136, hx136_0, hx136_1, hx136_2, hx136_3⟩ := at_T53 HR0_1.out x5_2 p136 q136
                      (try rw [← Nbq7.out] at hx136_3)
                      obtain rfl : ad134 = ad136 := (by injection e136)
                      replace hx136_0 := (HB.out.cell (World.block_lt_of_cell? w _ hx136_0)).trans hx136_0
                      replace hx136_1 := (HB.out.cell (World.block_lt_of_cell? w _ hx136_1)).trans hx136_1
                      replace hx136_2 := (HB.out.cell (World.block_lt_of_cell? w _ hx136_2)).trans hx136_2
                      replace hx136_3 := (HB.out.cell (World.block_lt_of_cell? w _ hx136_3)).trans hx136_3
                      replace p136 := eq_true p136
                      replace q136 := eq_true q136
                      go_wp2_with (first | ((with_reducible refine gate_builtin (b := .append) (xs := #[.tmp 36, .tmp 42]) rfl ?_); at_builtin; refine Kd.R_append k53 (w0 := w) w.heap.size rfl (.tmp 36) (.tmp 42) 46 53 (.agg #[(.int .i64 0), (.int .i64 0), (.int .i64 0), (.bool false)]) 32 rfl Try.underlying46 info53 rfl (by decide) (by omega) u3 x3_2 (⟨(⟨(rd_T53 l0_1 x5_2).f0.f0, (rd_T53 l0_1 x5_2).f0.f1⟩ : S29), (rd_T53 l0_1 x5_2).f1, true⟩ : S53) [.int .i64 ((rd_T53 l0_1 x5_2).f0.f0), .int .i64 ((rd_T53 l0_1 x5_2).f0.f1), .int .i64 ((rd_T53 l0_1 x5_2).f1), .bool true] (fun _ => True) (fun _ => False) rfl rfl ?aP (fun _ hk => hk.elim) ?aF ?aO ?aB ?aS ?aL ?_; (case aP => exact k53_mkM _ _ _ (⟨(⟨(rd_T53 l0_1 x5_2).f0.f0, (rd_T53 l0_1 x5_2).f0.f1⟩ : S29), (rd_T53 l0_1 x5_2).f1, true⟩ : S53)); (case aB => exact (by repeat (first | (with_reducible first | exact HB.out | apply below_alloc | apply pw_below_drewN | apply below_drew1 | refine below_set ?_ GE133.out) | exact HB.out))); (case aF => exact (fun _ _ => trivial)); (case aO => exact (by (with_reducible repeat (first | apply Kd.R_alloc | apply Kd.R_drewN | apply Kd.R_drew)); exact HO_3.out)); (case aS => exact (below_size (by repeat (first | (with_reducible first | exact HB.out | apply below_alloc | apply pw_below_drewN | apply below_drew1 | refine below_set ?_ GE133.out) | exact HB.out)))); (case aL => have := LMc10.out; omega); intro v138 w12 ho hb hg hat; rw [← Ny137.out] at ho; have n0_ := Aside0.mk (blk_grown (g := gb133) (o := .cells #[.int .i64 a0_0, .slice (some ad134) l0_1.length c0_1] 48 (0, 0)) (by (with_reducible repeat (first | refine blk_drewN ?_ _ | refine blk_drew ?_ | refine blk_alloc ?_ _)); exact BK133.out) hg (Kd.R_ne HO_3.out BK133.out (by decide))); have n1_ := Aside0.mk (hb); have n2_ := Aside0.mk (ho); clear BK133; clear HB; clear HO_3; have BK133 := n0_; have HB := n1_; have HO139 := n2_; clear n0_ n1_ n2_; clear ho hb hg hat))
                      go_roundg k2
                      case measure => have := HK1.out; have := HK2.out; omega
                      case rel => exact ⟨(y137), (wrap64 (x5_2 + 1)), (by first | rfl | (simp; done) | (simp [*]; done)), H', ⟨by have := HK1.out; have := HK2.out; omega⟩, ⟨by (with_reducible repeat (first | apply Kd.R_alloc | apply Kd.R_drewN | apply Kd.R_drew)); exact HO139.out⟩, ⟨by (with_reducible repeat (first | refine blk_drewN ?_ _ | refine blk_drew ?_ | refine blk_alloc ?_ _)); exact BK133.out⟩, ⟨by repeat (first | (with_reducible first | exact HB.out | apply below_alloc | apply pw_below_drewN | apply below_drew1 | refine below_set ?_ GE133.out) | exact HB.out)⟩⟩
                    · rw [if_neg c10] at H
                      exact absurd H (by simp)
                  · rw [if_neg c9] at H
                    have c9b0 : (((rd_T53 l0_1 x5_2).f0.f0) == x4_1) = false := beq_eq_false_iff_ne.mpr c9
                    have c9b1 : (((rd_T53 l0_1 x5_2).f0.f0) != x4_1) = true := bne_iff_ne.mpr c9
                    have H' := Aside0.mk H
                    clear H
                    have hcz13_0 : wr.cell? ⟨gb133, 0, none⟩ = some (.int .i64 a0_0) := (blk_cell BK133.out 0).trans rfl
                    have hcz13_1 : wr.cell? ⟨gb133, 1, none⟩ = some (.slice A0_1 l0_1.length c0_1) := (blk_cell BK133.out 1).trans rfl
                    have hfz13_0 := blk_frozen BK133.out 0
                    have hfz13_1 := blk_frozen BK133.out 1
                    have p134 : 0 ≤ (x5_2 : Int) := of_decide_eq_true (by first | (with_reducible assumption) | assumption)
                    have q134 : x5_2 < (l0_1.length : Int) := of_decide_eq_true (by first | (with_reducible assumption) | assumption)
                    obtain ⟨ad134, e134, hx134_0, hx134_1, hx134_2, hx134_3⟩ := at_T53 HR0_1.out x5_2 p134 q134
                    (try rw [← Nbq7.out] at hx134_3)
                    cases e134
                    replace hx134_0 := (HB.out.cell (World.block_lt_of_cell? w _ hx134_0)).trans hx134_0
                    replace hx134_1 := (HB.out.cell (World.block_lt_of_cell? w _ hx134_1)).trans hx134_1
                    replace hx134_2 := (HB.out.cell (World.block_lt_of_cell? w _ hx134_2)).trans hx134_2
                    replace hx134_3 := (HB.out.cell (World.block_lt_of_cell? w _ hx134_3)).trans hx134_3
                    replace p134 := eq_true p134
                    replace q134 := eq_true q134
                    have p135 : 0 ≤ (x5_2 : Int) := of_decide_eq_true (by first | (with_reducible assumption) | assumption)
                    have q135 : x5_2 < (l0_1.length : Int) := of_decide_eq_true (by first | (with_reducible assumption) | assumption)
                    obtain ⟨ad135, e135, hx135_0, hx135_1, hx135_2, hx135_3⟩ := at_T53 HR0_1.out x5_2 p135 q135
                    (try rw [← Nbq7.out] at hx135_3)
                    obtain rfl : ad134 = ad135 := (by injection e135)
                    replace hx135_0 := (HB.out.cell (World.block_lt_of_cell? w _ hx135_0)).trans hx135_0
                    replace hx135_1 := (HB.out.cell (World.block_lt_of_cell? w _ hx135_1)).trans hx135_1
                    replace hx135_2 := (HB.out.cell (World.block_lt_of_cell? w _ hx135_2)).trans hx135_2
                    replace hx135_3 := (HB.out.cell (World.block_lt_of_cell? w _ hx135_3)).trans hx135_3
                    replace p135 := eq_true p135
                    replace q135 := eq_true q135
                    go_wp2
                    go_roundg k2
                    case measure => have := HK1.out; have := HK2.out; omega
                    case rel => exact ⟨(x3_2), (wrap64 (x5_2 + 1)), (by first | rfl | (simp; done) | (simp [*]; done)), H', ⟨by have := HK1.out; have := HK2.out; omega⟩, ⟨by (with_reducible repeat (first | apply Kd.R_alloc | apply Kd.R_drewN | apply Kd.R_drew)); exact HO_3.out⟩, ⟨by (with_reducible repeat (first | refine blk_drewN ?_ _ | refine blk_drew ?_ | refine blk_alloc ?_ _)); exact BK133.out⟩, ⟨by repeat (first | (with_reducible first | exact HB.out | apply below_alloc | apply pw_below_drewN | apply below_drew1 | refine below_set ?_ GE133.out) | exact HB.out)⟩⟩
                · replace c8 := Bool.eq_false_iff.mpr c8
                  subst c8
                  have H1 : (truchmanref10_Each.l1 k2 x3_2 x4_1 (wrap64 (x5_2 + 1)) a0_0 l0_1) = some r := by rw [if_neg (show ¬ (false = true) by decide)] at H; exact H
                  clear H
                  have H := H1
                  clear H1
                  have H' := Aside0.mk H
                  clear H
                  have hcz14_0 : wr.cell? ⟨gb133, 0, none⟩ = some (.int .i64 a0_0) := (blk_cell BK133.out 0).trans rfl
                  have hcz14_1 : wr.cell? ⟨gb133, 1, none⟩ = some (.slice A0_1 l0_1.length c0_1) := (blk_cell BK133.out 1).trans rfl
                  have hfz14_0 := blk_frozen BK133.out 0
                  have hfz14_1 := blk_frozen BK133.out 1
                  have p134 : 0 ≤ (x5_2 : Int) := of_decide_eq_true (by first | (with_reducible assumption) | assumption)
                  have q134 : x5_2 < (l0_1.length : Int) := of_decide_eq_true (by first | (with_reducible assumption) | assumption)
                  obtain ⟨ad134, e134, hx134_0, hx134_1, hx134_2, hx134_3⟩ := at_T53 HR0_1.out x5_2 p134 q134
                  (try rw [← Nbq7.out] at hx134_3)
                  cases e134
                  replace hx134_0 := (HB.out.cell (World.block_lt_of_cell? w _ hx134_0)).trans hx134_0
                  replace hx134_1 := (HB.out.cell (World.block_lt_of_cell? w _ hx134_1)).trans hx134_1
                  replace hx134_2 := (HB.out.cell (World.block_lt_of_cell? w _ hx134_2)).trans hx134_2
                  replace hx134_3 := (HB.out.cell (World.block_lt_of_cell? w _ hx134_3)).trans hx134_3
                  replace p134 := eq_true p134
                  replace q134 := eq_true q134
                  go_wp2
                  go_roundg k2
                  case measure => have := HK1.out; have := HK2.out; omega
                  case rel => exact ⟨(x3_2), (wrap64 (x5_2 + 1)), (by first | rfl | (simp; done) | (simp [*]; done)), H', ⟨by have := HK1.out; have := HK2.out; omega⟩, ⟨by (with_reducible repeat (first | apply Kd.R_alloc | apply Kd.R_drewN | apply Kd.R_drew)); exact HO_3.out⟩, ⟨by (with_reducible repeat (first | refine blk_drewN ?_ _ | refine blk_drew ?_ | refine blk_alloc ?_ _)); exact BK133.out⟩, ⟨by repeat (first | (with_reducible first | exact HB.out | apply below_alloc | apply pw_below_drewN | apply below_drew1 | refine below_set ?_ GE133.out) | exact HB.out)⟩⟩
              · rw [if_neg c6] at H
                exact absurd H (by simp)
            · rw [if_neg c5] at H
              have c5b0 : decide (x5_2 < (l0_1.length : Int)) = false := decide_eq_false c5
              clear c5
              have H' := Aside0.mk H
              clear H
              have hcz15_0 : wr.cell? ⟨gb133, 0, none⟩ = some (.int .i64 a0_0) := (blk_cell BK133.out 0).trans rfl
              have hcz15_1 : wr.cell? ⟨gb133, 1, none⟩ = some (.slice A0_1 l0_1.length c0_1) := (blk_cell BK133.out 1).trans rfl
              have hfz15_0 := blk_frozen BK133.out 0
              have hfz15_1 := blk_frozen BK133.out 1
              go_wp2
              go_roundg k2
              case measure => have := HK1.out; have := HK2.out; omega
              case rel => exact ⟨(x3_2), (wrap64 (x4_1 + 1)), (by first | rfl | (simp; done) | (simp [*]; done)), H', ⟨by have := HK1.out; have := HK2.out; omega⟩, ⟨by (with_reducible repeat (first | apply Kd.R_alloc | apply Kd.R_drewN | apply Kd.R_drew)); exact HO_3.out⟩, ⟨by (with_reducible repeat (first | refine blk_drewN ?_ _ | refine blk_drew ?_ | refine blk_alloc ?_ _)); exact BK133.out⟩, ⟨by repeat (first | (with_reducible first | exact HB.out | apply below_alloc | apply pw_below_drewN | apply below_drew1 | refine below_set ?_ GE133.out) | exact HB.out)⟩⟩
      · rw [if_neg c3] at H
        have c3b0 : decide (x4_1 ≤ a0_0) = false := decide_eq_false c3
        clear c3
        obtain rfl := Option.some.inj H
        have hcz16_0 : wr.cell? ⟨gb133, 0, none⟩ = some (.int .i64 a0_0) := (blk_cell BK133.out 0).trans rfl
        have hcz16_1 : wr.cell? ⟨gb133, 1, none⟩ = some (.slice A0_1 l0_1.length c0_1) := (blk_cell BK133.out 1).trans rfl
        have hfz16_0 := blk_frozen BK133.out 0
        have hfz16_1 := blk_frozen BK133.out 1
        go_wp2
        go_ret
        exact ⟨_, by first | rfl | (simp [errW_none, errW_some] <;> rfl) | (simp [*, errW_none, errW_some] <;> rfl), by (with_reducible repeat (first | apply Kd.R_alloc | apply Kd.R_drewN | apply Kd.R_drew)); exact HO_3.out, by repeat (first | (with_reducible first | exact HB.out | apply below_alloc | apply pw_below_drewN | apply below_drew1 | refine below_set ?_ GE133.out) | exact HB.out)⟩

-- NOT PRINTED: function 20 (truchmanlaw10_like)

-- NOT PRINTED: function 5 (truchmanlaw10_InodePlays)

-- NOT PRINTED: function 6 (truchmanlaw10_InodeOther)

-- NOT PRINTED: function 7 (truchmanlaw10_InodeApart)

end Go.Proofs.Ytbjmgmngomlmfaa.R
