-- Printed for Ytaipnchallmioaa by hprint.py, a program of this session over the kit's print.py, some functions taken from texts by hand.
import Derived.Test.YtaipnchallmioaaBx0
import Derived.Test.YtaipnchallmioaaBx1
import Derived.Test.YtaipnchallmioaaBx5
import Derived.Test.YtaipnchallmioaaBx7
namespace Go.Proofs.Ytaipnchallmioaa.B
open Go.RowKit Go.Proofs.YtaipnchallmioaaW.PrintWords Go.Proofs.YtaipnchallmioaaW.PrintLast Go.Proofs.YtaipnchallmioaaW.PrintMore
attribute [local go_sem] max2_int min2_int max_two min_two max_three min_three max_four min_four   -- for this text's walks alone
set_option linter.unusedVariables false
set_option linter.unusedSimpArgs false

/-! ### truchmanlaw12_BlobBounds: function 9 -/
mutual
def truchmanlaw12_BlobBounds.l0 : Nat → Int → Int → List Int → Int → Option (Bool)
  | 0, _, _, _, _ => none
  | k + 1, x2, x7, x8, x9 => if x9 < 2 then (if 0 ≤ x9 then (if x9 < (x8.length : Int) then (if 0 ≤ (rd x8 x9) then (if (rd x8 x9 : Int).toNat ≤ 281474976710656 then ((blob_Write.f k ([] : List Int) x7 (List.replicate (rd x8 x9 : Int).toNat 0)).bind fun bt286 => ((blob_Write.f k ([] : List Int) 0 (List.replicate (rd x8 x9 : Int).toNat 0)).bind fun bt294 => (if (rd x8 x9) > 0 then (truchmanlaw12_BlobBounds.j1 k x2 x7 x8 x9 bt286.1 bt286.2 bt294.1 bt294.2 (decide ((wrap64 (x7 + (rd x8 x9))) > 2048))) else (truchmanlaw12_BlobBounds.j1 k x2 x7 x8 x9 bt286.1 bt286.2 bt294.1 bt294.2 false)))) else (none)) else (none)) else (none)) else (none)) else ((truchmanref01_Around.f x2 31).bind fun t275 => ((blob_Resize.f k ([] : List Int) (wrap64 (2030 + t275))).bind fun bt276 => (if ((bt276.2 == 0) == (decide ((wrap64 (2030 + t275)) ≤ 2048))) = true then (if bt276.2 = 0 then (if (bt276.1.length : Int) = (wrap64 (2030 + t275)) then ((truchmanlaw12_lives.f).bind fun t280 => (some t280)) else (some false)) else (if bt276.2 = 15 then (if (bt276.1.length : Int) = 0 then ((truchmanlaw12_lives.f).bind fun t281 => (some t281)) else (some false)) else (some false))) else (some false))))
def truchmanlaw12_BlobBounds.j1 : Nat → Int → Int → List Int → Int → List Int → Int → List Int → Int → Bool → Option (Bool)
  | 0, _, _, _, _, _, _, _, _, _ => none
  | k + 1, x2, x7, x8, x9, x10, x11, x12, x13, x14 => if ((x11 == 15) != x14) = true then (truchmanlaw12_BlobBounds.j2 k x2 x7 x8 x9 x10 x11 x12 x13 true) else (if x14 = true then (if 0 ≤ x9 then (if x9 < (x8.length : Int) then (if ((x13 == 0) != (decide ((rd x8 x9) ≤ 2048))) = true then (truchmanlaw12_BlobBounds.j2 k x2 x7 x8 x9 x10 x11 x12 x13 true) else ((blob_Fits.f 0 x7 (rd x8 x9) 9999).bind fun t302 => (truchmanlaw12_BlobBounds.j2 k x2 x7 x8 x9 x10 x11 x12 x13 (t302 != x11)))) else (none)) else (none)) else (if x11 = 0 then (if 0 ≤ x9 then (if x9 < (x8.length : Int) then (if ((x13 == 0) != (decide ((rd x8 x9) ≤ 2048))) = true then (truchmanlaw12_BlobBounds.j2 k x2 x7 x8 x9 x10 x11 x12 x13 true) else ((blob_Fits.f 0 x7 (rd x8 x9) 9999).bind fun t305 => (truchmanlaw12_BlobBounds.j2 k x2 x7 x8 x9 x10 x11 x12 x13 (t305 != x11)))) else (none)) else (none)) else (truchmanlaw12_BlobBounds.j2 k x2 x7 x8 x9 x10 x11 x12 x13 true)))
def truchmanlaw12_BlobBounds.j2 : Nat → Int → Int → List Int → Int → List Int → Int → List Int → Int → Bool → Option (Bool)
  | 0, _, _, _, _, _, _, _, _, _ => none
  | k + 1, x2, x7, x8, x9, x10, x11, x12, x13, x95 => if x95 = true then (some false) else (if x11 = 0 then (if 0 ≤ x9 then (if x9 < (x8.length : Int) then (if (rd x8 x9) > 0 then (truchmanlaw12_BlobBounds.j3 k x2 x7 x8 x9 x12 x13 ((x10.length : Int) != (wrap64 (x7 + (rd x8 x9))))) else (truchmanlaw12_BlobBounds.j3 k x2 x7 x8 x9 x12 x13 false)) else (none)) else (none)) else (truchmanlaw12_BlobBounds.j3 k x2 x7 x8 x9 x12 x13 false))
def truchmanlaw12_BlobBounds.j3 : Nat → Int → Int → List Int → Int → List Int → Int → Bool → Option (Bool)
  | 0, _, _, _, _, _, _, _ => none
  | k + 1, x2, x7, x8, x9, x12, x13, x115 => if x115 = true then (some false) else (if x13 = 0 then (if 0 ≤ x9 then (if x9 < (x8.length : Int) then (if (x12.length : Int) = (rd x8 x9) then (truchmanlaw12_BlobBounds.l0 k x2 x7 x8 (wrap64 (x9 + 1))) else (some false)) else (none)) else (none)) else (truchmanlaw12_BlobBounds.l0 k x2 x7 x8 (wrap64 (x9 + 1))))
end
def truchmanlaw12_BlobBounds.f (k : Nat) (a0 : Int) (a1 : Int) (a2 : Int) : Option (Bool) := (truchmanref01_Around.f a0 31).bind fun t269 => ((truchmanref01_Around.f a1 31).bind fun t270 => ((truchmanref01_Around.f a1 31).bind fun t271 => (truchmanlaw12_BlobBounds.l0 k a2 (wrap64 (2030 + t269)) (([t270, wrap64 (2030 + t271)] : List Int)) 0)))
theorem truchmanlaw12_BlobBounds.mono_l : ∀ k, (∀ y0 y1 y2 y3, LeO (truchmanlaw12_BlobBounds.l0 k y0 y1 y2 y3) (truchmanlaw12_BlobBounds.l0 (k + 1) y0 y1 y2 y3)) ∧ (∀ y0 y1 y2 y3 y4 y5 y6 y7 y8, LeO (truchmanlaw12_BlobBounds.j1 k y0 y1 y2 y3 y4 y5 y6 y7 y8) (truchmanlaw12_BlobBounds.j1 (k + 1) y0 y1 y2 y3 y4 y5 y6 y7 y8)) ∧ (∀ y0 y1 y2 y3 y4 y5 y6 y7 y8, LeO (truchmanlaw12_BlobBounds.j2 k y0 y1 y2 y3 y4 y5 y6 y7 y8) (truchmanlaw12_BlobBounds.j2 (k + 1) y0 y1 y2 y3 y4 y5 y6 y7 y8)) ∧ (∀ y0 y1 y2 y3 y4 y5 y6, LeO (truchmanlaw12_BlobBounds.j3 k y0 y1 y2 y3 y4 y5 y6) (truchmanlaw12_BlobBounds.j3 (k + 1) y0 y1 y2 y3 y4 y5 y6))
  | 0 => ⟨fun _ _ _ _ r h => by simp [truchmanlaw12_BlobBounds.l0] at h, fun _ _ _ _ _ _ _ _ _ r h => by simp [truchmanlaw12_BlobBounds.j1] at h, fun _ _ _ _ _ _ _ _ _ r h => by simp [truchmanlaw12_BlobBounds.j2] at h, fun _ _ _ _ _ _ _ r h => by simp [truchmanlaw12_BlobBounds.j3] at h⟩
  | k + 1 => by
    obtain ⟨ih0, ih1, ih2, ih3⟩ := truchmanlaw12_BlobBounds.mono_l k
    refine ⟨?_, ?_, ?_, ?_⟩
    · intro y0 y1 y2 y3
      unfold truchmanlaw12_BlobBounds.l0
      repeat' first
      | (with_reducible exact ih0 _ _ _ _)
      | (with_reducible exact ih1 _ _ _ _ _ _ _ _ _)
      | (with_reducible exact ih2 _ _ _ _ _ _ _ _ _)
      | (with_reducible exact ih3 _ _ _ _ _ _ _)
      | (with_reducible exact blob_Resize.mono _ _ _)
      | (with_reducible exact blob_Write.mono _ _ _ _)
      | (with_reducible exact LeO.refl _)
      | (with_reducible exact LeO.none _)
      | (with_reducible refine LeO.ite ?_ ?_)
      | (with_reducible refine LeO.bind ?_ (fun _ => ?_))
      | exact ih0 _ _ _ _
      | exact ih1 _ _ _ _ _ _ _ _ _
      | exact ih2 _ _ _ _ _ _ _ _ _
      | exact ih3 _ _ _ _ _ _ _
      | exact blob_Resize.mono _ _ _
      | exact blob_Write.mono _ _ _ _
      | exact LeO.none _
      | refine LeO.ite ?_ ?_
      | refine LeO.bind ?_ (fun _ => ?_)
    · intro y0 y1 y2 y3 y4 y5 y6 y7 y8
      unfold truchmanlaw12_BlobBounds.j1
      repeat' first
      | (with_reducible exact ih0 _ _ _ _)
      | (with_reducible exact ih1 _ _ _ _ _ _ _ _ _)
      | (with_reducible exact ih2 _ _ _ _ _ _ _ _ _)
      | (with_reducible exact ih3 _ _ _ _ _ _ _)
      | (with_reducible exact blob_Resize.mono _ _ _)
      | (with_reducible exact blob_Write.mono _ _ _ _)
      | (with_reducible exact LeO.refl _)
      | (with_reducible exact LeO.none _)
      | (with_reducible refine LeO.ite ?_ ?_)
      | (with_reducible refine LeO.bind ?_ (fun _ => ?_))
      | exact ih0 _ _ _ _
      | exact ih1 _ _ _ _ _ _ _ _ _
      | exact ih2 _ _ _ _ _ _ _ _ _
      | exact ih3 _ _ _ _ _ _ _
      | exact blob_Resize.mono _ _ _
      | exact blob_Write.mono _ _ _ _
      | exact LeO.none _
      | refine LeO.ite ?_ ?_
      | refine LeO.bind ?_ (fun _ => ?_)
    · intro y0 y1 y2 y3 y4 y5 y6 y7 y8
      unfold truchmanlaw12_BlobBounds.j2
      repeat' first
      | (with_reducible exact ih0 _ _ _ _)
      | (with_reducible exact ih1 _ _ _ _ _ _ _ _ _)
      | (with_reducible exact ih2 _ _ _ _ _ _ _ _ _)
      | (with_reducible exact ih3 _ _ _ _ _ _ _)
      | (with_reducible exact blob_Resize.mono _ _ _)
      | (with_reducible exact blob_Write.mono _ _ _ _)
      | (with_reducible exact LeO.refl _)
      | (with_reducible exact LeO.none _)
      | (with_reducible refine LeO.ite ?_ ?_)
      | (with_reducible refine LeO.bind ?_ (fun _ => ?_))
      | exact ih0 _ _ _ _
      | exact ih1 _ _ _ _ _ _ _ _ _
      | exact ih2 _ _ _ _ _ _ _ _ _
      | exact ih3 _ _ _ _ _ _ _
      | exact blob_Resize.mono _ _ _
      | exact blob_Write.mono _ _ _ _
      | exact LeO.none _
      | refine LeO.ite ?_ ?_
      | refine LeO.bind ?_ (fun _ => ?_)
    · intro y0 y1 y2 y3 y4 y5 y6
      unfold truchmanlaw12_BlobBounds.j3
      repeat' first
      | (with_reducible exact ih0 _ _ _ _)
      | (with_reducible exact ih1 _ _ _ _ _ _ _ _ _)
      | (with_reducible exact ih2 _ _ _ _ _ _ _ _ _)
      | (with_reducible exact ih3 _ _ _ _ _ _ _)
      | (with_reducible exact blob_Resize.mono _ _ _)
      | (with_reducible exact blob_Write.mono _ _ _ _)
      | (with_reducible exact LeO.refl _)
      | (with_reducible exact LeO.none _)
      | (with_reducible refine LeO.ite ?_ ?_)
      | (with_reducible refine LeO.bind ?_ (fun _ => ?_))
      | exact ih0 _ _ _ _
      | exact ih1 _ _ _ _ _ _ _ _ _
      | exact ih2 _ _ _ _ _ _ _ _ _
      | exact ih3 _ _ _ _ _ _ _
      | exact blob_Resize.mono _ _ _
      | exact blob_Write.mono _ _ _ _
      | exact LeO.none _
      | refine LeO.ite ?_ ?_
      | refine LeO.bind ?_ (fun _ => ?_)
theorem truchmanlaw12_BlobBounds.mono : ∀ a0 a1 a2 k, LeO (truchmanlaw12_BlobBounds.f k a0 a1 a2) (truchmanlaw12_BlobBounds.f (k + 1) a0 a1 a2) := by
  intro a0 a1 a2 k
  obtain ⟨ih0, ih1, ih2, ih3⟩ := truchmanlaw12_BlobBounds.mono_l k
  unfold truchmanlaw12_BlobBounds.f
  repeat' first
      | (with_reducible exact ih0 _ _ _ _)
      | (with_reducible exact ih1 _ _ _ _ _ _ _ _ _)
      | (with_reducible exact ih2 _ _ _ _ _ _ _ _ _)
      | (with_reducible exact ih3 _ _ _ _ _ _ _)
      | (with_reducible exact blob_Resize.mono _ _ _)
      | (with_reducible exact blob_Write.mono _ _ _ _)
      | (with_reducible exact LeO.refl _)
      | (with_reducible exact LeO.none _)
      | (with_reducible refine LeO.ite ?_ ?_)
      | (with_reducible refine LeO.bind ?_ (fun _ => ?_))
      | exact ih0 _ _ _ _
      | exact ih1 _ _ _ _ _ _ _ _ _
      | exact ih2 _ _ _ _ _ _ _ _ _
      | exact ih3 _ _ _ _ _ _ _
      | exact blob_Resize.mono _ _ _
      | exact blob_Write.mono _ _ _ _
      | exact LeO.none _
      | refine LeO.ite ?_ ?_
      | refine LeO.bind ?_ (fun _ => ?_)
set_option maxHeartbeats 8000000 in
set_option maxRecDepth 100000 in
theorem truchmanlaw12_BlobBounds.calls (k : Nat) (a0 : Int) (a1 : Int) (a2 : Int) (r : Bool) (w : World) (h : truchmanlaw12_BlobBounds.f k a0 a1 a2 = some r) :
    Calls Try.prog 9 #[.int .i64 a0, .int .i64 a1, .int .i64 a2] w fun e w' => e = .returned (.bool r) ∧ Below w.heap.size w w' := by
  have HB := Aside0.mk (Below.refl w.heap.size w)
  have H : ((truchmanref01_Around.f a0 31).bind fun t269 => ((truchmanref01_Around.f a1 31).bind fun t270 => ((truchmanref01_Around.f a1 31).bind fun t271 => (truchmanlaw12_BlobBounds.l0 k a2 (wrap64 (2030 + t269)) (([t270, wrap64 (2030 + t271)] : List Int)) 0)))) = some r := h
  clear h
  replace H := Option.bind_eq_some_iff.mp H
  obtain ⟨t269, A40, H⟩ := H
  replace H : ((truchmanref01_Around.f a1 31).bind fun t270 => ((truchmanref01_Around.f a1 31).bind fun t271 => (truchmanlaw12_BlobBounds.l0 k a2 (wrap64 (2030 + t269)) (([t270, wrap64 (2030 + t271)] : List Int)) 0))) = some r := H
  have A4 := Aside0.mk A40
  clear A40
  replace H := Option.bind_eq_some_iff.mp H
  obtain ⟨t270, A50, H⟩ := H
  replace H : ((truchmanref01_Around.f a1 31).bind fun t271 => (truchmanlaw12_BlobBounds.l0 k a2 (wrap64 (2030 + t269)) (([t270, wrap64 (2030 + t271)] : List Int)) 0)) = some r := H
  have A5 := Aside0.mk A50
  clear A50
  replace H := Option.bind_eq_some_iff.mp H
  obtain ⟨t271, A60, H⟩ := H
  replace H : (truchmanlaw12_BlobBounds.l0 k a2 (wrap64 (2030 + t269)) (([t270, wrap64 (2030 + t271)] : List Int)) 0) = some r := H
  have A6 := Aside0.mk A60
  clear A60
  obtain ⟨y272, hy272⟩ : ∃ y_ : List Int, y_ = (([t270, wrap64 (2030 + t271)] : List Int)) := ⟨_, rfl⟩
  replace H : (truchmanlaw12_BlobBounds.l0 k a2 (wrap64 (2030 + t269)) y272 0) = some r := by first | (rw [hy272]; with_reducible exact H) | (have H2_ := (Option.bind_some _ _).symm.trans H; rw [hy272]; with_reducible exact H2_) | (have H2_ := (Option.bind_some _ _).symm.trans H; with_reducible exact H2_) | with_reducible exact H | (rw [hy272]; exact H) | exact H
  have Ny272 := Aside0.mk hy272
  clear hy272
  have H' := Aside0.mk H
  clear H
  go_enter Try.func9, Try.ntmps9
  go_wp2_with (first | ((with_reducible refine gate_callee (f := 12) rfl ?_); refine goesL_ (some 19) rfl rfl Try.func12 (by kernel_rfl) rfl #[.int .i64 a0, .int .i64 31] rfl (by (try simp only [List.map_toArray, List.map_cons, List.map_nil]); first | done | rfl | (simp only [List.length_drop, List.length_take]; rfl)) ?_; (with_reducible refine (truchmanref01_Around.calls a0 31 t269 _ A4.out).mono ?_); rintro e w' ⟨rfl, ⟨nd, rfl⟩⟩; refine ⟨_, rfl, ?_⟩) | ((with_reducible refine gate_callee (f := 12) rfl ?_); refine goesL_ (some 22) rfl rfl Try.func12 (by kernel_rfl) rfl #[.int .i64 a1, .int .i64 31] rfl (by (try simp only [List.map_toArray, List.map_cons, List.map_nil]); first | done | rfl | (simp only [List.length_drop, List.length_take]; rfl)) ?_; (with_reducible refine (truchmanref01_Around.calls a1 31 t270 _ A5.out).mono ?_); rintro e w' ⟨rfl, ⟨nd, rfl⟩⟩; refine ⟨_, rfl, ?_⟩) | ((with_reducible refine gate_callee (f := 12) rfl ?_); refine goesL_ (some 24) rfl rfl Try.func12 (by kernel_rfl) rfl #[.int .i64 a1, .int .i64 31] rfl (by (try simp only [List.map_toArray, List.map_cons, List.map_nil]); first | done | rfl | (simp only [List.length_drop, List.length_take]; rfl)) ?_; (with_reducible refine (truchmanref01_Around.calls a1 31 t271 _ A6.out).mono ?_); rintro e w' ⟨rfl, ⟨nd, rfl⟩⟩; refine ⟨_, rfl, ?_⟩) | ((with_reducible refine gate_dst (N := 26) rfl ?_); (try (refine gate_guard (by rfl) ?_; dsimp only)); refine Kd.R_lit (Kd.int .i64) _ 3 ?hg (N := 26) ?hd (xs := ([t270, wrap64 (2030 + t271)] : List Int)) (inner := [.int .i64 t270, .int .i64 (wrap64 (2030 + t271))]) (ok := fun _ => True) (okp := fun _ => True) ?hr ?hp (fun _ hk => by first | exact hk | exact hk.1 | exact hk.2 | exact hk.1.1 | exact hk.1.2 | exact hk.2.1 | exact hk.2.2 | exact hk) trivial (Below.refl _ _) (Nat.le_refl _) (by simp) ?_; (case hd => rfl); (case hg => rfl); (case hr => first | (go_simp; done) | (go_simp; rfl)); (case hp => exact (Reps.one (show Kd.M (Kd.int .i64) _ _ _ t270 [.int .i64 t270] from rfl) (Reps.one (show Kd.M (Kd.int .i64) _ _ _ (wrap64 (2030 + t271)) [.int .i64 (wrap64 (2030 + t271))] from rfl) (Reps.none _ _)))); intro v273 w7 ho8 hb hg_ hnew_; clear hg_ hnew_; (first | rw [← Ny272.out] at ho8 | (simp only [Int.reduceToNat] at ho8; rw [← Ny272.out] at ho8)); have n0_ := Aside0.mk (Kd.R_lower ho8 (below_size (by repeat (first | (with_reducible first | exact HB.out | apply below_alloc | apply pw_below_drewN | apply below_drew1) | exact HB.out)))); have n1_ := Aside0.mk (below_step (by repeat (first | (with_reducible first | exact HB.out | apply below_alloc | apply pw_below_drewN | apply below_drew1) | exact HB.out)) hb); clear HB; have HO274 := n0_; have HB := n1_; clear n0_ n1_; clear hb ho8))
  go_loopg [9] k (fun kq v9 w' => ∃ (x9_1 : Int), v9 = .int .i64 x9_1 ∧ Aside0 (truchmanlaw12_BlobBounds.l0 kq a2 (wrap64 (2030 + t269)) y272 x9_1 = some r) ∧ Aside0 (kq ≤ k) ∧ Aside0 (Kd.R (Kd.int .i64) 3 w' w.heap.size (fun _ => True) v273 y272) ∧ Aside0 (Below w.heap.size w w'))
  case atStart => exact ⟨(0), (by first | rfl | (simp; done) | (simp [*]; done)), H', ⟨Nat.le_refl _⟩, ⟨by (with_reducible repeat (first | apply Kd.R_alloc | apply Kd.R_drewN | apply Kd.R_drew)); exact HO274.out⟩, ⟨by repeat (first | (with_reducible first | exact HB.out | apply below_alloc | apply pw_below_drewN | apply below_drew1) | exact HB.out)⟩⟩
  case round =>
    clear H'
    try clear c1
    try clear p2
    try clear p6
    obtain ⟨x9_1, rfl, HA, HK1, HO_8, HB⟩ := hrel
    cases gk with
    | zero => exact absurd HA.out (by simp [truchmanlaw12_BlobBounds.l0])
    | succ k1 =>
      have H := HA.out
      clear HA
      simp only [truchmanlaw12_BlobBounds.l0] at H
      by_cases c9 : x9_1 < 2
      · rw [if_pos c9] at H
        have c9b0 : decide (x9_1 < 2) = true := decide_eq_true c9
        clear c9
        by_cases c10 : 0 ≤ x9_1
        · rw [if_pos c10] at H
          have c10b0 : decide (0 ≤ x9_1) = true := decide_eq_true c10
          clear c10
          by_cases c11 : x9_1 < (y272.length : Int)
          · rw [if_pos c11] at H
            have c11b0 : decide (x9_1 < (y272.length : Int)) = true := decide_eq_true c11
            clear c11
            by_cases c12 : 0 ≤ (rd y272 x9_1)
            · rw [if_pos c12] at H
              have c12b0 := eq_true c12
              have c12b1 : decide (0 ≤ (rd y272 x9_1)) = true := decide_eq_true c12
              clear c12
              by_cases c13 : (rd y272 x9_1 : Int).toNat ≤ 281474976710656
              · rw [if_pos c13] at H
                have c13b0 := eq_true c13
                have c13b1 : decide ((rd y272 x9_1 : Int).toNat ≤ 281474976710656) = true := decide_eq_true c13
                clear c13
                obtain ⟨y283, hy283⟩ : ∃ y_ : List Int, y_ = (List.replicate (rd y272 x9_1 : Int).toNat 0) := ⟨_, rfl⟩
                replace H : ((blob_Write.f k1 ([] : List Int) (wrap64 (2030 + t269)) y283).bind fun bt286 => ((blob_Write.f k1 ([] : List Int) 0 (List.replicate (rd y272 x9_1 : Int).toNat 0)).bind fun bt294 => (if (rd y272 x9_1) > 0 then (truchmanlaw12_BlobBounds.j1 k1 a2 (wrap64 (2030 + t269)) y272 x9_1 bt286.1 bt286.2 bt294.1 bt294.2 (decide ((wrap64 ((wrap64 (2030 + t269)) + (rd y272 x9_1))) > 2048))) else (truchmanlaw12_BlobBounds.j1 k1 a2 (wrap64 (2030 + t269)) y272 x9_1 bt286.1 bt286.2 bt294.1 bt294.2 false)))) = some r := by first | (rw [hy283]; with_reducible exact H) | (have H2_ := (Option.bind_some _ _).symm.trans H; rw [hy283]; with_reducible exact H2_) | (have H2_ := (Option.bind_some _ _).symm.trans H; with_reducible exact H2_) | with_reducible exact H | (rw [hy283]; exact H) | exact H
                have Ny283 := Aside0.mk hy283
                clear hy283
                replace H := Option.bind_eq_some_iff.mp H
                obtain ⟨⟨t286, t287⟩, A140, H⟩ := H
                replace H : ((blob_Write.f k1 ([] : List Int) 0 (List.replicate (rd y272 x9_1 : Int).toNat 0)).bind fun bt294 => (if (rd y272 x9_1) > 0 then (truchmanlaw12_BlobBounds.j1 k1 a2 (wrap64 (2030 + t269)) y272 x9_1 t286 t287 bt294.1 bt294.2 (decide ((wrap64 ((wrap64 (2030 + t269)) + (rd y272 x9_1))) > 2048))) else (truchmanlaw12_BlobBounds.j1 k1 a2 (wrap64 (2030 + t269)) y272 x9_1 t286 t287 bt294.1 bt294.2 false))) = some r := H
                have A14 := Aside0.mk A140
                clear A140
                obtain ⟨y291, hy291⟩ : ∃ y_ : List Int, y_ = (List.replicate (rd y272 x9_1 : Int).toNat 0) := ⟨_, rfl⟩
                replace H : ((blob_Write.f k1 ([] : List Int) 0 y291).bind fun bt294 => (if (rd y272 x9_1) > 0 then (truchmanlaw12_BlobBounds.j1 k1 a2 (wrap64 (2030 + t269)) y272 x9_1 t286 t287 bt294.1 bt294.2 (decide ((wrap64 ((wrap64 (2030 + t269)) + (rd y272 x9_1))) > 2048))) else (truchmanlaw12_BlobBounds.j1 k1 a2 (wrap64 (2030 + t269)) y272 x9_1 t286 t287 bt294.1 bt294.2 false))) = some r := by first | (rw [hy291]; with_reducible exact H) | (have H2_ := (Option.bind_some _ _).symm.trans H; rw [hy291]; with_reducible exact H2_) | (have H2_ := (Option.bind_some _ _).symm.trans H; with_reducible exact H2_) | with_reducible exact H | (rw [hy291]; exact H) | exact H
                have Ny291 := Aside0.mk hy291
                clear hy291
                replace H := Option.bind_eq_some_iff.mp H
                obtain ⟨⟨t294, t295⟩, A150, H⟩ := H
                replace H : (if (rd y272 x9_1) > 0 then (truchmanlaw12_BlobBounds.j1 k1 a2 (wrap64 (2030 + t269)) y272 x9_1 t286 t287 t294 t295 (decide ((wrap64 ((wrap64 (2030 + t269)) + (rd y272 x9_1))) > 2048))) else (truchmanlaw12_BlobBounds.j1 k1 a2 (wrap64 (2030 + t269)) y272 x9_1 t286 t287 t294 t295 false)) = some r := H
                have A15 := Aside0.mk A150
                clear A150
                have HC16 := Aside0.mk H
                clear H
                obtain ⟨Ao17, co17, eo17⟩ := Kd.R_slice HO_8.out
                subst eo17
                have p282 : 0 ≤ (x9_1 : Int) := of_decide_eq_true (by first | (with_reducible assumption) | assumption)
                have q282 : x9_1 < (y272.length : Int) := of_decide_eq_true (by first | (with_reducible assumption) | assumption)
                obtain ⟨ad282, e282, hx282_0⟩ := Kd.at_int (Kd.R_reads' HO_8.out).2.2 x9_1 p282 q282
                cases e282
                replace p282 := eq_true p282
                replace q282 := eq_true q282
                go_upto_region 8 with (first | ((with_reducible refine gate_dst (N := 37) rfl ?_); (try (refine gate_guard (by rfl) ?_; dsimp only)); refine Kd.R_make (Kd.int .u8) _ 5 rfl (N := 37) rfl 22 _ _ rfl (rd y272 x9_1) rfl rfl Try.underlying22 (.int .u8 0) 1 info5 rfl (by decide) (by omega) 0 (ok := fun _ => True) (okp := fun _ => True) rfl (fun _ hk => by first | exact hk | exact hk.1 | exact hk.2 | exact hk.1.1 | exact hk.1.2 | exact hk.2.1 | exact hk.2.2 | exact hk) trivial (of_decide_eq_true (by first | (with_reducible assumption) | assumption)) (Nat.le_trans (Nat.mul_le_mul_right _ (of_decide_eq_true (by first | (with_reducible assumption) | assumption) : (rd y272 x9_1).toNat ≤ 281474976710656)) (by omega)) (Below.refl _ _) (Nat.le_refl _) ?_; intro v284 w18 ho19 hb hg_ hnew_; clear hg_ hnew_; (first | rw [← Ny283.out] at ho19 | (simp only [Int.reduceToNat] at ho19; rw [← Ny283.out] at ho19)); have n0_ := Aside0.mk (Kd.R_below (by (with_reducible repeat (first | apply Kd.R_alloc | apply Kd.R_drewN | apply Kd.R_drew)); exact HO_8.out) hb); have n1_ := Aside0.mk (Kd.R_lower ho19 (below_size (by repeat (first | (with_reducible first | exact HB.out | apply below_alloc | apply pw_below_drewN | apply below_drew1) | exact HB.out)))); have n2_ := Aside0.mk (below_step (by repeat (first | (with_reducible first | exact HB.out | apply below_alloc | apply pw_below_drewN | apply below_drew1) | exact HB.out)) hb); clear HO_8; clear HB; have HO_8 := n0_; have HO285 := n1_; have HB := n2_; clear n0_ n1_ n2_; clear hb ho19; obtain ⟨Ao20, co20, eo20⟩ := Kd.R_slice HO285.out; subst eo20) | ((with_reducible refine gate_callee (f := 13) rfl ?_); refine goesL_ (some 38) rfl rfl Try.func13 (by kernel_rfl) rfl #[.slice none 0 0, .int .i64 (wrap64 (2030 + t269)), .slice Ao20 y283.length co20] rfl (by (try simp only [List.map_toArray, List.map_cons, List.map_nil]); first | done | rfl | (simp only [List.length_drop, List.length_take]; rfl)) ?_; (refine (blob_Write.calls k1 _ _ ([] : List Int) (wrap64 (2030 + t269)) _ _ y283 t286 t287 _ ?side1 ?side2 ?side3 ?side4 A14.out).mono ?_); (case side1 => exact Kd.C_nil _ _); (case side2 => exact Nat.le_refl _); (case side3 => repeat (first | exact (Kd.R_reads' HO285.out).2.2 | (with_reducible refine Kd.C_alloc ?_ _) | (with_reducible refine Kd.C_drewN ?_ _) | (with_reducible refine Kd.C_drew ?_))); (case side4 => exact (Kd.R_reads' HO285.out).2.1); rintro e w21 ⟨v288, rfl, ho0, hb⟩; refine ⟨_, rfl, ?_⟩; have n0_ := Aside0.mk (Kd.R_below (by (with_reducible repeat (first | apply Kd.R_alloc | apply Kd.R_drewN | apply Kd.R_drew)); exact HO_8.out) hb); have n1_ := Aside0.mk (Kd.R_elder' (by (with_reducible repeat (first | apply Kd.R_alloc | apply Kd.R_drewN | apply Kd.R_drew)); exact HO285.out) (Kd.R_base ho0) hb); have n2_ := Aside0.mk (Kd.R_lower (Kd.R_new' ho0 (Kd.R_lt (by (with_reducible repeat (first | apply Kd.R_alloc | apply Kd.R_drewN | apply Kd.R_drew)); exact HO285.out))) (below_size (by repeat (first | (with_reducible first | exact HB.out | apply below_alloc | apply pw_below_drewN | apply below_drew1) | exact HB.out)))); have n3_ := Aside0.mk (below_step (by repeat (first | (with_reducible first | exact HB.out | apply below_alloc | apply pw_below_drewN | apply below_drew1) | exact HB.out)) hb); clear HO_8; clear HO285; clear HB; have HO_8 := n0_; have HO285 := n1_; have HO289 := n2_; have HB := n3_; clear n0_ n1_ n2_ n3_; (try clear hb); (try clear hb2); (try clear hk); (try clear hi); (try clear ho0); have p290 : 0 ≤ (x9_1 : Int) := of_decide_eq_true (by first | (with_reducible assumption) | assumption); have q290 : x9_1 < (y272.length : Int) := of_decide_eq_true (by first | (with_reducible assumption) | assumption); obtain ⟨ad290, e290, hx290_0⟩ := Kd.at_int (Kd.R_reads' HO_8.out).2.2 x9_1 p290 q290; obtain rfl : ad282 = ad290 := (by injection e290); replace p290 := eq_true p290; replace q290 := eq_true q290) | ((with_reducible refine gate_dst (N := 46) rfl ?_); (try (refine gate_guard (by rfl) ?_; dsimp only)); refine Kd.R_make (Kd.int .u8) _ 5 rfl (N := 46) rfl 22 _ _ rfl (rd y272 x9_1) rfl rfl Try.underlying22 (.int .u8 0) 1 info5 rfl (by decide) (by omega) 0 (ok := fun _ => True) (okp := fun _ => True) rfl (fun _ hk => by first | exact hk | exact hk.1 | exact hk.2 | exact hk.1.1 | exact hk.1.2 | exact hk.2.1 | exact hk.2.2 | exact hk) trivial (of_decide_eq_true (by first | (with_reducible assumption) | assumption)) (Nat.le_trans (Nat.mul_le_mul_right _ (of_decide_eq_true (by first | (with_reducible assumption) | assumption) : (rd y272 x9_1).toNat ≤ 281474976710656)) (by omega)) (Below.refl _ _) (Nat.le_refl _) ?_; intro v292 w22 ho23 hb hg_ hnew_; clear hg_ hnew_; (first | rw [← Ny291.out] at ho23 | (simp only [Int.reduceToNat] at ho23; rw [← Ny291.out] at ho23)); have n0_ := Aside0.mk (Kd.R_below (by (with_reducible repeat (first | apply Kd.R_alloc | apply Kd.R_drewN | apply Kd.R_drew)); exact HO_8.out) hb); have n1_ := Aside0.mk (Kd.R_elder' (by (with_reducible repeat (first | apply Kd.R_alloc | apply Kd.R_drewN | apply Kd.R_drew)); exact HO285.out) (Kd.R_base ho23) hb); have n2_ := Aside0.mk (Kd.R_elder' (by (with_reducible repeat (first | apply Kd.R_alloc | apply Kd.R_drewN | apply Kd.R_drew)); exact HO289.out) (Kd.R_base ho23) hb); have n3_ := Aside0.mk (Kd.R_lower (Kd.R_new' (Kd.R_new' ho23 (Kd.R_lt (by (with_reducible repeat (first | apply Kd.R_alloc | apply Kd.R_drewN | apply Kd.R_drew)); exact HO285.out))) (Kd.R_lt (by (with_reducible repeat (first | apply Kd.R_alloc | apply Kd.R_drewN | apply Kd.R_drew)); exact HO289.out))) (below_size (by repeat (first | (with_reducible first | exact HB.out | apply below_alloc | apply pw_below_drewN | apply below_drew1) | exact HB.out)))); have n4_ := Aside0.mk (below_step (by repeat (first | (with_reducible first | exact HB.out | apply below_alloc | apply pw_below_drewN | apply below_drew1) | exact HB.out)) hb); clear HO_8; clear HO285; clear HO289; clear HB; have HO_8 := n0_; have HO285 := n1_; have HO289 := n2_; have HO293 := n3_; have HB := n4_; clear n0_ n1_ n2_ n3_ n4_; clear hb ho23; obtain ⟨Ao24, co24, eo24⟩ := Kd.R_slice HO293.out; subst eo24) | ((with_reducible refine gate_callee (f := 13) rfl ?_); refine goesL_ (some 47) rfl rfl Try.func13 (by kernel_rfl) rfl #[.slice none 0 0, .int .i64 0, .slice Ao24 y291.length co24] rfl (by (try simp only [List.map_toArray, List.map_cons, List.map_nil]); first | done | rfl | (simp only [List.length_drop, List.length_take]; rfl)) ?_; (refine (blob_Write.calls k1 _ _ ([] : List Int) 0 _ _ y291 t294 t295 _ ?side1 ?side2 ?side3 ?side4 A15.out).mono ?_); (case side1 => exact Kd.C_nil _ _); (case side2 => exact Nat.le_refl _); (case side3 => repeat (first | exact (Kd.R_reads' HO293.out).2.2 | (with_reducible refine Kd.C_alloc ?_ _) | (with_reducible refine Kd.C_drewN ?_ _) | (with_reducible refine Kd.C_drew ?_))); (case side4 => exact (Kd.R_reads' HO293.out).2.1); rintro e w25 ⟨v296, rfl, ho0, hb⟩; refine ⟨_, rfl, ?_⟩; have n0_ := Aside0.mk (Kd.R_below (by (with_reducible repeat (first | apply Kd.R_alloc | apply Kd.R_drewN | apply Kd.R_drew)); exact HO_8.out) hb); have n1_ := Aside0.mk (Kd.R_elder' (by (with_reducible repeat (first | apply Kd.R_alloc | apply Kd.R_drewN | apply Kd.R_drew)); exact HO285.out) (Kd.R_base ho0) hb); have n2_ := Aside0.mk (Kd.R_elder' (by (with_reducible repeat (first | apply Kd.R_alloc | apply Kd.R_drewN | apply Kd.R_drew)); exact HO289.out) (Kd.R_base ho0) hb); have n3_ := Aside0.mk (Kd.R_elder' (by (with_reducible repeat (first | apply Kd.R_alloc | apply Kd.R_drewN | apply Kd.R_drew)); exact HO293.out) (Kd.R_base ho0) hb); have n4_ := Aside0.mk (Kd.R_lower (Kd.R_new' (Kd.R_new' (Kd.R_new' ho0 (Kd.R_lt (by (with_reducible repeat (first | apply Kd.R_alloc | apply Kd.R_drewN | apply Kd.R_drew)); exact HO285.out))) (Kd.R_lt (by (with_reducible repeat (first | apply Kd.R_alloc | apply Kd.R_drewN | apply Kd.R_drew)); exact HO289.out))) (Kd.R_lt (by (with_reducible repeat (first | apply Kd.R_alloc | apply Kd.R_drewN | apply Kd.R_drew)); exact HO293.out))) (below_size (by repeat (first | (with_reducible first | exact HB.out | apply below_alloc | apply pw_below_drewN | apply below_drew1) | exact HB.out)))); have n5_ := Aside0.mk (below_step (by repeat (first | (with_reducible first | exact HB.out | apply below_alloc | apply pw_below_drewN | apply below_drew1) | exact HB.out)) hb); clear HO_8; clear HO285; clear HO289; clear HO293; clear HB; have HO_8 := n0_; have HO285 := n1_; have HO289 := n2_; have HO293 := n3_; have HO297 := n4_; have HB := n5_; clear n0_ n1_ n2_ n3_ n4_ n5_; (try clear hb); (try clear hb2); (try clear hk); (try clear hi); (try clear ho0)))
                (try simp only [Act.put, List.setIfInBounds_toArray, List.set_cons_zero, List.set_cons_succ])
                go_cut [14] (fun v14 wc => ∃ (kq : Nat) (x14_15 : Bool), v14 = .bool x14_15 ∧ Aside0 (truchmanlaw12_BlobBounds.j1 kq a2 (wrap64 (2030 + t269)) y272 x9_1 t286 t287 t294 t295 x14_15 = some r) ∧ Aside0 (kq ≤ k1) ∧ Aside0 (Kd.R (Kd.int .i64) 3 wc w.heap.size (fun _ => True) (.slice (some ad282) y272.length co17) y272) ∧ Aside0 (Kd.R (Kd.int .u8) 5 wc w.heap.size (fun k_ => some k_ ≠ (v296 : Value).ownBlock) v288 t286) ∧ Aside0 (Kd.R (Kd.int .u8) 5 wc w.heap.size (fun k_ => some k_ ≠ (v288 : Value).ownBlock) v296 t294) ∧ Aside0 (Below w.heap.size w wc))
                case first =>
                  have H := HC16.out
                  clear HC16
                  by_cases c26 : (rd y272 x9_1) > 0
                  · rw [if_pos c26] at H
                    have c26b0 : decide (0 < (rd y272 x9_1)) = true := decide_eq_true c26
                    clear c26
                    (first | rw [c26b0] | (simp only [i64_w, i32_w]; rw [c26b0]) | skip)
                    have H' := Aside0.mk H
                    clear H
                    have p298 : 0 ≤ (x9_1 : Int) := of_decide_eq_true (by first | (with_reducible assumption) | assumption)
                    have q298 : x9_1 < (y272.length : Int) := of_decide_eq_true (by first | (with_reducible assumption) | assumption)
                    obtain ⟨ad298, e298, hx298_0⟩ := Kd.at_int (Kd.R_reads' HO_8.out).2.2 x9_1 p298 q298
                    obtain rfl : ad282 = ad298 := (by injection e298)
                    replace p298 := eq_true p298
                    replace q298 := eq_true q298
                    have p299 : 0 ≤ (x9_1 : Int) := of_decide_eq_true (by first | (with_reducible assumption) | assumption)
                    have q299 : x9_1 < (y272.length : Int) := of_decide_eq_true (by first | (with_reducible assumption) | assumption)
                    obtain ⟨ad299, e299, hx299_0⟩ := Kd.at_int (Kd.R_reads' HO_8.out).2.2 x9_1 p299 q299
                    obtain rfl : ad282 = ad299 := (by injection e299)
                    replace p299 := eq_true p299
                    replace q299 := eq_true q299
                    go_wp2
                    go_meet
                    case rel => exact ⟨_, (decide ((wrap64 ((wrap64 (2030 + t269)) + (rd y272 x9_1))) > 2048)), (by first | rfl | (simp; done) | (simp [*]; done)), H', ⟨by have := HK1.out; first | omega | exact Nat.le_refl _⟩, ⟨by (with_reducible repeat (first | apply Kd.R_alloc | apply Kd.R_drewN | apply Kd.R_drew)); exact HO_8.out⟩, ⟨by (with_reducible repeat (first | apply Kd.R_alloc | apply Kd.R_drewN | apply Kd.R_drew)); exact Kd.R_mono HO289.out (fun _ hk => by first | exact hk.2 | exact hk.1 | exact hk.2 | exact hk.1.1 | exact hk.1.2 | exact hk.2.1 | exact hk.2.2 | exact hk)⟩, ⟨by (with_reducible repeat (first | apply Kd.R_alloc | apply Kd.R_drewN | apply Kd.R_drew)); exact Kd.R_mono HO297.out (fun _ hk => by first | exact hk.1.2 | exact hk.1 | exact hk.2 | exact hk.1.1 | exact hk.1.2 | exact hk.2.1 | exact hk.2.2 | exact hk)⟩, ⟨by repeat (first | (with_reducible first | exact HB.out | apply below_alloc | apply pw_below_drewN | apply below_drew1) | exact HB.out)⟩⟩
                  · rw [if_neg c26] at H
                    have c26b0 : decide (0 < (rd y272 x9_1)) = false := decide_eq_false c26
                    clear c26
                    (first | rw [c26b0] | (simp only [i64_w, i32_w]; rw [c26b0]) | skip)
                    have H' := Aside0.mk H
                    clear H
                    have p298 : 0 ≤ (x9_1 : Int) := of_decide_eq_true (by first | (with_reducible assumption) | assumption)
                    have q298 : x9_1 < (y272.length : Int) := of_decide_eq_true (by first | (with_reducible assumption) | assumption)
                    obtain ⟨ad298, e298, hx298_0⟩ := Kd.at_int (Kd.R_reads' HO_8.out).2.2 x9_1 p298 q298
                    obtain rfl : ad282 = ad298 := (by injection e298)
                    replace p298 := eq_true p298
                    replace q298 := eq_true q298
                    go_wp2
                    go_meet
                    case rel => exact ⟨_, (false), (by first | rfl | (simp; done) | (simp [*]; done)), H', ⟨by have := HK1.out; first | omega | exact Nat.le_refl _⟩, ⟨by (with_reducible repeat (first | apply Kd.R_alloc | apply Kd.R_drewN | apply Kd.R_drew)); exact HO_8.out⟩, ⟨by (with_reducible repeat (first | apply Kd.R_alloc | apply Kd.R_drewN | apply Kd.R_drew)); exact Kd.R_mono HO289.out (fun _ hk => by first | exact hk.2 | exact hk.1 | exact hk.2 | exact hk.1.1 | exact hk.1.2 | exact hk.2.1 | exact hk.2.2 | exact hk)⟩, ⟨by (with_reducible repeat (first | apply Kd.R_alloc | apply Kd.R_drewN | apply Kd.R_drew)); exact Kd.R_mono HO297.out (fun _ hk => by first | exact hk.1.2 | exact hk.1 | exact hk.2 | exact hk.1.1 | exact hk.1.2 | exact hk.2.1 | exact hk.2.2 | exact hk)⟩, ⟨by repeat (first | (with_reducible first | exact HB.out | apply below_alloc | apply pw_below_drewN | apply below_drew1) | exact HB.out)⟩⟩
                case rest =>
                  clear HC16
                  try clear c1
                  try clear c2
                  try clear p2
                  try clear q2
                  try clear hx2
                  try clear p6
                  try clear c9
                  try clear c9b0
                  try clear c10
                  try clear c10b0
                  try clear c11
                  try clear c11b0
                  try clear c12
                  try clear c12b0
                  try clear c12b1
                  try clear c13
                  try clear c13b0
                  try clear c13b1
                  try clear c26
                  try clear c26b0
                  try clear hx282_0
                  try clear hx290_0
                  try clear hx298_0
                  try clear hx299_0
                  try clear p2
                  try clear p282
                  try clear p290
                  try clear p298
                  try clear p299
                  try clear p6
                  try clear q282
                  try clear q290
                  try clear q298
                  try clear q299
                  obtain ⟨kq, x14_15, rfl, HA, HJ15, HO_8, HO_10, HO_12, HB⟩ := hcut
                  cases kq with
                  | zero => exact absurd HA.out (by simp [truchmanlaw12_BlobBounds.j1])
                  | succ kj15 =>
                    have H := HA.out
                    clear HA
                    simp only [truchmanlaw12_BlobBounds.j1] at H
                    have HC27 := Aside0.mk H
                    clear H
                    go_upto_region 9 with (fail)
                    go_cut [95] (fun v95 wc => ∃ (kq : Nat) (x95_26 : Bool), v95 = .bool x95_26 ∧ Aside0 (truchmanlaw12_BlobBounds.j2 kq a2 (wrap64 (2030 + t269)) y272 x9_1 t286 t287 t294 t295 x95_26 = some r) ∧ Aside0 (kq ≤ kj15) ∧ Aside0 (Kd.R (Kd.int .i64) 3 wc w.heap.size (fun _ => True) (.slice (some ad282) y272.length co17) y272) ∧ Aside0 (Kd.R (Kd.int .u8) 5 wc w.heap.size (fun k_ => some k_ ≠ (v296 : Value).ownBlock) v288 t286) ∧ Aside0 (Kd.R (Kd.int .u8) 5 wc w.heap.size (fun k_ => some k_ ≠ (v288 : Value).ownBlock) v296 t294) ∧ Aside0 (Below w.heap.size w wc))
                    case first =>
                      have H := HC27.out
                      clear HC27
                      by_cases c28 : ((t287 == 15) != x14_15) = true
                      · rw [if_pos c28] at H
                        have c28b0 : ((t287 == 15) != x14_15) = true := c28
                        (try (have c28b1 : decide ((t287 == 15) = x14_15) = false := by simpa using c28))
                        (try (have c28b2 : ((t287 == 15) == x14_15) = false := by simpa using c28))
                        (try (have c28b3 : ¬ ((t287 == 15) = x14_15) := by simpa using c28))
                        clear c28
                        (first | rw [c28b0] | (simp only [i64_w, i32_w]; rw [c28b0]) | skip)
                        have H' := Aside0.mk H
                        clear H
                        go_wp2
                        go_meet
                        case rel => exact ⟨_, (true), (by first | rfl | (simp; done) | (simp [*]; done)), H', ⟨by have := HK1.out; have := HJ15.out; first | omega | exact Nat.le_refl _⟩, ⟨by (with_reducible repeat (first | apply Kd.R_alloc | apply Kd.R_drewN | apply Kd.R_drew)); exact HO_8.out⟩, ⟨by (with_reducible repeat (first | apply Kd.R_alloc | apply Kd.R_drewN | apply Kd.R_drew)); exact HO_10.out⟩, ⟨by (with_reducible repeat (first | apply Kd.R_alloc | apply Kd.R_drewN | apply Kd.R_drew)); exact HO_12.out⟩, ⟨by repeat (first | (with_reducible first | exact HB.out | apply below_alloc | apply pw_below_drewN | apply below_drew1) | exact HB.out)⟩⟩
                      · rw [if_neg c28] at H
                        have c28b0 : ((t287 == 15) != x14_15) = false := by simpa using c28
                        (try (have c28b1 : decide ((t287 == 15) = x14_15) = true := by simpa using c28))
                        (try (have c28b2 : ((t287 == 15) == x14_15) = true := by simpa using c28))
                        clear c28
                        (first | rw [c28b0] | (simp only [i64_w, i32_w]; rw [c28b0]) | skip)
                        by_cases c29 : x14_15 = true
                        · subst c29
                          have H1 : (if 0 ≤ x9_1 then (if x9_1 < (y272.length : Int) then (if ((t295 == 0) != (decide ((rd y272 x9_1) ≤ 2048))) = true then (truchmanlaw12_BlobBounds.j2 kj15 a2 (wrap64 (2030 + t269)) y272 x9_1 t286 t287 t294 t295 true) else ((blob_Fits.f 0 (wrap64 (2030 + t269)) (rd y272 x9_1) 9999).bind fun t302 => (truchmanlaw12_BlobBounds.j2 kj15 a2 (wrap64 (2030 + t269)) y272 x9_1 t286 t287 t294 t295 (t302 != t287)))) else (none)) else (none)) = some r := by rw [if_pos rfl] at H; exact H
                          clear H
                          have H := H1
                          clear H1
                          by_cases c30 : 0 ≤ x9_1
                          · rw [if_pos c30] at H
                            have c30b0 : decide (0 ≤ x9_1) = true := decide_eq_true c30
                            clear c30
                            by_cases c31 : x9_1 < (y272.length : Int)
                            · rw [if_pos c31] at H
                              have c31b0 : decide (x9_1 < (y272.length : Int)) = true := decide_eq_true c31
                              clear c31
                              by_cases c32 : ((t295 == 0) != (decide ((rd y272 x9_1) ≤ 2048))) = true
                              · rw [if_pos c32] at H
                                have c32b0 : ((t295 == 0) != (decide ((rd y272 x9_1) ≤ 2048))) = true := c32
                                (try (have c32b1 : decide ((t295 == 0) = (decide ((rd y272 x9_1) ≤ 2048))) = false := by simpa using c32))
                                (try (have c32b2 : ((t295 == 0) == (decide ((rd y272 x9_1) ≤ 2048))) = false := by simpa using c32))
                                (try (have c32b3 : ¬ ((t295 == 0) = (decide ((rd y272 x9_1) ≤ 2048))) := by simpa using c32))
                                clear c32
                                have H' := Aside0.mk H
                                clear H
                                have p300 : 0 ≤ (x9_1 : Int) := of_decide_eq_true (by first | (with_reducible assumption) | assumption)
                                have q300 : x9_1 < (y272.length : Int) := of_decide_eq_true (by first | (with_reducible assumption) | assumption)
                                obtain ⟨ad300, e300, hx300_0⟩ := Kd.at_int (Kd.R_reads' HO_8.out).2.2 x9_1 p300 q300
                                obtain rfl : ad282 = ad300 := (by injection e300)
                                replace p300 := eq_true p300
                                replace q300 := eq_true q300
                                go_wp2
                                go_meet
                                case rel => exact ⟨_, (true), (by first | rfl | (simp; done) | (simp [*]; done)), H', ⟨by have := HK1.out; have := HJ15.out; first | omega | exact Nat.le_refl _⟩, ⟨by (with_reducible repeat (first | apply Kd.R_alloc | apply Kd.R_drewN | apply Kd.R_drew)); exact HO_8.out⟩, ⟨by (with_reducible repeat (first | apply Kd.R_alloc | apply Kd.R_drewN | apply Kd.R_drew)); exact HO_10.out⟩, ⟨by (with_reducible repeat (first | apply Kd.R_alloc | apply Kd.R_drewN | apply Kd.R_drew)); exact HO_12.out⟩, ⟨by repeat (first | (with_reducible first | exact HB.out | apply below_alloc | apply pw_below_drewN | apply below_drew1) | exact HB.out)⟩⟩
                              · rw [if_neg c32] at H
                                have c32b0 : ((t295 == 0) != (decide ((rd y272 x9_1) ≤ 2048))) = false := by simpa using c32
                                (try (have c32b1 : decide ((t295 == 0) = (decide ((rd y272 x9_1) ≤ 2048))) = true := by simpa using c32))
                                (try (have c32b2 : ((t295 == 0) == (decide ((rd y272 x9_1) ≤ 2048))) = true := by simpa using c32))
                                clear c32
                                replace H := Option.bind_eq_some_iff.mp H
                                obtain ⟨t302, A330, H⟩ := H
                                replace H : (truchmanlaw12_BlobBounds.j2 kj15 a2 (wrap64 (2030 + t269)) y272 x9_1 t286 t287 t294 t295 (t302 != t287)) = some r := H
                                have A33 := Aside0.mk A330
                                clear A330
                                have H' := Aside0.mk H
                                clear H
                                have p300 : 0 ≤ (x9_1 : Int) := of_decide_eq_true (by first | (with_reducible assumption) | assumption)
                                have q300 : x9_1 < (y272.length : Int) := of_decide_eq_true (by first | (with_reducible assumption) | assumption)
                                obtain ⟨ad300, e300, hx300_0⟩ := Kd.at_int (Kd.R_reads' HO_8.out).2.2 x9_1 p300 q300
                                obtain rfl : ad282 = ad300 := (by injection e300)
                                replace p300 := eq_true p300
                                replace q300 := eq_true q300
                                have p301 : 0 ≤ (x9_1 : Int) := of_decide_eq_true (by first | (with_reducible assumption) | assumption)
                                have q301 : x9_1 < (y272.length : Int) := of_decide_eq_true (by first | (with_reducible assumption) | assumption)
                                obtain ⟨ad301, e301, hx301_0⟩ := Kd.at_int (Kd.R_reads' HO_8.out).2.2 x9_1 p301 q301
                                obtain rfl : ad282 = ad301 := (by injection e301)
                                replace p301 := eq_true p301
                                replace q301 := eq_true q301
                                go_wp2_with (first | (go_at_call 20; (with_reducible refine (blob_Fits.calls 0 (wrap64 (2030 + t269)) (rd y272 x9_1) 9999 t302 _ A33.out).mono ?_); rintro e w' ⟨rfl, ⟨nd, rfl⟩⟩))
                                go_meet
                                case rel => exact ⟨_, ((t302 != t287)), (by first | rfl | (simp; done) | (simp [*]; done)), H', ⟨by have := HK1.out; have := HJ15.out; first | omega | exact Nat.le_refl _⟩, ⟨by (with_reducible repeat (first | apply Kd.R_alloc | apply Kd.R_drewN | apply Kd.R_drew)); exact HO_8.out⟩, ⟨by (with_reducible repeat (first | apply Kd.R_alloc | apply Kd.R_drewN | apply Kd.R_drew)); exact HO_10.out⟩, ⟨by (with_reducible repeat (first | apply Kd.R_alloc | apply Kd.R_drewN | apply Kd.R_drew)); exact HO_12.out⟩, ⟨by repeat (first | (with_reducible first | exact HB.out | apply below_alloc | apply pw_below_drewN | apply below_drew1) | exact HB.out)⟩⟩
                            · rw [if_neg c31] at H
                              exact absurd H (by simp)
                          · rw [if_neg c30] at H
                            exact absurd H (by simp)
                        · replace c29 := Bool.eq_false_iff.mpr c29
                          subst c29
                          have H1 : (if t287 = 0 then (if 0 ≤ x9_1 then (if x9_1 < (y272.length : Int) then (if ((t295 == 0) != (decide ((rd y272 x9_1) ≤ 2048))) = true then (truchmanlaw12_BlobBounds.j2 kj15 a2 (wrap64 (2030 + t269)) y272 x9_1 t286 t287 t294 t295 true) else ((blob_Fits.f 0 (wrap64 (2030 + t269)) (rd y272 x9_1) 9999).bind fun t305 => (truchmanlaw12_BlobBounds.j2 kj15 a2 (wrap64 (2030 + t269)) y272 x9_1 t286 t287 t294 t295 (t305 != t287)))) else (none)) else (none)) else (truchmanlaw12_BlobBounds.j2 kj15 a2 (wrap64 (2030 + t269)) y272 x9_1 t286 t287 t294 t295 true)) = some r := by rw [if_neg (show ¬ (false = true) by decide)] at H; exact H
                          clear H
                          have H := H1
                          clear H1
                          by_cases c34 : t287 = 0
                          · rw [if_pos c34] at H
                            have c34b0 : (t287 == 0) = true := beq_iff_eq.mpr c34
                            (try (have z9_ := (‹((t287 == 0) == decide _) = true›); rw [c34b0] at z9_; simp only [Bool.true_beq] at z9_))
                            have c34b1 : (t287 != 0) = false := bne_eq_false_iff_eq.mpr c34
                            clear c34
                            by_cases c35 : 0 ≤ x9_1
                            · rw [if_pos c35] at H
                              have c35b0 : decide (0 ≤ x9_1) = true := decide_eq_true c35
                              clear c35
                              by_cases c36 : x9_1 < (y272.length : Int)
                              · rw [if_pos c36] at H
                                have c36b0 : decide (x9_1 < (y272.length : Int)) = true := decide_eq_true c36
                                clear c36
                                by_cases c37 : ((t295 == 0) != (decide ((rd y272 x9_1) ≤ 2048))) = true
                                · rw [if_pos c37] at H
                                  have c37b0 : ((t295 == 0) != (decide ((rd y272 x9_1) ≤ 2048))) = true := c37
                                  (try (have c37b1 : decide ((t295 == 0) = (decide ((rd y272 x9_1) ≤ 2048))) = false := by simpa using c37))
                                  (try (have c37b2 : ((t295 == 0) == (decide ((rd y272 x9_1) ≤ 2048))) = false := by simpa using c37))
                                  (try (have c37b3 : ¬ ((t295 == 0) = (decide ((rd y272 x9_1) ≤ 2048))) := by simpa using c37))
                                  clear c37
                                  have H' := Aside0.mk H
                                  clear H
                                  have p303 : 0 ≤ (x9_1 : Int) := of_decide_eq_true (by first | (with_reducible assumption) | assumption)
                                  have q303 : x9_1 < (y272.length : Int) := of_decide_eq_true (by first | (with_reducible assumption) | assumption)
                                  obtain ⟨ad303, e303, hx303_0⟩ := Kd.at_int (Kd.R_reads' HO_8.out).2.2 x9_1 p303 q303
                                  obtain rfl : ad282 = ad303 := (by injection e303)
                                  replace p303 := eq_true p303
                                  replace q303 := eq_true q303
                                  go_wp2
                                  go_meet
                                  case rel => exact ⟨_, (true), (by first | rfl | (simp; done) | (simp [*]; done)), H', ⟨by have := HK1.out; have := HJ15.out; first | omega | exact Nat.le_refl _⟩, ⟨by (with_reducible repeat (first | apply Kd.R_alloc | apply Kd.R_drewN | apply Kd.R_drew)); exact HO_8.out⟩, ⟨by (with_reducible repeat (first | apply Kd.R_alloc | apply Kd.R_drewN | apply Kd.R_drew)); exact HO_10.out⟩, ⟨by (with_reducible repeat (first | apply Kd.R_alloc | apply Kd.R_drewN | apply Kd.R_drew)); exact HO_12.out⟩, ⟨by repeat (first | (with_reducible first | exact HB.out | apply below_alloc | apply pw_below_drewN | apply below_drew1) | exact HB.out)⟩⟩
                                · rw [if_neg c37] at H
                                  have c37b0 : ((t295 == 0) != (decide ((rd y272 x9_1) ≤ 2048))) = false := by simpa using c37
                                  (try (have c37b1 : decide ((t295 == 0) = (decide ((rd y272 x9_1) ≤ 2048))) = true := by simpa using c37))
                                  (try (have c37b2 : ((t295 == 0) == (decide ((rd y272 x9_1) ≤ 2048))) = true := by simpa using c37))
                                  clear c37
                                  replace H := Option.bind_eq_some_iff.mp H
                                  obtain ⟨t305, A380, H⟩ := H
                                  replace H : (truchmanlaw12_BlobBounds.j2 kj15 a2 (wrap64 (2030 + t269)) y272 x9_1 t286 t287 t294 t295 (t305 != t287)) = some r := H
                                  have A38 := Aside0.mk A380
                                  clear A380
                                  have H' := Aside0.mk H
                                  clear H
                                  have p303 : 0 ≤ (x9_1 : Int) := of_decide_eq_true (by first | (with_reducible assumption) | assumption)
                                  have q303 : x9_1 < (y272.length : Int) := of_decide_eq_true (by first | (with_reducible assumption) | assumption)
                                  obtain ⟨ad303, e303, hx303_0⟩ := Kd.at_int (Kd.R_reads' HO_8.out).2.2 x9_1 p303 q303
                                  obtain rfl : ad282 = ad303 := (by injection e303)
                                  replace p303 := eq_true p303
                                  replace q303 := eq_true q303
                                  have p304 : 0 ≤ (x9_1 : Int) := of_decide_eq_true (by first | (with_reducible assumption) | assumption)
                                  have q304 : x9_1 < (y272.length : Int) := of_decide_eq_true (by first | (with_reducible assumption) | assumption)
                                  obtain ⟨ad304, e304, hx304_0⟩ := Kd.at_int (Kd.R_reads' HO_8.out).2.2 x9_1 p304 q304
                                  obtain rfl : ad282 = ad304 := (by injection e304)
                                  replace p304 := eq_true p304
                                  replace q304 := eq_true q304
                                  go_wp2_with (first | (go_at_call 20; (with_reducible refine (blob_Fits.calls 0 (wrap64 (2030 + t269)) (rd y272 x9_1) 9999 t305 _ A38.out).mono ?_); rintro e w' ⟨rfl, ⟨nd, rfl⟩⟩))
                                  go_meet
                                  case rel => exact ⟨_, ((t305 != t287)), (by first | rfl | (simp; done) | (simp [*]; done)), H', ⟨by have := HK1.out; have := HJ15.out; first | omega | exact Nat.le_refl _⟩, ⟨by (with_reducible repeat (first | apply Kd.R_alloc | apply Kd.R_drewN | apply Kd.R_drew)); exact HO_8.out⟩, ⟨by (with_reducible repeat (first | apply Kd.R_alloc | apply Kd.R_drewN | apply Kd.R_drew)); exact HO_10.out⟩, ⟨by (with_reducible repeat (first | apply Kd.R_alloc | apply Kd.R_drewN | apply Kd.R_drew)); exact HO_12.out⟩, ⟨by repeat (first | (with_reducible first | exact HB.out | apply below_alloc | apply pw_below_drewN | apply below_drew1) | exact HB.out)⟩⟩
                              · rw [if_neg c36] at H
                                exact absurd H (by simp)
                            · rw [if_neg c35] at H
                              exact absurd H (by simp)
                          · rw [if_neg c34] at H
                            have c34b0 : (t287 == 0) = false := beq_eq_false_iff_ne.mpr c34
                            (try (have z9_ := (‹((t287 == 0) == decide _) = true›); rw [c34b0] at z9_; simp only [Bool.false_beq, Bool.not_eq_true'] at z9_))
                            have c34b1 : (t287 != 0) = true := bne_iff_ne.mpr c34
                            have H' := Aside0.mk H
                            clear H
                            go_wp2
                            go_meet
                            case rel => exact ⟨_, (true), (by first | rfl | (simp; done) | (simp [*]; done)), H', ⟨by have := HK1.out; have := HJ15.out; first | omega | exact Nat.le_refl _⟩, ⟨by (with_reducible repeat (first | apply Kd.R_alloc | apply Kd.R_drewN | apply Kd.R_drew)); exact HO_8.out⟩, ⟨by (with_reducible repeat (first | apply Kd.R_alloc | apply Kd.R_drewN | apply Kd.R_drew)); exact HO_10.out⟩, ⟨by (with_reducible repeat (first | apply Kd.R_alloc | apply Kd.R_drewN | apply Kd.R_drew)); exact HO_12.out⟩, ⟨by repeat (first | (with_reducible first | exact HB.out | apply below_alloc | apply pw_below_drewN | apply below_drew1) | exact HB.out)⟩⟩
                    case rest =>
                      clear HC27
                      try clear c1
                      try clear c2
                      try clear p2
                      try clear q2
                      try clear hx2
                      try clear c3
                      try clear p3
                      try clear q3
                      try clear hx3
                      try clear p6
                      try clear c9
                      try clear c9b0
                      try clear c10
                      try clear c10b0
                      try clear c11
                      try clear c11b0
                      try clear c12
                      try clear c12b0
                      try clear c12b1
                      try clear c13
                      try clear c13b0
                      try clear c13b1
                      try clear c26
                      try clear c26b0
                      try clear c28
                      try clear c28b0
                      try clear c28b1
                      try clear c28b2
                      try clear p28
                      try clear q28
                      try clear hx28
                      try clear c29
                      try clear p29
                      try clear q29
                      try clear hx29
                      try clear c30
                      try clear c30b0
                      try clear p30
                      try clear q30
                      try clear hx30
                      try clear c31
                      try clear c31b0
                      try clear c32
                      try clear c32b0
                      try clear c32b1
                      try clear c32b2
                      try clear c34
                      try clear c34b0
                      try clear c34b1
                      try clear c35
                      try clear c35b0
                      try clear c36
                      try clear c36b0
                      try clear c37
                      try clear c37b0
                      try clear c37b1
                      try clear c37b2
                      try clear hx282_0
                      try clear hx290_0
                      try clear hx298_0
                      try clear hx299_0
                      try clear hx300_0
                      try clear hx301_0
                      try clear hx303_0
                      try clear hx304_0
                      try clear p2
                      try clear p282
                      try clear p290
                      try clear p298
                      try clear p299
                      try clear p300
                      try clear p301
                      try clear p303
                      try clear p304
                      try clear p6
                      try clear q2
                      try clear q282
                      try clear q290
                      try clear q298
                      try clear q299
                      try clear q300
                      try clear q301
                      try clear q303
                      try clear q304
                      obtain ⟨kq, x95_26, rfl, HA, HJ26, HO_8, HO_10, HO_12, HB⟩ := hcut
                      cases kq with
                      | zero => exact absurd HA.out (by simp [truchmanlaw12_BlobBounds.j2])
                      | succ kj26 =>
                        have H := HA.out
                        clear HA
                        simp only [truchmanlaw12_BlobBounds.j2] at H
                        by_cases c39 : x95_26 = true
                        · subst c39
                          have H1 : (some false) = some r := by rw [if_pos rfl] at H; exact H
                          clear H
                          have H := H1
                          clear H1
                          obtain rfl := Option.some.inj H
                          go_wp2
                          go_ret
                          exact ⟨by first | rfl | (simp [errW_none, errW_some] <;> rfl) | (simp [*, errW_none, errW_some] <;> rfl), by repeat (first | (with_reducible first | exact HB.out | apply below_alloc | apply pw_below_drewN | apply below_drew1) | exact HB.out)⟩
                        · replace c39 := Bool.eq_false_iff.mpr c39
                          subst c39
                          have H1 : (if t287 = 0 then (if 0 ≤ x9_1 then (if x9_1 < (y272.length : Int) then (if (rd y272 x9_1) > 0 then (truchmanlaw12_BlobBounds.j3 kj26 a2 (wrap64 (2030 + t269)) y272 x9_1 t294 t295 ((t286.length : Int) != (wrap64 ((wrap64 (2030 + t269)) + (rd y272 x9_1))))) else (truchmanlaw12_BlobBounds.j3 kj26 a2 (wrap64 (2030 + t269)) y272 x9_1 t294 t295 false)) else (none)) else (none)) else (truchmanlaw12_BlobBounds.j3 kj26 a2 (wrap64 (2030 + t269)) y272 x9_1 t294 t295 false)) = some r := by rw [if_neg (show ¬ (false = true) by decide)] at H; exact H
                          clear H
                          have H := H1
                          clear H1
                          have HC40 := Aside0.mk H
                          clear H
                          go_upto_region 11 with (fail)
                          go_cut [115] (fun v115 wc => ∃ (kq : Nat) (x115_39 : Bool), v115 = .bool x115_39 ∧ Aside0 (truchmanlaw12_BlobBounds.j3 kq a2 (wrap64 (2030 + t269)) y272 x9_1 t294 t295 x115_39 = some r) ∧ Aside0 (kq ≤ kj26) ∧ Aside0 (Kd.R (Kd.int .i64) 3 wc w.heap.size (fun _ => True) (.slice (some ad282) y272.length co17) y272) ∧ Aside0 (Kd.R (Kd.int .u8) 5 wc w.heap.size (fun _ => True) v296 t294) ∧ Aside0 (Below w.heap.size w wc))
                          case first =>
                            have H := HC40.out
                            clear HC40
                            by_cases c41 : t287 = 0
                            · rw [if_pos c41] at H
                              have c41b0 : (t287 == 0) = true := beq_iff_eq.mpr c41
                              (try (have z9_ := (‹((t287 == 0) == decide _) = true›); rw [c41b0] at z9_; simp only [Bool.true_beq] at z9_))
                              have c41b1 : (t287 != 0) = false := bne_eq_false_iff_eq.mpr c41
                              clear c41
                              (first | rw [c41b0] | (simp only [i64_w, i32_w]; rw [c41b0]) | skip)
                              by_cases c42 : 0 ≤ x9_1
                              · rw [if_pos c42] at H
                                have c42b0 : decide (0 ≤ x9_1) = true := decide_eq_true c42
                                clear c42
                                by_cases c43 : x9_1 < (y272.length : Int)
                                · rw [if_pos c43] at H
                                  have c43b0 : decide (x9_1 < (y272.length : Int)) = true := decide_eq_true c43
                                  clear c43
                                  by_cases c44 : (rd y272 x9_1) > 0
                                  · rw [if_pos c44] at H
                                    have c44b0 : decide (0 < (rd y272 x9_1)) = true := decide_eq_true c44
                                    clear c44
                                    have H' := Aside0.mk H
                                    clear H
                                    have p306 : 0 ≤ (x9_1 : Int) := of_decide_eq_true (by first | (with_reducible assumption) | assumption)
                                    have q306 : x9_1 < (y272.length : Int) := of_decide_eq_true (by first | (with_reducible assumption) | assumption)
                                    obtain ⟨ad306, e306, hx306_0⟩ := Kd.at_int (Kd.R_reads' HO_8.out).2.2 x9_1 p306 q306
                                    obtain rfl : ad282 = ad306 := (by injection e306)
                                    replace p306 := eq_true p306
                                    replace q306 := eq_true q306
                                    obtain ⟨Ao45, co45, eo45⟩ := Kd.R_slice HO_10.out
                                    subst eo45
                                    have p307 : 0 ≤ (x9_1 : Int) := of_decide_eq_true (by first | (with_reducible assumption) | assumption)
                                    have q307 : x9_1 < (y272.length : Int) := of_decide_eq_true (by first | (with_reducible assumption) | assumption)
                                    obtain ⟨ad307, e307, hx307_0⟩ := Kd.at_int (Kd.R_reads' HO_8.out).2.2 x9_1 p307 q307
                                    obtain rfl : ad282 = ad307 := (by injection e307)
                                    replace p307 := eq_true p307
                                    replace q307 := eq_true q307
                                    go_wp2
                                    go_meet
                                    case rel => exact ⟨_, (((t286.length : Int) != (wrap64 ((wrap64 (2030 + t269)) + (rd y272 x9_1))))), (by first | rfl | (simp; done) | (simp [*]; done)), H', ⟨by have := HK1.out; have := HJ15.out; have := HJ26.out; first | omega | exact Nat.le_refl _⟩, ⟨by (with_reducible repeat (first | apply Kd.R_alloc | apply Kd.R_drewN | apply Kd.R_drew)); exact HO_8.out⟩, ⟨by (with_reducible repeat (first | apply Kd.R_alloc | apply Kd.R_drewN | apply Kd.R_drew)); exact Kd.R_mono HO_12.out (fun _ hk => trivial)⟩, ⟨by repeat (first | (with_reducible first | exact HB.out | apply below_alloc | apply pw_below_drewN | apply below_drew1) | exact HB.out)⟩⟩
                                  · rw [if_neg c44] at H
                                    have c44b0 : decide (0 < (rd y272 x9_1)) = false := decide_eq_false c44
                                    clear c44
                                    have H' := Aside0.mk H
                                    clear H
                                    have p306 : 0 ≤ (x9_1 : Int) := of_decide_eq_true (by first | (with_reducible assumption) | assumption)
                                    have q306 : x9_1 < (y272.length : Int) := of_decide_eq_true (by first | (with_reducible assumption) | assumption)
                                    obtain ⟨ad306, e306, hx306_0⟩ := Kd.at_int (Kd.R_reads' HO_8.out).2.2 x9_1 p306 q306
                                    obtain rfl : ad282 = ad306 := (by injection e306)
                                    replace p306 := eq_true p306
                                    replace q306 := eq_true q306
                                    go_wp2
                                    go_meet
                                    case rel => exact ⟨_, (false), (by first | rfl | (simp; done) | (simp [*]; done)), H', ⟨by have := HK1.out; have := HJ15.out; have := HJ26.out; first | omega | exact Nat.le_refl _⟩, ⟨by (with_reducible repeat (first | apply Kd.R_alloc | apply Kd.R_drewN | apply Kd.R_drew)); exact HO_8.out⟩, ⟨by (with_reducible repeat (first | apply Kd.R_alloc | apply Kd.R_drewN | apply Kd.R_drew)); exact Kd.R_mono HO_12.out (fun _ hk => trivial)⟩, ⟨by repeat (first | (with_reducible first | exact HB.out | apply below_alloc | apply pw_below_drewN | apply below_drew1) | exact HB.out)⟩⟩
                                · rw [if_neg c43] at H
                                  exact absurd H (by simp)
                              · rw [if_neg c42] at H
                                exact absurd H (by simp)
                            · rw [if_neg c41] at H
                              have c41b0 : (t287 == 0) = false := beq_eq_false_iff_ne.mpr c41
                              (try (have z9_ := (‹((t287 == 0) == decide _) = true›); rw [c41b0] at z9_; simp only [Bool.false_beq, Bool.not_eq_true'] at z9_))
                              have c41b1 : (t287 != 0) = true := bne_iff_ne.mpr c41
                              (first | rw [c41b0] | (simp only [i64_w, i32_w]; rw [c41b0]) | skip)
                              have H' := Aside0.mk H
                              clear H
                              go_wp2
                              go_meet
                              case rel => exact ⟨_, (false), (by first | rfl | (simp; done) | (simp [*]; done)), H', ⟨by have := HK1.out; have := HJ15.out; have := HJ26.out; first | omega | exact Nat.le_refl _⟩, ⟨by (with_reducible repeat (first | apply Kd.R_alloc | apply Kd.R_drewN | apply Kd.R_drew)); exact HO_8.out⟩, ⟨by (with_reducible repeat (first | apply Kd.R_alloc | apply Kd.R_drewN | apply Kd.R_drew)); exact Kd.R_mono HO_12.out (fun _ hk => trivial)⟩, ⟨by repeat (first | (with_reducible first | exact HB.out | apply below_alloc | apply pw_below_drewN | apply below_drew1) | exact HB.out)⟩⟩
                          case rest =>
                            clear HC40
                            try clear c1
                            try clear c2
                            try clear p2
                            try clear q2
                            try clear hx2
                            try clear c3
                            try clear p3
                            try clear q3
                            try clear hx3
                            try clear c4
                            try clear p6
                            try clear c9
                            try clear c9b0
                            try clear c10
                            try clear c10b0
                            try clear c11
                            try clear c11b0
                            try clear c12
                            try clear c12b0
                            try clear c12b1
                            try clear c13
                            try clear c13b0
                            try clear c13b1
                            try clear c26
                            try clear c26b0
                            try clear c28
                            try clear c28b0
                            try clear c28b1
                            try clear c28b2
                            try clear p28
                            try clear q28
                            try clear hx28
                            try clear c29
                            try clear p29
                            try clear q29
                            try clear hx29
                            try clear c30
                            try clear c30b0
                            try clear p30
                            try clear q30
                            try clear hx30
                            try clear c31
                            try clear c31b0
                            try clear c32
                            try clear c32b0
                            try clear c32b1
                            try clear c32b2
                            try clear c34
                            try clear c34b0
                            try clear c34b1
                            try clear c35
                            try clear c35b0
                            try clear c36
                            try clear c36b0
                            try clear c37
                            try clear c37b0
                            try clear c37b1
                            try clear c37b2
                            try clear c39
                            try clear c41
                            try clear c41b0
                            try clear c41b1
                            try clear c42
                            try clear c42b0
                            try clear c43
                            try clear c43b0
                            try clear c44
                            try clear c44b0
                            try clear hx282_0
                            try clear hx290_0
                            try clear hx298_0
                            try clear hx299_0
                            try clear hx300_0
                            try clear hx301_0
                            try clear hx303_0
                            try clear hx304_0
                            try clear hx306_0
                            try clear hx307_0
                            try clear p2
                            try clear p28
                            try clear p282
                            try clear p29
                            try clear p290
                            try clear p298
                            try clear p299
                            try clear p3
                            try clear p30
                            try clear p300
                            try clear p301
                            try clear p303
                            try clear p304
                            try clear p306
                            try clear p307
                            try clear p6
                            try clear q2
                            try clear q28
                            try clear q282
                            try clear q29
                            try clear q290
                            try clear q298
                            try clear q299
                            try clear q3
                            try clear q30
                            try clear q300
                            try clear q301
                            try clear q303
                            try clear q304
                            try clear q306
                            try clear q307
                            obtain ⟨kq, x115_39, rfl, HA, HJ39, HO_8, HO_12, HB⟩ := hcut
                            cases kq with
                            | zero => exact absurd HA.out (by simp [truchmanlaw12_BlobBounds.j3])
                            | succ kj39 =>
                              have H := HA.out
                              clear HA
                              simp only [truchmanlaw12_BlobBounds.j3] at H
                              by_cases c46 : x115_39 = true
                              · subst c46
                                have H1 : (some false) = some r := by rw [if_pos rfl] at H; exact H
                                clear H
                                have H := H1
                                clear H1
                                obtain rfl := Option.some.inj H
                                go_wp2
                                go_ret
                                exact ⟨by first | rfl | (simp [errW_none, errW_some] <;> rfl) | (simp [*, errW_none, errW_some] <;> rfl), by repeat (first | (with_reducible first | exact HB.out | apply below_alloc | apply pw_below_drewN | apply below_drew1) | exact HB.out)⟩
                              · replace c46 := Bool.eq_false_iff.mpr c46
                                subst c46
                                have H1 : (if t295 = 0 then (if 0 ≤ x9_1 then (if x9_1 < (y272.length : Int) then (if (t294.length : Int) = (rd y272 x9_1) then (truchmanlaw12_BlobBounds.l0 kj39 a2 (wrap64 (2030 + t269)) y272 (wrap64 (x9_1 + 1))) else (some false)) else (none)) else (none)) else (truchmanlaw12_BlobBounds.l0 kj39 a2 (wrap64 (2030 + t269)) y272 (wrap64 (x9_1 + 1)))) = some r := by rw [if_neg (show ¬ (false = true) by decide)] at H; exact H
                                clear H
                                have H := H1
                                clear H1
                                by_cases c47 : t295 = 0
                                · rw [if_pos c47] at H
                                  have c47b0 : (t295 == 0) = true := beq_iff_eq.mpr c47
                                  (try (have z9_ := (‹((t295 == 0) == decide _) = true›); rw [c47b0] at z9_; simp only [Bool.true_beq] at z9_))
                                  have c47b1 : (t295 != 0) = false := bne_eq_false_iff_eq.mpr c47
                                  clear c47
                                  by_cases c48 : 0 ≤ x9_1
                                  · rw [if_pos c48] at H
                                    have c48b0 : decide (0 ≤ x9_1) = true := decide_eq_true c48
                                    clear c48
                                    by_cases c49 : x9_1 < (y272.length : Int)
                                    · rw [if_pos c49] at H
                                      have c49b0 : decide (x9_1 < (y272.length : Int)) = true := decide_eq_true c49
                                      clear c49
                                      by_cases c50 : (t294.length : Int) = (rd y272 x9_1)
                                      · rw [if_pos c50] at H
                                        have c50b0 : ((t294.length : Int) == (rd y272 x9_1)) = true := beq_iff_eq.mpr c50
                                        have c50b1 : ((t294.length : Int) != (rd y272 x9_1)) = false := bne_eq_false_iff_eq.mpr c50
                                        clear c50
                                        have H' := Aside0.mk H
                                        clear H
                                        obtain ⟨Ao51, co51, eo51⟩ := Kd.R_slice HO_12.out
                                        subst eo51
                                        have p308 : 0 ≤ (x9_1 : Int) := of_decide_eq_true (by first | (with_reducible assumption) | assumption)
                                        have q308 : x9_1 < (y272.length : Int) := of_decide_eq_true (by first | (with_reducible assumption) | assumption)
                                        obtain ⟨ad308, e308, hx308_0⟩ := Kd.at_int (Kd.R_reads' HO_8.out).2.2 x9_1 p308 q308
                                        obtain rfl : ad282 = ad308 := (by injection e308)
                                        replace p308 := eq_true p308
                                        replace q308 := eq_true q308
                                        go_wp2
                                        go_roundg kj39
                                        case measure => have := HK1.out; have := HJ15.out; have := HJ26.out; have := HJ39.out; omega
                                        case rel => exact ⟨(wrap64 (x9_1 + 1)), (by first | rfl | (simp; done) | (simp [*]; done)), H', ⟨by have := HK1.out; have := HJ15.out; have := HJ26.out; have := HJ39.out; omega⟩, ⟨by (with_reducible repeat (first | apply Kd.R_alloc | apply Kd.R_drewN | apply Kd.R_drew)); exact HO_8.out⟩, ⟨by repeat (first | (with_reducible first | exact HB.out | apply below_alloc | apply pw_below_drewN | apply below_drew1) | exact HB.out)⟩⟩
                                      · rw [if_neg c50] at H
                                        have c50b0 : ((t294.length : Int) == (rd y272 x9_1)) = false := beq_eq_false_iff_ne.mpr c50
                                        have c50b1 : ((t294.length : Int) != (rd y272 x9_1)) = true := bne_iff_ne.mpr c50
                                        obtain rfl := Option.some.inj H
                                        obtain ⟨Ao52, co52, eo52⟩ := Kd.R_slice HO_12.out
                                        subst eo52
                                        have p308 : 0 ≤ (x9_1 : Int) := of_decide_eq_true (by first | (with_reducible assumption) | assumption)
                                        have q308 : x9_1 < (y272.length : Int) := of_decide_eq_true (by first | (with_reducible assumption) | assumption)
                                        obtain ⟨ad308, e308, hx308_0⟩ := Kd.at_int (Kd.R_reads' HO_8.out).2.2 x9_1 p308 q308
                                        obtain rfl : ad282 = ad308 := (by injection e308)
                                        replace p308 := eq_true p308
                                        replace q308 := eq_true q308
                                        go_wp2
                                        go_ret
                                        exact ⟨by first | rfl | (simp [errW_none, errW_some] <;> rfl) | (simp [*, errW_none, errW_some] <;> rfl), by repeat (first | (with_reducible first | exact HB.out | apply below_alloc | apply pw_below_drewN | apply below_drew1) | exact HB.out)⟩
                                    · rw [if_neg c49] at H
                                      exact absurd H (by simp)
                                  · rw [if_neg c48] at H
                                    exact absurd H (by simp)
                                · rw [if_neg c47] at H
                                  have c47b0 : (t295 == 0) = false := beq_eq_false_iff_ne.mpr c47
                                  (try (have z9_ := (‹((t295 == 0) == decide _) = true›); rw [c47b0] at z9_; simp only [Bool.false_beq, Bool.not_eq_true'] at z9_))
                                  have c47b1 : (t295 != 0) = true := bne_iff_ne.mpr c47
                                  have H' := Aside0.mk H
                                  clear H
                                  go_wp2
                                  go_roundg kj39
                                  case measure => have := HK1.out; have := HJ15.out; have := HJ26.out; have := HJ39.out; omega
                                  case rel => exact ⟨(wrap64 (x9_1 + 1)), (by first | rfl | (simp; done) | (simp [*]; done)), H', ⟨by have := HK1.out; have := HJ15.out; have := HJ26.out; have := HJ39.out; omega⟩, ⟨by (with_reducible repeat (first | apply Kd.R_alloc | apply Kd.R_drewN | apply Kd.R_drew)); exact HO_8.out⟩, ⟨by repeat (first | (with_reducible first | exact HB.out | apply below_alloc | apply pw_below_drewN | apply below_drew1) | exact HB.out)⟩⟩
              · rw [if_neg c13] at H
                exact absurd H (by simp)
            · rw [if_neg c12] at H
              exact absurd H (by simp)
          · rw [if_neg c11] at H
            exact absurd H (by simp)
        · rw [if_neg c10] at H
          exact absurd H (by simp)
      · rw [if_neg c9] at H
        have c9b0 : decide (x9_1 < 2) = false := decide_eq_false c9
        clear c9
        replace H := Option.bind_eq_some_iff.mp H
        obtain ⟨t275, A530, H⟩ := H
        replace H : ((blob_Resize.f k1 ([] : List Int) (wrap64 (2030 + t275))).bind fun bt276 => (if ((bt276.2 == 0) == (decide ((wrap64 (2030 + t275)) ≤ 2048))) = true then (if bt276.2 = 0 then (if (bt276.1.length : Int) = (wrap64 (2030 + t275)) then ((truchmanlaw12_lives.f).bind fun t280 => (some t280)) else (some false)) else (if bt276.2 = 15 then (if (bt276.1.length : Int) = 0 then ((truchmanlaw12_lives.f).bind fun t281 => (some t281)) else (some false)) else (some false))) else (some false))) = some r := H
        have A53 := Aside0.mk A530
        clear A530
        replace H := Option.bind_eq_some_iff.mp H
        obtain ⟨⟨t276, t277⟩, A540, H⟩ := H
        replace H : (if ((t277 == 0) == (decide ((wrap64 (2030 + t275)) ≤ 2048))) = true then (if t277 = 0 then (if (t276.length : Int) = (wrap64 (2030 + t275)) then ((truchmanlaw12_lives.f).bind fun t280 => (some t280)) else (some false)) else (if t277 = 15 then (if (t276.length : Int) = 0 then ((truchmanlaw12_lives.f).bind fun t281 => (some t281)) else (some false)) else (some false))) else (some false)) = some r := H
        have A54 := Aside0.mk A540
        clear A540
        by_cases c55 : ((t277 == 0) == (decide ((wrap64 (2030 + t275)) ≤ 2048))) = true
        · rw [if_pos c55] at H
          have c55b0 : ((t277 == 0) == (decide ((wrap64 (2030 + t275)) ≤ 2048))) = true := c55
          (try (have c55b1 : decide ((t277 == 0) = (decide ((wrap64 (2030 + t275)) ≤ 2048))) = true := by simpa using c55))
          (try (have c55b2 : ((t277 == 0) == (decide ((wrap64 (2030 + t275)) ≤ 2048))) = true := by simpa using c55))
          clear c55
          by_cases c56 : t277 = 0
          · rw [if_pos c56] at H
            have c56b0 : (t277 == 0) = true := beq_iff_eq.mpr c56
            (try (have z9_ := (‹((t277 == 0) == decide _) = true›); rw [c56b0] at z9_; simp only [Bool.true_beq] at z9_))
            have c56b1 : (t277 != 0) = false := bne_eq_false_iff_eq.mpr c56
            clear c56
            by_cases c57 : (t276.length : Int) = (wrap64 (2030 + t275))
            · rw [if_pos c57] at H
              have c57b0 : ((t276.length : Int) == (wrap64 (2030 + t275))) = true := beq_iff_eq.mpr c57
              have c57b1 : ((t276.length : Int) != (wrap64 (2030 + t275))) = false := bne_eq_false_iff_eq.mpr c57
              clear c57
              replace H := Option.bind_eq_some_iff.mp H
              obtain ⟨t280, A580, H⟩ := H
              replace H : (some t280) = some r := H
              have A58 := Aside0.mk A580
              clear A580
              obtain rfl := Option.some.inj H
              go_wp2_with (first | ((with_reducible refine gate_callee (f := 12) rfl ?_); refine goesL_ (some 128) rfl rfl Try.func12 (by kernel_rfl) rfl #[.int .i64 a2, .int .i64 31] rfl (by (try simp only [List.map_toArray, List.map_cons, List.map_nil]); first | done | rfl | (simp only [List.length_drop, List.length_take]; rfl)) ?_; (with_reducible refine (truchmanref01_Around.calls a2 31 t275 _ A53.out).mono ?_); rintro e w' ⟨rfl, ⟨nd, rfl⟩⟩; refine ⟨_, rfl, ?_⟩) | ((with_reducible refine gate_callee (f := 18) rfl ?_); refine goesL_ (some 132) rfl rfl Try.func18 (by kernel_rfl) rfl #[.slice none 0 0, .int .i64 (wrap64 (2030 + t275))] rfl (by (try simp only [List.map_toArray, List.map_cons, List.map_nil]); first | done | rfl | (simp only [List.length_drop, List.length_take]; rfl)) ?_; (refine (blob_Resize.calls k1 _ _ ([] : List Int) (wrap64 (2030 + t275)) t276 t277 _ ?side1 ?side2 A54.out).mono ?_); (case side1 => exact Kd.C_nil _ _); (case side2 => exact Nat.le_refl _); rintro e w59 ⟨v278, rfl, ho0, hb⟩; refine ⟨_, rfl, ?_⟩; have n0_ := Aside0.mk (Kd.R_below (by (with_reducible repeat (first | apply Kd.R_alloc | apply Kd.R_drewN | apply Kd.R_drew)); exact HO_8.out) hb); have n1_ := Aside0.mk (Kd.R_lower ho0 (below_size (by repeat (first | (with_reducible first | exact HB.out | apply below_alloc | apply pw_below_drewN | apply below_drew1) | exact HB.out)))); have n2_ := Aside0.mk (below_step (by repeat (first | (with_reducible first | exact HB.out | apply below_alloc | apply pw_below_drewN | apply below_drew1) | exact HB.out)) hb); clear HO_8; clear HB; have HO_8 := n0_; have HO279 := n1_; have HB := n2_; clear n0_ n1_ n2_; (try clear hb); (try clear hb2); (try clear hk); (try clear hi); (try clear ho0); obtain ⟨Ao60, co60, eo60⟩ := Kd.R_slice HO279.out; subst eo60) | (go_at_call 15; (with_reducible refine (truchmanlaw12_lives.calls  t280 _ A58.out).mono ?_); rintro e w61 ⟨rfl, hb⟩; have n0_ := Aside0.mk (Kd.R_below (by (with_reducible repeat (first | apply Kd.R_alloc | apply Kd.R_drewN | apply Kd.R_drew)); exact HO_8.out) hb); have n1_ := Aside0.mk (Kd.R_below (by (with_reducible repeat (first | apply Kd.R_alloc | apply Kd.R_drewN | apply Kd.R_drew)); exact HO279.out) hb); have n2_ := Aside0.mk (below_step (by repeat (first | (with_reducible first | exact HB.out | apply below_alloc | apply pw_below_drewN | apply below_drew1) | exact HB.out)) hb); clear HO_8; clear HO279; clear HB; have HO_8 := n0_; have HO279 := n1_; have HB := n2_; clear n0_ n1_ n2_; (try clear hb); (try clear hb2); (try clear hk); (try clear hi)))
              go_ret
              exact ⟨by first | rfl | (simp [errW_none, errW_some] <;> rfl) | (simp [*, errW_none, errW_some] <;> rfl), by repeat (first | (with_reducible first | exact HB.out | apply below_alloc | apply pw_below_drewN | apply below_drew1) | exact HB.out)⟩
            · rw [if_neg c57] at H
              have c57b0 : ((t276.length : Int) == (wrap64 (2030 + t275))) = false := beq_eq_false_iff_ne.mpr c57
              have c57b1 : ((t276.length : Int) != (wrap64 (2030 + t275))) = true := bne_iff_ne.mpr c57
              obtain rfl := Option.some.inj H
              go_wp2_with (first | ((with_reducible refine gate_callee (f := 12) rfl ?_); refine goesL_ (some 128) rfl rfl Try.func12 (by kernel_rfl) rfl #[.int .i64 a2, .int .i64 31] rfl (by (try simp only [List.map_toArray, List.map_cons, List.map_nil]); first | done | rfl | (simp only [List.length_drop, List.length_take]; rfl)) ?_; (with_reducible refine (truchmanref01_Around.calls a2 31 t275 _ A53.out).mono ?_); rintro e w' ⟨rfl, ⟨nd, rfl⟩⟩; refine ⟨_, rfl, ?_⟩) | ((with_reducible refine gate_callee (f := 18) rfl ?_); refine goesL_ (some 132) rfl rfl Try.func18 (by kernel_rfl) rfl #[.slice none 0 0, .int .i64 (wrap64 (2030 + t275))] rfl (by (try simp only [List.map_toArray, List.map_cons, List.map_nil]); first | done | rfl | (simp only [List.length_drop, List.length_take]; rfl)) ?_; (refine (blob_Resize.calls k1 _ _ ([] : List Int) (wrap64 (2030 + t275)) t276 t277 _ ?side1 ?side2 A54.out).mono ?_); (case side1 => exact Kd.C_nil _ _); (case side2 => exact Nat.le_refl _); rintro e w62 ⟨v278, rfl, ho0, hb⟩; refine ⟨_, rfl, ?_⟩; have n0_ := Aside0.mk (Kd.R_below (by (with_reducible repeat (first | apply Kd.R_alloc | apply Kd.R_drewN | apply Kd.R_drew)); exact HO_8.out) hb); have n1_ := Aside0.mk (Kd.R_lower ho0 (below_size (by repeat (first | (with_reducible first | exact HB.out | apply below_alloc | apply pw_below_drewN | apply below_drew1) | exact HB.out)))); have n2_ := Aside0.mk (below_step (by repeat (first | (with_reducible first | exact HB.out | apply below_alloc | apply pw_below_drewN | apply below_drew1) | exact HB.out)) hb); clear HO_8; clear HB; have HO_8 := n0_; have HO279 := n1_; have HB := n2_; clear n0_ n1_ n2_; (try clear hb); (try clear hb2); (try clear hk); (try clear hi); (try clear ho0); obtain ⟨Ao63, co63, eo63⟩ := Kd.R_slice HO279.out; subst eo63))
              go_ret
              exact ⟨by first | rfl | (simp [errW_none, errW_some] <;> rfl) | (simp [*, errW_none, errW_some] <;> rfl), by repeat (first | (with_reducible first | exact HB.out | apply below_alloc | apply pw_below_drewN | apply below_drew1) | exact HB.out)⟩
          · rw [if_neg c56] at H
            have c56b0 : (t277 == 0) = false := beq_eq_false_iff_ne.mpr c56
            (try (have z9_ := (‹((t277 == 0) == decide _) = true›); rw [c56b0] at z9_; simp only [Bool.false_beq, Bool.not_eq_true'] at z9_))
            have c56b1 : (t277 != 0) = true := bne_iff_ne.mpr c56
            by_cases c64 : t277 = 15
            · rw [if_pos c64] at H
              have c64b0 : (t277 == 15) = true := beq_iff_eq.mpr c64
              have c64b1 : (t277 != 15) = false := bne_eq_false_iff_eq.mpr c64
              clear c64
              by_cases c65 : (t276.length : Int) = 0
              · rw [if_pos c65] at H
                have c65b0 : ((t276.length : Int) == 0) = true := beq_iff_eq.mpr c65
                have c65b1 : ((t276.length : Int) != 0) = false := bne_eq_false_iff_eq.mpr c65
                clear c65
                replace H := Option.bind_eq_some_iff.mp H
                obtain ⟨t281, A660, H⟩ := H
                replace H : (some t281) = some r := H
                have A66 := Aside0.mk A660
                clear A660
                obtain rfl := Option.some.inj H
                go_wp2_with (first | ((with_reducible refine gate_callee (f := 12) rfl ?_); refine goesL_ (some 128) rfl rfl Try.func12 (by kernel_rfl) rfl #[.int .i64 a2, .int .i64 31] rfl (by (try simp only [List.map_toArray, List.map_cons, List.map_nil]); first | done | rfl | (simp only [List.length_drop, List.length_take]; rfl)) ?_; (with_reducible refine (truchmanref01_Around.calls a2 31 t275 _ A53.out).mono ?_); rintro e w' ⟨rfl, ⟨nd, rfl⟩⟩; refine ⟨_, rfl, ?_⟩) | ((with_reducible refine gate_callee (f := 18) rfl ?_); refine goesL_ (some 132) rfl rfl Try.func18 (by kernel_rfl) rfl #[.slice none 0 0, .int .i64 (wrap64 (2030 + t275))] rfl (by (try simp only [List.map_toArray, List.map_cons, List.map_nil]); first | done | rfl | (simp only [List.length_drop, List.length_take]; rfl)) ?_; (refine (blob_Resize.calls k1 _ _ ([] : List Int) (wrap64 (2030 + t275)) t276 t277 _ ?side1 ?side2 A54.out).mono ?_); (case side1 => exact Kd.C_nil _ _); (case side2 => exact Nat.le_refl _); rintro e w67 ⟨v278, rfl, ho0, hb⟩; refine ⟨_, rfl, ?_⟩; have n0_ := Aside0.mk (Kd.R_below (by (with_reducible repeat (first | apply Kd.R_alloc | apply Kd.R_drewN | apply Kd.R_drew)); exact HO_8.out) hb); have n1_ := Aside0.mk (Kd.R_lower ho0 (below_size (by repeat (first | (with_reducible first | exact HB.out | apply below_alloc | apply pw_below_drewN | apply below_drew1) | exact HB.out)))); have n2_ := Aside0.mk (below_step (by repeat (first | (with_reducible first | exact HB.out | apply below_alloc | apply pw_below_drewN | apply below_drew1) | exact HB.out)) hb); clear HO_8; clear HB; have HO_8 := n0_; have HO279 := n1_; have HB := n2_; clear n0_ n1_ n2_; (try clear hb); (try clear hb2); (try clear hk); (try clear hi); (try clear ho0); obtain ⟨Ao68, co68, eo68⟩ := Kd.R_slice HO279.out; subst eo68) | (go_at_call 15; (with_reducible refine (truchmanlaw12_lives.calls  t281 _ A66.out).mono ?_); rintro e w69 ⟨rfl, hb⟩; have n0_ := Aside0.mk (Kd.R_below (by (with_reducible repeat (first | apply Kd.R_alloc | apply Kd.R_drewN | apply Kd.R_drew)); exact HO_8.out) hb); have n1_ := Aside0.mk (Kd.R_below (by (with_reducible repeat (first | apply Kd.R_alloc | apply Kd.R_drewN | apply Kd.R_drew)); exact HO279.out) hb); have n2_ := Aside0.mk (below_step (by repeat (first | (with_reducible first | exact HB.out | apply below_alloc | apply pw_below_drewN | apply below_drew1) | exact HB.out)) hb); clear HO_8; clear HO279; clear HB; have HO_8 := n0_; have HO279 := n1_; have HB := n2_; clear n0_ n1_ n2_; (try clear hb); (try clear hb2); (try clear hk); (try clear hi)))
                go_ret
                exact ⟨by first | rfl | (simp [errW_none, errW_some] <;> rfl) | (simp [*, errW_none, errW_some] <;> rfl), by repeat (first | (with_reducible first | exact HB.out | apply below_alloc | apply pw_below_drewN | apply below_drew1) | exact HB.out)⟩
              · rw [if_neg c65] at H
                have c65b0 : ((t276.length : Int) == 0) = false := beq_eq_false_iff_ne.mpr c65
                have c65b1 : ((t276.length : Int) != 0) = true := bne_iff_ne.mpr c65
                have c65b2 : ¬ (t276 = []) := fun h_ => c65 (by rw [h_]; rfl)
                obtain rfl := Option.some.inj H
                go_wp2_with (first | ((with_reducible refine gate_callee (f := 12) rfl ?_); refine goesL_ (some 128) rfl rfl Try.func12 (by kernel_rfl) rfl #[.int .i64 a2, .int .i64 31] rfl (by (try simp only [List.map_toArray, List.map_cons, List.map_nil]); first | done | rfl | (simp only [List.length_drop, List.length_take]; rfl)) ?_; (with_reducible refine (truchmanref01_Around.calls a2 31 t275 _ A53.out).mono ?_); rintro e w' ⟨rfl, ⟨nd, rfl⟩⟩; refine ⟨_, rfl, ?_⟩) | ((with_reducible refine gate_callee (f := 18) rfl ?_); refine goesL_ (some 132) rfl rfl Try.func18 (by kernel_rfl) rfl #[.slice none 0 0, .int .i64 (wrap64 (2030 + t275))] rfl (by (try simp only [List.map_toArray, List.map_cons, List.map_nil]); first | done | rfl | (simp only [List.length_drop, List.length_take]; rfl)) ?_; (refine (blob_Resize.calls k1 _ _ ([] : List Int) (wrap64 (2030 + t275)) t276 t277 _ ?side1 ?side2 A54.out).mono ?_); (case side1 => exact Kd.C_nil _ _); (case side2 => exact Nat.le_refl _); rintro e w70 ⟨v278, rfl, ho0, hb⟩; refine ⟨_, rfl, ?_⟩; have n0_ := Aside0.mk (Kd.R_below (by (with_reducible repeat (first | apply Kd.R_alloc | apply Kd.R_drewN | apply Kd.R_drew)); exact HO_8.out) hb); have n1_ := Aside0.mk (Kd.R_lower ho0 (below_size (by repeat (first | (with_reducible first | exact HB.out | apply below_alloc | apply pw_below_drewN | apply below_drew1) | exact HB.out)))); have n2_ := Aside0.mk (below_step (by repeat (first | (with_reducible first | exact HB.out | apply below_alloc | apply pw_below_drewN | apply below_drew1) | exact HB.out)) hb); clear HO_8; clear HB; have HO_8 := n0_; have HO279 := n1_; have HB := n2_; clear n0_ n1_ n2_; (try clear hb); (try clear hb2); (try clear hk); (try clear hi); (try clear ho0); obtain ⟨Ao71, co71, eo71⟩ := Kd.R_slice HO279.out; subst eo71))
                go_ret
                exact ⟨by first | rfl | (simp [errW_none, errW_some] <;> rfl) | (simp [*, errW_none, errW_some] <;> rfl), by repeat (first | (with_reducible first | exact HB.out | apply below_alloc | apply pw_below_drewN | apply below_drew1) | exact HB.out)⟩
            · rw [if_neg c64] at H
              have c64b0 : (t277 == 15) = false := beq_eq_false_iff_ne.mpr c64
              have c64b1 : (t277 != 15) = true := bne_iff_ne.mpr c64
              obtain rfl := Option.some.inj H
              go_wp2_with (first | ((with_reducible refine gate_callee (f := 12) rfl ?_); refine goesL_ (some 128) rfl rfl Try.func12 (by kernel_rfl) rfl #[.int .i64 a2, .int .i64 31] rfl (by (try simp only [List.map_toArray, List.map_cons, List.map_nil]); first | done | rfl | (simp only [List.length_drop, List.length_take]; rfl)) ?_; (with_reducible refine (truchmanref01_Around.calls a2 31 t275 _ A53.out).mono ?_); rintro e w' ⟨rfl, ⟨nd, rfl⟩⟩; refine ⟨_, rfl, ?_⟩) | ((with_reducible refine gate_callee (f := 18) rfl ?_); refine goesL_ (some 132) rfl rfl Try.func18 (by kernel_rfl) rfl #[.slice none 0 0, .int .i64 (wrap64 (2030 + t275))] rfl (by (try simp only [List.map_toArray, List.map_cons, List.map_nil]); first | done | rfl | (simp only [List.length_drop, List.length_take]; rfl)) ?_; (refine (blob_Resize.calls k1 _ _ ([] : List Int) (wrap64 (2030 + t275)) t276 t277 _ ?side1 ?side2 A54.out).mono ?_); (case side1 => exact Kd.C_nil _ _); (case side2 => exact Nat.le_refl _); rintro e w72 ⟨v278, rfl, ho0, hb⟩; refine ⟨_, rfl, ?_⟩; have n0_ := Aside0.mk (Kd.R_below (by (with_reducible repeat (first | apply Kd.R_alloc | apply Kd.R_drewN | apply Kd.R_drew)); exact HO_8.out) hb); have n1_ := Aside0.mk (Kd.R_lower ho0 (below_size (by repeat (first | (with_reducible first | exact HB.out | apply below_alloc | apply pw_below_drewN | apply below_drew1) | exact HB.out)))); have n2_ := Aside0.mk (below_step (by repeat (first | (with_reducible first | exact HB.out | apply below_alloc | apply pw_below_drewN | apply below_drew1) | exact HB.out)) hb); clear HO_8; clear HB; have HO_8 := n0_; have HO279 := n1_; have HB := n2_; clear n0_ n1_ n2_; (try clear hb); (try clear hb2); (try clear hk); (try clear hi); (try clear ho0)))
              go_ret
              exact ⟨by first | rfl | (simp [errW_none, errW_some] <;> rfl) | (simp [*, errW_none, errW_some] <;> rfl), by repeat (first | (with_reducible first | exact HB.out | apply below_alloc | apply pw_below_drewN | apply below_drew1) | exact HB.out)⟩
        · rw [if_neg c55] at H
          have c55b0 : ((t277 == 0) == (decide ((wrap64 (2030 + t275)) ≤ 2048))) = false := by simpa using c55
          (try (have c55b1 : decide ((t277 == 0) = (decide ((wrap64 (2030 + t275)) ≤ 2048))) = false := by simpa using c55))
          (try (have c55b2 : ((t277 == 0) == (decide ((wrap64 (2030 + t275)) ≤ 2048))) = false := by simpa using c55))
          (try (have c55b3 : ¬ ((t277 == 0) = (decide ((wrap64 (2030 + t275)) ≤ 2048))) := by simpa using c55))
          clear c55
          obtain rfl := Option.some.inj H
          go_wp2_with (first | ((with_reducible refine gate_callee (f := 12) rfl ?_); refine goesL_ (some 128) rfl rfl Try.func12 (by kernel_rfl) rfl #[.int .i64 a2, .int .i64 31] rfl (by (try simp only [List.map_toArray, List.map_cons, List.map_nil]); first | done | rfl | (simp only [List.length_drop, List.length_take]; rfl)) ?_; (with_reducible refine (truchmanref01_Around.calls a2 31 t275 _ A53.out).mono ?_); rintro e w' ⟨rfl, ⟨nd, rfl⟩⟩; refine ⟨_, rfl, ?_⟩) | ((with_reducible refine gate_callee (f := 18) rfl ?_); refine goesL_ (some 132) rfl rfl Try.func18 (by kernel_rfl) rfl #[.slice none 0 0, .int .i64 (wrap64 (2030 + t275))] rfl (by (try simp only [List.map_toArray, List.map_cons, List.map_nil]); first | done | rfl | (simp only [List.length_drop, List.length_take]; rfl)) ?_; (refine (blob_Resize.calls k1 _ _ ([] : List Int) (wrap64 (2030 + t275)) t276 t277 _ ?side1 ?side2 A54.out).mono ?_); (case side1 => exact Kd.C_nil _ _); (case side2 => exact Nat.le_refl _); rintro e w73 ⟨v278, rfl, ho0, hb⟩; refine ⟨_, rfl, ?_⟩; have n0_ := Aside0.mk (Kd.R_below (by (with_reducible repeat (first | apply Kd.R_alloc | apply Kd.R_drewN | apply Kd.R_drew)); exact HO_8.out) hb); have n1_ := Aside0.mk (Kd.R_lower ho0 (below_size (by repeat (first | (with_reducible first | exact HB.out | apply below_alloc | apply pw_below_drewN | apply below_drew1) | exact HB.out)))); have n2_ := Aside0.mk (below_step (by repeat (first | (with_reducible first | exact HB.out | apply below_alloc | apply pw_below_drewN | apply below_drew1) | exact HB.out)) hb); clear HO_8; clear HB; have HO_8 := n0_; have HO279 := n1_; have HB := n2_; clear n0_ n1_ n2_; (try clear hb); (try clear hb2); (try clear hk); (try clear hi); (try clear ho0)))
          go_ret
          exact ⟨by first | rfl | (simp [errW_none, errW_some] <;> rfl) | (simp [*, errW_none, errW_some] <;> rfl), by repeat (first | (with_reducible first | exact HB.out | apply below_alloc | apply pw_below_drewN | apply below_drew1) | exact HB.out)⟩

/-- THE ONE PURE STATEMENT of truchmanlaw12_BlobBounds: yours. -/
def truchmanlaw12_BlobBounds.Pure : Prop := ∀ (a0 : Int) (a1 : Int) (a2 : Int), (Lit.int .i64 a0).wf = true → (Lit.int .i64 a1).wf = true → (Lit.int .i64 a2).wf = true → ∃ k, truchmanlaw12_BlobBounds.f k a0 a1 a2 = some true
theorem truchmanlaw12_BlobBounds.walk (P : truchmanlaw12_BlobBounds.Pure) (a0 : Int) (a1 : Int) (a2 : Int) (w : World) (w0 : (Lit.int .i64 a0).wf = true) (w1 : (Lit.int .i64 a1).wf = true) (w2 : (Lit.int .i64 a2).wf = true) :
    Calls Try.prog 9 #[.int .i64 a0, .int .i64 a1, .int .i64 a2] w fun e w' => e = .returned (.bool true) ∧ Below w.heap.size w w' := by
  obtain ⟨k, h⟩ := P a0 a1 a2 w0 w1 w2
  refine (truchmanlaw12_BlobBounds.calls k a0 a1 a2 true w h).mono ?_
  rintro e w' ⟨rfl, hd⟩
  exact ⟨rfl, hd⟩

end Go.Proofs.Ytaipnchallmioaa.B
