-- Printed for Ytaipnchallmioaa by hprint.py, a program of this session over the kit's print.py, some functions taken from texts by hand.
import Derived.Test.YtaipnchallmioaaBx0
import Derived.Test.YtaipnchallmioaaBx1
namespace Go.Proofs.Ytaipnchallmioaa.B
open Go.RowKit Go.Proofs.YtaipnchallmioaaW.PrintWords Go.Proofs.YtaipnchallmioaaW.PrintLast Go.Proofs.YtaipnchallmioaaW.PrintMore
attribute [local go_sem] max2_int min2_int max_two min_two max_three min_three max_four min_four   -- for this text's walks alone
set_option linter.unusedVariables false
set_option linter.unusedSimpArgs false

/-! ### blob_Fits: function 20 -/
def blob_Fits.f (a0 : Int) (a1 : Int) (a2 : Int) (a3 : Int) : Option (Int) := (blob_great.f a1 a2).bind fun t251 => (if t251 = true then (some 15) else (if a2 > 0 then (if (wrap64 ((wrap64 (a1 + a2)) - a0)) > a3 then (some 14) else (some 0)) else (some 0)))
set_option maxHeartbeats 8000000 in
set_option maxRecDepth 100000 in
theorem blob_Fits.calls (a0 : Int) (a1 : Int) (a2 : Int) (a3 : Int) (r : Int) (w : World) (h : blob_Fits.f a0 a1 a2 a3 = some r) :
    Calls Try.prog 20 #[.int .i64 a0, .int .i64 a1, .int .i64 a2, .int .i64 a3] w fun e w' => e = .returned (.int .i64 r) ∧ Drawn0 w w' := by
  have H : ((blob_great.f a1 a2).bind fun t251 => (if t251 = true then (some 15) else (if a2 > 0 then (if (wrap64 ((wrap64 (a1 + a2)) - a0)) > a3 then (some 14) else (some 0)) else (some 0)))) = some r := h
  clear h
  replace H := Option.bind_eq_some_iff.mp H
  obtain ⟨t251, A50, H⟩ := H
  replace H : (if t251 = true then (some 15) else (if a2 > 0 then (if (wrap64 ((wrap64 (a1 + a2)) - a0)) > a3 then (some 14) else (some 0)) else (some 0))) = some r := H
  have A5 := Aside0.mk A50
  clear A50
  by_cases c6 : t251 = true
  · subst c6
    have H1 : (some 15) = some r := by rw [if_pos rfl] at H; exact H
    clear H
    have H := H1
    clear H1
    obtain rfl := Option.some.inj H
    go_enter Try.func20, Try.ntmps20
    go_wp2_with (first | ((with_reducible refine gate_callee (f := 22) rfl ?_); refine goesL_ (some 12) rfl rfl Try.func22 (by kernel_rfl) rfl #[.int .i64 a1, .int .i64 a2] rfl (by (try simp only [List.map_toArray, List.map_cons, List.map_nil]); first | done | rfl | (simp only [List.length_drop, List.length_take]; rfl)) ?_; (with_reducible refine (blob_great.calls a1 a2 true _ A5.out).mono ?_); rintro e w' ⟨rfl, ⟨nd, rfl⟩⟩; refine ⟨_, rfl, ?_⟩))
    go_ret
    exact ⟨by first | rfl | (simp; done) | (simp [*]; done), by repeat (first | exact Drawn0.refl _ | apply Drawn0.step)⟩
  · replace c6 := Bool.eq_false_iff.mpr c6
    subst c6
    have H1 : (if a2 > 0 then (if (wrap64 ((wrap64 (a1 + a2)) - a0)) > a3 then (some 14) else (some 0)) else (some 0)) = some r := by rw [if_neg (show ¬ (false = true) by decide)] at H; exact H
    clear H
    have H := H1
    clear H1
    by_cases c7 : a2 > 0
    · rw [if_pos c7] at H
      have c7b0 : decide (0 < a2) = true := decide_eq_true c7
      clear c7
      by_cases c8 : (wrap64 ((wrap64 (a1 + a2)) - a0)) > a3
      · rw [if_pos c8] at H
        have c8b0 : decide (a3 < (wrap64 ((wrap64 (a1 + a2)) - a0))) = true := decide_eq_true c8
        clear c8
        obtain rfl := Option.some.inj H
        go_enter Try.func20, Try.ntmps20
        go_wp2_with (first | ((with_reducible refine gate_callee (f := 22) rfl ?_); refine goesL_ (some 12) rfl rfl Try.func22 (by kernel_rfl) rfl #[.int .i64 a1, .int .i64 a2] rfl (by (try simp only [List.map_toArray, List.map_cons, List.map_nil]); first | done | rfl | (simp only [List.length_drop, List.length_take]; rfl)) ?_; (with_reducible refine (blob_great.calls a1 a2 false _ A5.out).mono ?_); rintro e w' ⟨rfl, ⟨nd, rfl⟩⟩; refine ⟨_, rfl, ?_⟩))
        go_ret
        exact ⟨by first | rfl | (simp; done) | (simp [*]; done), by repeat (first | exact Drawn0.refl _ | apply Drawn0.step)⟩
      · rw [if_neg c8] at H
        have c8b0 : decide (a3 < (wrap64 ((wrap64 (a1 + a2)) - a0))) = false := decide_eq_false c8
        clear c8
        obtain rfl := Option.some.inj H
        go_enter Try.func20, Try.ntmps20
        go_wp2_with (first | ((with_reducible refine gate_callee (f := 22) rfl ?_); refine goesL_ (some 12) rfl rfl Try.func22 (by kernel_rfl) rfl #[.int .i64 a1, .int .i64 a2] rfl (by (try simp only [List.map_toArray, List.map_cons, List.map_nil]); first | done | rfl | (simp only [List.length_drop, List.length_take]; rfl)) ?_; (with_reducible refine (blob_great.calls a1 a2 false _ A5.out).mono ?_); rintro e w' ⟨rfl, ⟨nd, rfl⟩⟩; refine ⟨_, rfl, ?_⟩))
        go_ret
        exact ⟨by first | rfl | (simp; done) | (simp [*]; done), by repeat (first | exact Drawn0.refl _ | apply Drawn0.step)⟩
    · rw [if_neg c7] at H
      have c7b0 : decide (0 < a2) = false := decide_eq_false c7
      clear c7
      obtain rfl := Option.some.inj H
      go_enter Try.func20, Try.ntmps20
      go_wp2_with (first | ((with_reducible refine gate_callee (f := 22) rfl ?_); refine goesL_ (some 12) rfl rfl Try.func22 (by kernel_rfl) rfl #[.int .i64 a1, .int .i64 a2] rfl (by (try simp only [List.map_toArray, List.map_cons, List.map_nil]); first | done | rfl | (simp only [List.length_drop, List.length_take]; rfl)) ?_; (with_reducible refine (blob_great.calls a1 a2 false _ A5.out).mono ?_); rintro e w' ⟨rfl, ⟨nd, rfl⟩⟩; refine ⟨_, rfl, ?_⟩))
      go_ret
      exact ⟨by first | rfl | (simp; done) | (simp [*]; done), by repeat (first | exact Drawn0.refl _ | apply Drawn0.step)⟩

/-! ### truchmanref12_Fits: function 21 -/
def truchmanref12_Fits.f (a0 : Int) (a1 : Int) (a2 : Int) (a3 : Int) : Option (Int) := (truchmanref12_TooBig.f a1 a2).bind fun t252 => (if t252 = true then (some 15) else (if a2 > 0 then (if (wrap64 (a1 + a2)) > a0 then (if (wrap64 ((wrap64 (a1 + a2)) - a0)) > a3 then (some 14) else (some 0)) else (some 0)) else (some 0)))
set_option maxHeartbeats 8000000 in
set_option maxRecDepth 100000 in
theorem truchmanref12_Fits.calls (a0 : Int) (a1 : Int) (a2 : Int) (a3 : Int) (r : Int) (w : World) (h : truchmanref12_Fits.f a0 a1 a2 a3 = some r) :
    Calls Try.prog 21 #[.int .i64 a0, .int .i64 a1, .int .i64 a2, .int .i64 a3] w fun e w' => e = .returned (.int .i64 r) ∧ Drawn0 w w' := by
  have H : ((truchmanref12_TooBig.f a1 a2).bind fun t252 => (if t252 = true then (some 15) else (if a2 > 0 then (if (wrap64 (a1 + a2)) > a0 then (if (wrap64 ((wrap64 (a1 + a2)) - a0)) > a3 then (some 14) else (some 0)) else (some 0)) else (some 0)))) = some r := h
  clear h
  replace H := Option.bind_eq_some_iff.mp H
  obtain ⟨t252, A50, H⟩ := H
  replace H : (if t252 = true then (some 15) else (if a2 > 0 then (if (wrap64 (a1 + a2)) > a0 then (if (wrap64 ((wrap64 (a1 + a2)) - a0)) > a3 then (some 14) else (some 0)) else (some 0)) else (some 0))) = some r := H
  have A5 := Aside0.mk A50
  clear A50
  by_cases c6 : t252 = true
  · subst c6
    have H1 : (some 15) = some r := by rw [if_pos rfl] at H; exact H
    clear H
    have H := H1
    clear H1
    obtain rfl := Option.some.inj H
    go_enter Try.func21, Try.ntmps21
    go_wp2_with (first | ((with_reducible refine gate_callee (f := 25) rfl ?_); refine goesL_ (some 12) rfl rfl Try.func25 (by kernel_rfl) rfl #[.int .i64 a1, .int .i64 a2] rfl (by (try simp only [List.map_toArray, List.map_cons, List.map_nil]); first | done | rfl | (simp only [List.length_drop, List.length_take]; rfl)) ?_; (with_reducible refine (truchmanref12_TooBig.calls a1 a2 true _ A5.out).mono ?_); rintro e w' ⟨rfl, ⟨nd, rfl⟩⟩; refine ⟨_, rfl, ?_⟩))
    go_ret
    exact ⟨by first | rfl | (simp; done) | (simp [*]; done), by repeat (first | exact Drawn0.refl _ | apply Drawn0.step)⟩
  · replace c6 := Bool.eq_false_iff.mpr c6
    subst c6
    have H1 : (if a2 > 0 then (if (wrap64 (a1 + a2)) > a0 then (if (wrap64 ((wrap64 (a1 + a2)) - a0)) > a3 then (some 14) else (some 0)) else (some 0)) else (some 0)) = some r := by rw [if_neg (show ¬ (false = true) by decide)] at H; exact H
    clear H
    have H := H1
    clear H1
    by_cases c7 : a2 > 0
    · rw [if_pos c7] at H
      have c7b0 : decide (0 < a2) = true := decide_eq_true c7
      clear c7
      by_cases c8 : (wrap64 (a1 + a2)) > a0
      · rw [if_pos c8] at H
        have c8b0 : decide (a0 < (wrap64 (a1 + a2))) = true := decide_eq_true c8
        clear c8
        by_cases c9 : (wrap64 ((wrap64 (a1 + a2)) - a0)) > a3
        · rw [if_pos c9] at H
          have c9b0 : decide (a3 < (wrap64 ((wrap64 (a1 + a2)) - a0))) = true := decide_eq_true c9
          clear c9
          obtain rfl := Option.some.inj H
          go_enter Try.func21, Try.ntmps21
          go_wp2_with (first | ((with_reducible refine gate_callee (f := 25) rfl ?_); refine goesL_ (some 12) rfl rfl Try.func25 (by kernel_rfl) rfl #[.int .i64 a1, .int .i64 a2] rfl (by (try simp only [List.map_toArray, List.map_cons, List.map_nil]); first | done | rfl | (simp only [List.length_drop, List.length_take]; rfl)) ?_; (with_reducible refine (truchmanref12_TooBig.calls a1 a2 false _ A5.out).mono ?_); rintro e w' ⟨rfl, ⟨nd, rfl⟩⟩; refine ⟨_, rfl, ?_⟩))
          go_ret
          exact ⟨by first | rfl | (simp; done) | (simp [*]; done), by repeat (first | exact Drawn0.refl _ | apply Drawn0.step)⟩
        · rw [if_neg c9] at H
          have c9b0 : decide (a3 < (wrap64 ((wrap64 (a1 + a2)) - a0))) = false := decide_eq_false c9
          clear c9
          obtain rfl := Option.some.inj H
          go_enter Try.func21, Try.ntmps21
          go_wp2_with (first | ((with_reducible refine gate_callee (f := 25) rfl ?_); refine goesL_ (some 12) rfl rfl Try.func25 (by kernel_rfl) rfl #[.int .i64 a1, .int .i64 a2] rfl (by (try simp only [List.map_toArray, List.map_cons, List.map_nil]); first | done | rfl | (simp only [List.length_drop, List.length_take]; rfl)) ?_; (with_reducible refine (truchmanref12_TooBig.calls a1 a2 false _ A5.out).mono ?_); rintro e w' ⟨rfl, ⟨nd, rfl⟩⟩; refine ⟨_, rfl, ?_⟩))
          go_ret
          exact ⟨by first | rfl | (simp; done) | (simp [*]; done), by repeat (first | exact Drawn0.refl _ | apply Drawn0.step)⟩
      · rw [if_neg c8] at H
        have c8b0 : decide (a0 < (wrap64 (a1 + a2))) = false := decide_eq_false c8
        clear c8
        obtain rfl := Option.some.inj H
        go_enter Try.func21, Try.ntmps21
        go_wp2_with (first | ((with_reducible refine gate_callee (f := 25) rfl ?_); refine goesL_ (some 12) rfl rfl Try.func25 (by kernel_rfl) rfl #[.int .i64 a1, .int .i64 a2] rfl (by (try simp only [List.map_toArray, List.map_cons, List.map_nil]); first | done | rfl | (simp only [List.length_drop, List.length_take]; rfl)) ?_; (with_reducible refine (truchmanref12_TooBig.calls a1 a2 false _ A5.out).mono ?_); rintro e w' ⟨rfl, ⟨nd, rfl⟩⟩; refine ⟨_, rfl, ?_⟩))
        go_ret
        exact ⟨by first | rfl | (simp; done) | (simp [*]; done), by repeat (first | exact Drawn0.refl _ | apply Drawn0.step)⟩
    · rw [if_neg c7] at H
      have c7b0 : decide (0 < a2) = false := decide_eq_false c7
      clear c7
      obtain rfl := Option.some.inj H
      go_enter Try.func21, Try.ntmps21
      go_wp2_with (first | ((with_reducible refine gate_callee (f := 25) rfl ?_); refine goesL_ (some 12) rfl rfl Try.func25 (by kernel_rfl) rfl #[.int .i64 a1, .int .i64 a2] rfl (by (try simp only [List.map_toArray, List.map_cons, List.map_nil]); first | done | rfl | (simp only [List.length_drop, List.length_take]; rfl)) ?_; (with_reducible refine (truchmanref12_TooBig.calls a1 a2 false _ A5.out).mono ?_); rintro e w' ⟨rfl, ⟨nd, rfl⟩⟩; refine ⟨_, rfl, ?_⟩))
      go_ret
      exact ⟨by first | rfl | (simp; done) | (simp [*]; done), by repeat (first | exact Drawn0.refl _ | apply Drawn0.step)⟩

/-! ### truchmanlaw12_BlobFits: function 8 -/
def truchmanlaw12_BlobFits.f (a0 : Int) (a1 : Int) (a2 : Int) (a3 : Int) : Option (Bool) := (truchmanref01_Around.f a0 2049).bind fun t253 => ((truchmanref01_Around.f a0 60).bind fun t254 => ((truchmanlaw12_from.f a1).bind fun t255 => ((truchmanlaw12_from.f a2).bind fun t256 => ((truchmanlaw12_from.f a3).bind fun t257 => ((blob_Fits.f t253 t255 t256 t257).bind fun t258 => ((truchmanlaw12_from.f a1).bind fun t259 => ((truchmanlaw12_from.f a2).bind fun t260 => ((truchmanlaw12_from.f a3).bind fun t261 => ((truchmanref12_Fits.f t253 t259 t260 t261).bind fun t262 => (if t258 = t262 then ((truchmanref01_Around.f a1 101).bind fun t263 => ((truchmanref01_Around.f a2 101).bind fun t264 => ((truchmanref01_Around.f a3 101).bind fun t265 => ((blob_Fits.f t254 t263 t264 t265).bind fun t266 => ((truchmanref12_Fits.f t254 t263 t264 t265).bind fun t267 => (if t266 = t267 then ((truchmanlaw12_lives.f).bind fun t268 => (some t268)) else (some false))))))) else (some false)))))))))))
set_option maxHeartbeats 8000000 in
set_option maxRecDepth 100000 in
theorem truchmanlaw12_BlobFits.calls (a0 : Int) (a1 : Int) (a2 : Int) (a3 : Int) (r : Bool) (w : World) (h : truchmanlaw12_BlobFits.f a0 a1 a2 a3 = some r) :
    Calls Try.prog 8 #[.int .i64 a0, .int .i64 a1, .int .i64 a2, .int .i64 a3] w fun e w' => e = .returned (.bool r) ∧ Below w.heap.size w w' := by
  have HB := Aside0.mk (Below.refl w.heap.size w)
  have H : ((truchmanref01_Around.f a0 2049).bind fun t253 => ((truchmanref01_Around.f a0 60).bind fun t254 => ((truchmanlaw12_from.f a1).bind fun t255 => ((truchmanlaw12_from.f a2).bind fun t256 => ((truchmanlaw12_from.f a3).bind fun t257 => ((blob_Fits.f t253 t255 t256 t257).bind fun t258 => ((truchmanlaw12_from.f a1).bind fun t259 => ((truchmanlaw12_from.f a2).bind fun t260 => ((truchmanlaw12_from.f a3).bind fun t261 => ((truchmanref12_Fits.f t253 t259 t260 t261).bind fun t262 => (if t258 = t262 then ((truchmanref01_Around.f a1 101).bind fun t263 => ((truchmanref01_Around.f a2 101).bind fun t264 => ((truchmanref01_Around.f a3 101).bind fun t265 => ((blob_Fits.f t254 t263 t264 t265).bind fun t266 => ((truchmanref12_Fits.f t254 t263 t264 t265).bind fun t267 => (if t266 = t267 then ((truchmanlaw12_lives.f).bind fun t268 => (some t268)) else (some false))))))) else (some false)))))))))))) = some r := h
  clear h
  replace H := Option.bind_eq_some_iff.mp H
  obtain ⟨t253, A50, H⟩ := H
  replace H : ((truchmanref01_Around.f a0 60).bind fun t254 => ((truchmanlaw12_from.f a1).bind fun t255 => ((truchmanlaw12_from.f a2).bind fun t256 => ((truchmanlaw12_from.f a3).bind fun t257 => ((blob_Fits.f t253 t255 t256 t257).bind fun t258 => ((truchmanlaw12_from.f a1).bind fun t259 => ((truchmanlaw12_from.f a2).bind fun t260 => ((truchmanlaw12_from.f a3).bind fun t261 => ((truchmanref12_Fits.f t253 t259 t260 t261).bind fun t262 => (if t258 = t262 then ((truchmanref01_Around.f a1 101).bind fun t263 => ((truchmanref01_Around.f a2 101).bind fun t264 => ((truchmanref01_Around.f a3 101).bind fun t265 => ((blob_Fits.f t254 t263 t264 t265).bind fun t266 => ((truchmanref12_Fits.f t254 t263 t264 t265).bind fun t267 => (if t266 = t267 then ((truchmanlaw12_lives.f).bind fun t268 => (some t268)) else (some false))))))) else (some false))))))))))) = some r := H
  have A5 := Aside0.mk A50
  clear A50
  replace H := Option.bind_eq_some_iff.mp H
  obtain ⟨t254, A60, H⟩ := H
  replace H : ((truchmanlaw12_from.f a1).bind fun t255 => ((truchmanlaw12_from.f a2).bind fun t256 => ((truchmanlaw12_from.f a3).bind fun t257 => ((blob_Fits.f t253 t255 t256 t257).bind fun t258 => ((truchmanlaw12_from.f a1).bind fun t259 => ((truchmanlaw12_from.f a2).bind fun t260 => ((truchmanlaw12_from.f a3).bind fun t261 => ((truchmanref12_Fits.f t253 t259 t260 t261).bind fun t262 => (if t258 = t262 then ((truchmanref01_Around.f a1 101).bind fun t263 => ((truchmanref01_Around.f a2 101).bind fun t264 => ((truchmanref01_Around.f a3 101).bind fun t265 => ((blob_Fits.f t254 t263 t264 t265).bind fun t266 => ((truchmanref12_Fits.f t254 t263 t264 t265).bind fun t267 => (if t266 = t267 then ((truchmanlaw12_lives.f).bind fun t268 => (some t268)) else (some false))))))) else (some false)))))))))) = some r := H
  have A6 := Aside0.mk A60
  clear A60
  replace H := Option.bind_eq_some_iff.mp H
  obtain ⟨t255, A70, H⟩ := H
  replace H : ((truchmanlaw12_from.f a2).bind fun t256 => ((truchmanlaw12_from.f a3).bind fun t257 => ((blob_Fits.f t253 t255 t256 t257).bind fun t258 => ((truchmanlaw12_from.f a1).bind fun t259 => ((truchmanlaw12_from.f a2).bind fun t260 => ((truchmanlaw12_from.f a3).bind fun t261 => ((truchmanref12_Fits.f t253 t259 t260 t261).bind fun t262 => (if t258 = t262 then ((truchmanref01_Around.f a1 101).bind fun t263 => ((truchmanref01_Around.f a2 101).bind fun t264 => ((truchmanref01_Around.f a3 101).bind fun t265 => ((blob_Fits.f t254 t263 t264 t265).bind fun t266 => ((truchmanref12_Fits.f t254 t263 t264 t265).bind fun t267 => (if t266 = t267 then ((truchmanlaw12_lives.f).bind fun t268 => (some t268)) else (some false))))))) else (some false))))))))) = some r := H
  have A7 := Aside0.mk A70
  clear A70
  replace H := Option.bind_eq_some_iff.mp H
  obtain ⟨t256, A80, H⟩ := H
  replace H : ((truchmanlaw12_from.f a3).bind fun t257 => ((blob_Fits.f t253 t255 t256 t257).bind fun t258 => ((truchmanlaw12_from.f a1).bind fun t259 => ((truchmanlaw12_from.f a2).bind fun t260 => ((truchmanlaw12_from.f a3).bind fun t261 => ((truchmanref12_Fits.f t253 t259 t260 t261).bind fun t262 => (if t258 = t262 then ((truchmanref01_Around.f a1 101).bind fun t263 => ((truchmanref01_Around.f a2 101).bind fun t264 => ((truchmanref01_Around.f a3 101).bind fun t265 => ((blob_Fits.f t254 t263 t264 t265).bind fun t266 => ((truchmanref12_Fits.f t254 t263 t264 t265).bind fun t267 => (if t266 = t267 then ((truchmanlaw12_lives.f).bind fun t268 => (some t268)) else (some false))))))) else (some false)))))))) = some r := H
  have A8 := Aside0.mk A80
  clear A80
  replace H := Option.bind_eq_some_iff.mp H
  obtain ⟨t257, A90, H⟩ := H
  replace H : ((blob_Fits.f t253 t255 t256 t257).bind fun t258 => ((truchmanlaw12_from.f a1).bind fun t259 => ((truchmanlaw12_from.f a2).bind fun t260 => ((truchmanlaw12_from.f a3).bind fun t261 => ((truchmanref12_Fits.f t253 t259 t260 t261).bind fun t262 => (if t258 = t262 then ((truchmanref01_Around.f a1 101).bind fun t263 => ((truchmanref01_Around.f a2 101).bind fun t264 => ((truchmanref01_Around.f a3 101).bind fun t265 => ((blob_Fits.f t254 t263 t264 t265).bind fun t266 => ((truchmanref12_Fits.f t254 t263 t264 t265).bind fun t267 => (if t266 = t267 then ((truchmanlaw12_lives.f).bind fun t268 => (some t268)) else (some false))))))) else (some false))))))) = some r := H
  have A9 := Aside0.mk A90
  clear A90
  replace H := Option.bind_eq_some_iff.mp H
  obtain ⟨t258, A100, H⟩ := H
  replace H : ((truchmanlaw12_from.f a1).bind fun t259 => ((truchmanlaw12_from.f a2).bind fun t260 => ((truchmanlaw12_from.f a3).bind fun t261 => ((truchmanref12_Fits.f t253 t259 t260 t261).bind fun t262 => (if t258 = t262 then ((truchmanref01_Around.f a1 101).bind fun t263 => ((truchmanref01_Around.f a2 101).bind fun t264 => ((truchmanref01_Around.f a3 101).bind fun t265 => ((blob_Fits.f t254 t263 t264 t265).bind fun t266 => ((truchmanref12_Fits.f t254 t263 t264 t265).bind fun t267 => (if t266 = t267 then ((truchmanlaw12_lives.f).bind fun t268 => (some t268)) else (some false))))))) else (some false)))))) = some r := H
  have A10 := Aside0.mk A100
  clear A100
  replace H := Option.bind_eq_some_iff.mp H
  obtain ⟨t259, A110, H⟩ := H
  replace H : ((truchmanlaw12_from.f a2).bind fun t260 => ((truchmanlaw12_from.f a3).bind fun t261 => ((truchmanref12_Fits.f t253 t259 t260 t261).bind fun t262 => (if t258 = t262 then ((truchmanref01_Around.f a1 101).bind fun t263 => ((truchmanref01_Around.f a2 101).bind fun t264 => ((truchmanref01_Around.f a3 101).bind fun t265 => ((blob_Fits.f t254 t263 t264 t265).bind fun t266 => ((truchmanref12_Fits.f t254 t263 t264 t265).bind fun t267 => (if t266 = t267 then ((truchmanlaw12_lives.f).bind fun t268 => (some t268)) else (some false))))))) else (some false))))) = some r := H
  have A11 := Aside0.mk A110
  clear A110
  replace H := Option.bind_eq_some_iff.mp H
  obtain ⟨t260, A120, H⟩ := H
  replace H : ((truchmanlaw12_from.f a3).bind fun t261 => ((truchmanref12_Fits.f t253 t259 t260 t261).bind fun t262 => (if t258 = t262 then ((truchmanref01_Around.f a1 101).bind fun t263 => ((truchmanref01_Around.f a2 101).bind fun t264 => ((truchmanref01_Around.f a3 101).bind fun t265 => ((blob_Fits.f t254 t263 t264 t265).bind fun t266 => ((truchmanref12_Fits.f t254 t263 t264 t265).bind fun t267 => (if t266 = t267 then ((truchmanlaw12_lives.f).bind fun t268 => (some t268)) else (some false))))))) else (some false)))) = some r := H
  have A12 := Aside0.mk A120
  clear A120
  replace H := Option.bind_eq_some_iff.mp H
  obtain ⟨t261, A130, H⟩ := H
  replace H : ((truchmanref12_Fits.f t253 t259 t260 t261).bind fun t262 => (if t258 = t262 then ((truchmanref01_Around.f a1 101).bind fun t263 => ((truchmanref01_Around.f a2 101).bind fun t264 => ((truchmanref01_Around.f a3 101).bind fun t265 => ((blob_Fits.f t254 t263 t264 t265).bind fun t266 => ((truchmanref12_Fits.f t254 t263 t264 t265).bind fun t267 => (if t266 = t267 then ((truchmanlaw12_lives.f).bind fun t268 => (some t268)) else (some false))))))) else (some false))) = some r := H
  have A13 := Aside0.mk A130
  clear A130
  replace H := Option.bind_eq_some_iff.mp H
  obtain ⟨t262, A140, H⟩ := H
  replace H : (if t258 = t262 then ((truchmanref01_Around.f a1 101).bind fun t263 => ((truchmanref01_Around.f a2 101).bind fun t264 => ((truchmanref01_Around.f a3 101).bind fun t265 => ((blob_Fits.f t254 t263 t264 t265).bind fun t266 => ((truchmanref12_Fits.f t254 t263 t264 t265).bind fun t267 => (if t266 = t267 then ((truchmanlaw12_lives.f).bind fun t268 => (some t268)) else (some false))))))) else (some false)) = some r := H
  have A14 := Aside0.mk A140
  clear A140
  by_cases c15 : t258 = t262
  · rw [if_pos c15] at H
    have c15b0 : (t258 == t262) = true := beq_iff_eq.mpr c15
    have c15b1 : (t258 != t262) = false := bne_eq_false_iff_eq.mpr c15
    clear c15
    replace H := Option.bind_eq_some_iff.mp H
    obtain ⟨t263, A160, H⟩ := H
    replace H : ((truchmanref01_Around.f a2 101).bind fun t264 => ((truchmanref01_Around.f a3 101).bind fun t265 => ((blob_Fits.f t254 t263 t264 t265).bind fun t266 => ((truchmanref12_Fits.f t254 t263 t264 t265).bind fun t267 => (if t266 = t267 then ((truchmanlaw12_lives.f).bind fun t268 => (some t268)) else (some false)))))) = some r := H
    have A16 := Aside0.mk A160
    clear A160
    replace H := Option.bind_eq_some_iff.mp H
    obtain ⟨t264, A170, H⟩ := H
    replace H : ((truchmanref01_Around.f a3 101).bind fun t265 => ((blob_Fits.f t254 t263 t264 t265).bind fun t266 => ((truchmanref12_Fits.f t254 t263 t264 t265).bind fun t267 => (if t266 = t267 then ((truchmanlaw12_lives.f).bind fun t268 => (some t268)) else (some false))))) = some r := H
    have A17 := Aside0.mk A170
    clear A170
    replace H := Option.bind_eq_some_iff.mp H
    obtain ⟨t265, A180, H⟩ := H
    replace H : ((blob_Fits.f t254 t263 t264 t265).bind fun t266 => ((truchmanref12_Fits.f t254 t263 t264 t265).bind fun t267 => (if t266 = t267 then ((truchmanlaw12_lives.f).bind fun t268 => (some t268)) else (some false)))) = some r := H
    have A18 := Aside0.mk A180
    clear A180
    replace H := Option.bind_eq_some_iff.mp H
    obtain ⟨t266, A190, H⟩ := H
    replace H : ((truchmanref12_Fits.f t254 t263 t264 t265).bind fun t267 => (if t266 = t267 then ((truchmanlaw12_lives.f).bind fun t268 => (some t268)) else (some false))) = some r := H
    have A19 := Aside0.mk A190
    clear A190
    replace H := Option.bind_eq_some_iff.mp H
    obtain ⟨t267, A200, H⟩ := H
    replace H : (if t266 = t267 then ((truchmanlaw12_lives.f).bind fun t268 => (some t268)) else (some false)) = some r := H
    have A20 := Aside0.mk A200
    clear A200
    by_cases c21 : t266 = t267
    · rw [if_pos c21] at H
      have c21b0 : (t266 == t267) = true := beq_iff_eq.mpr c21
      have c21b1 : (t266 != t267) = false := bne_eq_false_iff_eq.mpr c21
      clear c21
      replace H := Option.bind_eq_some_iff.mp H
      obtain ⟨t268, A220, H⟩ := H
      replace H : (some t268) = some r := H
      have A22 := Aside0.mk A220
      clear A220
      obtain rfl := Option.some.inj H
      go_enter Try.func8, Try.ntmps8
      go_wp2_with (first | ((with_reducible refine gate_callee (f := 12) rfl ?_); refine goesL_ (some 15) rfl rfl Try.func12 (by kernel_rfl) rfl #[.int .i64 a0, .int .i64 2049] rfl (by (try simp only [List.map_toArray, List.map_cons, List.map_nil]); first | done | rfl | (simp only [List.length_drop, List.length_take]; rfl)) ?_; (with_reducible refine (truchmanref01_Around.calls a0 2049 t253 _ A5.out).mono ?_); rintro e w' ⟨rfl, ⟨nd, rfl⟩⟩; refine ⟨_, rfl, ?_⟩) | ((with_reducible refine gate_callee (f := 12) rfl ?_); refine goesL_ (some 17) rfl rfl Try.func12 (by kernel_rfl) rfl #[.int .i64 a0, .int .i64 60] rfl (by (try simp only [List.map_toArray, List.map_cons, List.map_nil]); first | done | rfl | (simp only [List.length_drop, List.length_take]; rfl)) ?_; (with_reducible refine (truchmanref01_Around.calls a0 60 t254 _ A6.out).mono ?_); rintro e w' ⟨rfl, ⟨nd, rfl⟩⟩; refine ⟨_, rfl, ?_⟩) | ((with_reducible refine gate_callee (f := 11) rfl ?_); refine goesL_ (some 20) rfl rfl Try.func11 (by kernel_rfl) rfl #[.int .i64 a1] rfl (by (try simp only [List.map_toArray, List.map_cons, List.map_nil]); first | done | rfl | (simp only [List.length_drop, List.length_take]; rfl)) ?_; (with_reducible refine (truchmanlaw12_from.calls a1 t255 _ A7.out).mono ?_); rintro e w' ⟨rfl, ⟨nd, rfl⟩⟩; refine ⟨_, rfl, ?_⟩) | ((with_reducible refine gate_callee (f := 11) rfl ?_); refine goesL_ (some 22) rfl rfl Try.func11 (by kernel_rfl) rfl #[.int .i64 a2] rfl (by (try simp only [List.map_toArray, List.map_cons, List.map_nil]); first | done | rfl | (simp only [List.length_drop, List.length_take]; rfl)) ?_; (with_reducible refine (truchmanlaw12_from.calls a2 t256 _ A8.out).mono ?_); rintro e w' ⟨rfl, ⟨nd, rfl⟩⟩; refine ⟨_, rfl, ?_⟩) | ((with_reducible refine gate_callee (f := 11) rfl ?_); refine goesL_ (some 24) rfl rfl Try.func11 (by kernel_rfl) rfl #[.int .i64 a3] rfl (by (try simp only [List.map_toArray, List.map_cons, List.map_nil]); first | done | rfl | (simp only [List.length_drop, List.length_take]; rfl)) ?_; (with_reducible refine (truchmanlaw12_from.calls a3 t257 _ A9.out).mono ?_); rintro e w' ⟨rfl, ⟨nd, rfl⟩⟩; refine ⟨_, rfl, ?_⟩) | ((with_reducible refine gate_callee (f := 20) rfl ?_); refine goesL_ (some 25) rfl rfl Try.func20 (by kernel_rfl) rfl #[.int .i64 t253, .int .i64 t255, .int .i64 t256, .int .i64 t257] rfl (by (try simp only [List.map_toArray, List.map_cons, List.map_nil]); first | done | rfl | (simp only [List.length_drop, List.length_take]; rfl)) ?_; (with_reducible refine (blob_Fits.calls t253 t255 t256 t257 t258 _ A10.out).mono ?_); rintro e w' ⟨rfl, ⟨nd, rfl⟩⟩; refine ⟨_, rfl, ?_⟩) | ((with_reducible refine gate_callee (f := 11) rfl ?_); refine goesL_ (some 28) rfl rfl Try.func11 (by kernel_rfl) rfl #[.int .i64 a1] rfl (by (try simp only [List.map_toArray, List.map_cons, List.map_nil]); first | done | rfl | (simp only [List.length_drop, List.length_take]; rfl)) ?_; (with_reducible refine (truchmanlaw12_from.calls a1 t259 _ A11.out).mono ?_); rintro e w' ⟨rfl, ⟨nd, rfl⟩⟩; refine ⟨_, rfl, ?_⟩) | ((with_reducible refine gate_callee (f := 11) rfl ?_); refine goesL_ (some 30) rfl rfl Try.func11 (by kernel_rfl) rfl #[.int .i64 a2] rfl (by (try simp only [List.map_toArray, List.map_cons, List.map_nil]); first | done | rfl | (simp only [List.length_drop, List.length_take]; rfl)) ?_; (with_reducible refine (truchmanlaw12_from.calls a2 t260 _ A12.out).mono ?_); rintro e w' ⟨rfl, ⟨nd, rfl⟩⟩; refine ⟨_, rfl, ?_⟩) | ((with_reducible refine gate_callee (f := 11) rfl ?_); refine goesL_ (some 32) rfl rfl Try.func11 (by kernel_rfl) rfl #[.int .i64 a3] rfl (by (try simp only [List.map_toArray, List.map_cons, List.map_nil]); first | done | rfl | (simp only [List.length_drop, List.length_take]; rfl)) ?_; (with_reducible refine (truchmanlaw12_from.calls a3 t261 _ A13.out).mono ?_); rintro e w' ⟨rfl, ⟨nd, rfl⟩⟩; refine ⟨_, rfl, ?_⟩) | ((with_reducible refine gate_callee (f := 21) rfl ?_); refine goesL_ (some 33) rfl rfl Try.func21 (by kernel_rfl) rfl #[.int .i64 t253, .int .i64 t259, .int .i64 t260, .int .i64 t261] rfl (by (try simp only [List.map_toArray, List.map_cons, List.map_nil]); first | done | rfl | (simp only [List.length_drop, List.length_take]; rfl)) ?_; (with_reducible refine (truchmanref12_Fits.calls t253 t259 t260 t261 t262 _ A14.out).mono ?_); rintro e w' ⟨rfl, ⟨nd, rfl⟩⟩; refine ⟨_, rfl, ?_⟩) | ((with_reducible refine gate_callee (f := 12) rfl ?_); refine goesL_ (some 36) rfl rfl Try.func12 (by kernel_rfl) rfl #[.int .i64 a1, .int .i64 101] rfl (by (try simp only [List.map_toArray, List.map_cons, List.map_nil]); first | done | rfl | (simp only [List.length_drop, List.length_take]; rfl)) ?_; (with_reducible refine (truchmanref01_Around.calls a1 101 t263 _ A16.out).mono ?_); rintro e w' ⟨rfl, ⟨nd, rfl⟩⟩; refine ⟨_, rfl, ?_⟩) | ((with_reducible refine gate_callee (f := 12) rfl ?_); refine goesL_ (some 38) rfl rfl Try.func12 (by kernel_rfl) rfl #[.int .i64 a2, .int .i64 101] rfl (by (try simp only [List.map_toArray, List.map_cons, List.map_nil]); first | done | rfl | (simp only [List.length_drop, List.length_take]; rfl)) ?_; (with_reducible refine (truchmanref01_Around.calls a2 101 t264 _ A17.out).mono ?_); rintro e w' ⟨rfl, ⟨nd, rfl⟩⟩; refine ⟨_, rfl, ?_⟩) | ((with_reducible refine gate_callee (f := 12) rfl ?_); refine goesL_ (some 40) rfl rfl Try.func12 (by kernel_rfl) rfl #[.int .i64 a3, .int .i64 101] rfl (by (try simp only [List.map_toArray, List.map_cons, List.map_nil]); first | done | rfl | (simp only [List.length_drop, List.length_take]; rfl)) ?_; (with_reducible refine (truchmanref01_Around.calls a3 101 t265 _ A18.out).mono ?_); rintro e w' ⟨rfl, ⟨nd, rfl⟩⟩; refine ⟨_, rfl, ?_⟩) | ((with_reducible refine gate_callee (f := 20) rfl ?_); refine goesL_ (some 45) rfl rfl Try.func20 (by kernel_rfl) rfl #[.int .i64 t254, .int .i64 t263, .int .i64 t264, .int .i64 t265] rfl (by (try simp only [List.map_toArray, List.map_cons, List.map_nil]); first | done | rfl | (simp only [List.length_drop, List.length_take]; rfl)) ?_; (with_reducible refine (blob_Fits.calls t254 t263 t264 t265 t266 _ A19.out).mono ?_); rintro e w' ⟨rfl, ⟨nd, rfl⟩⟩; refine ⟨_, rfl, ?_⟩) | ((with_reducible refine gate_callee (f := 21) rfl ?_); refine goesL_ (some 50) rfl rfl Try.func21 (by kernel_rfl) rfl #[.int .i64 t254, .int .i64 t263, .int .i64 t264, .int .i64 t265] rfl (by (try simp only [List.map_toArray, List.map_cons, List.map_nil]); first | done | rfl | (simp only [List.length_drop, List.length_take]; rfl)) ?_; (with_reducible refine (truchmanref12_Fits.calls t254 t263 t264 t265 t267 _ A20.out).mono ?_); rintro e w' ⟨rfl, ⟨nd, rfl⟩⟩; refine ⟨_, rfl, ?_⟩) | (go_at_call 15; (with_reducible refine (truchmanlaw12_lives.calls  t268 _ A22.out).mono ?_); rintro e w23 ⟨rfl, hb⟩; have n0_ := Aside0.mk (below_step (by repeat (first | (with_reducible first | exact HB.out | apply below_alloc | apply pw_below_drewN | apply below_drew1) | exact HB.out)) hb); clear HB; have HB := n0_; clear n0_; (try clear hb); (try clear hb2); (try clear hk); (try clear hi)))
      go_ret
      exact ⟨by first | rfl | (simp [errW_none, errW_some] <;> rfl) | (simp [*, errW_none, errW_some] <;> rfl), by repeat (first | (with_reducible first | exact HB.out | apply below_alloc | apply pw_below_drewN | apply below_drew1) | exact HB.out)⟩
    · rw [if_neg c21] at H
      have c21b0 : (t266 == t267) = false := beq_eq_false_iff_ne.mpr c21
      have c21b1 : (t266 != t267) = true := bne_iff_ne.mpr c21
      obtain rfl := Option.some.inj H
      go_enter Try.func8, Try.ntmps8
      go_wp2_with (first | ((with_reducible refine gate_callee (f := 12) rfl ?_); refine goesL_ (some 15) rfl rfl Try.func12 (by kernel_rfl) rfl #[.int .i64 a0, .int .i64 2049] rfl (by (try simp only [List.map_toArray, List.map_cons, List.map_nil]); first | done | rfl | (simp only [List.length_drop, List.length_take]; rfl)) ?_; (with_reducible refine (truchmanref01_Around.calls a0 2049 t253 _ A5.out).mono ?_); rintro e w' ⟨rfl, ⟨nd, rfl⟩⟩; refine ⟨_, rfl, ?_⟩) | ((with_reducible refine gate_callee (f := 12) rfl ?_); refine goesL_ (some 17) rfl rfl Try.func12 (by kernel_rfl) rfl #[.int .i64 a0, .int .i64 60] rfl (by (try simp only [List.map_toArray, List.map_cons, List.map_nil]); first | done | rfl | (simp only [List.length_drop, List.length_take]; rfl)) ?_; (with_reducible refine (truchmanref01_Around.calls a0 60 t254 _ A6.out).mono ?_); rintro e w' ⟨rfl, ⟨nd, rfl⟩⟩; refine ⟨_, rfl, ?_⟩) | ((with_reducible refine gate_callee (f := 11) rfl ?_); refine goesL_ (some 20) rfl rfl Try.func11 (by kernel_rfl) rfl #[.int .i64 a1] rfl (by (try simp only [List.map_toArray, List.map_cons, List.map_nil]); first | done | rfl | (simp only [List.length_drop, List.length_take]; rfl)) ?_; (with_reducible refine (truchmanlaw12_from.calls a1 t255 _ A7.out).mono ?_); rintro e w' ⟨rfl, ⟨nd, rfl⟩⟩; refine ⟨_, rfl, ?_⟩) | ((with_reducible refine gate_callee (f := 11) rfl ?_); refine goesL_ (some 22) rfl rfl Try.func11 (by kernel_rfl) rfl #[.int .i64 a2] rfl (by (try simp only [List.map_toArray, List.map_cons, List.map_nil]); first | done | rfl | (simp only [List.length_drop, List.length_take]; rfl)) ?_; (with_reducible refine (truchmanlaw12_from.calls a2 t256 _ A8.out).mono ?_); rintro e w' ⟨rfl, ⟨nd, rfl⟩⟩; refine ⟨_, rfl, ?_⟩) | ((with_reducible refine gate_callee (f := 11) rfl ?_); refine goesL_ (some 24) rfl rfl Try.func11 (by kernel_rfl) rfl #[.int .i64 a3] rfl (by (try simp only [List.map_toArray, List.map_cons, List.map_nil]); first | done | rfl | (simp only [List.length_drop, List.length_take]; rfl)) ?_; (with_reducible refine (truchmanlaw12_from.calls a3 t257 _ A9.out).mono ?_); rintro e w' ⟨rfl, ⟨nd, rfl⟩⟩; refine ⟨_, rfl, ?_⟩) | ((with_reducible refine gate_callee (f := 20) rfl ?_); refine goesL_ (some 25) rfl rfl Try.func20 (by kernel_rfl) rfl #[.int .i64 t253, .int .i64 t255, .int .i64 t256, .int .i64 t257] rfl (by (try simp only [List.map_toArray, List.map_cons, List.map_nil]); first | done | rfl | (simp only [List.length_drop, List.length_take]; rfl)) ?_; (with_reducible refine (blob_Fits.calls t253 t255 t256 t257 t258 _ A10.out).mono ?_); rintro e w' ⟨rfl, ⟨nd, rfl⟩⟩; refine ⟨_, rfl, ?_⟩) | ((with_reducible refine gate_callee (f := 11) rfl ?_); refine goesL_ (some 28) rfl rfl Try.func11 (by kernel_rfl) rfl #[.int .i64 a1] rfl (by (try simp only [List.map_toArray, List.map_cons, List.map_nil]); first | done | rfl | (simp only [List.length_drop, List.length_take]; rfl)) ?_; (with_reducible refine (truchmanlaw12_from.calls a1 t259 _ A11.out).mono ?_); rintro e w' ⟨rfl, ⟨nd, rfl⟩⟩; refine ⟨_, rfl, ?_⟩) | ((with_reducible refine gate_callee (f := 11) rfl ?_); refine goesL_ (some 30) rfl rfl Try.func11 (by kernel_rfl) rfl #[.int .i64 a2] rfl (by (try simp only [List.map_toArray, List.map_cons, List.map_nil]); first | done | rfl | (simp only [List.length_drop, List.length_take]; rfl)) ?_; (with_reducible refine (truchmanlaw12_from.calls a2 t260 _ A12.out).mono ?_); rintro e w' ⟨rfl, ⟨nd, rfl⟩⟩; refine ⟨_, rfl, ?_⟩) | ((with_reducible refine gate_callee (f := 11) rfl ?_); refine goesL_ (some 32) rfl rfl Try.func11 (by kernel_rfl) rfl #[.int .i64 a3] rfl (by (try simp only [List.map_toArray, List.map_cons, List.map_nil]); first | done | rfl | (simp only [List.length_drop, List.length_take]; rfl)) ?_; (with_reducible refine (truchmanlaw12_from.calls a3 t261 _ A13.out).mono ?_); rintro e w' ⟨rfl, ⟨nd, rfl⟩⟩; refine ⟨_, rfl, ?_⟩) | ((with_reducible refine gate_callee (f := 21) rfl ?_); refine goesL_ (some 33) rfl rfl Try.func21 (by kernel_rfl) rfl #[.int .i64 t253, .int .i64 t259, .int .i64 t260, .int .i64 t261] rfl (by (try simp only [List.map_toArray, List.map_cons, List.map_nil]); first | done | rfl | (simp only [List.length_drop, List.length_take]; rfl)) ?_; (with_reducible refine (truchmanref12_Fits.calls t253 t259 t260 t261 t262 _ A14.out).mono ?_); rintro e w' ⟨rfl, ⟨nd, rfl⟩⟩; refine ⟨_, rfl, ?_⟩) | ((with_reducible refine gate_callee (f := 12) rfl ?_); refine goesL_ (some 36) rfl rfl Try.func12 (by kernel_rfl) rfl #[.int .i64 a1, .int .i64 101] rfl (by (try simp only [List.map_toArray, List.map_cons, List.map_nil]); first | done | rfl | (simp only [List.length_drop, List.length_take]; rfl)) ?_; (with_reducible refine (truchmanref01_Around.calls a1 101 t263 _ A16.out).mono ?_); rintro e w' ⟨rfl, ⟨nd, rfl⟩⟩; refine ⟨_, rfl, ?_⟩) | ((with_reducible refine gate_callee (f := 12) rfl ?_); refine goesL_ (some 38) rfl rfl Try.func12 (by kernel_rfl) rfl #[.int .i64 a2, .int .i64 101] rfl (by (try simp only [List.map_toArray, List.map_cons, List.map_nil]); first | done | rfl | (simp only [List.length_drop, List.length_take]; rfl)) ?_; (with_reducible refine (truchmanref01_Around.calls a2 101 t264 _ A17.out).mono ?_); rintro e w' ⟨rfl, ⟨nd, rfl⟩⟩; refine ⟨_, rfl, ?_⟩) | ((with_reducible refine gate_callee (f := 12) rfl ?_); refine goesL_ (some 40) rfl rfl Try.func12 (by kernel_rfl) rfl #[.int .i64 a3, .int .i64 101] rfl (by (try simp only [List.map_toArray, List.map_cons, List.map_nil]); first | done | rfl | (simp only [List.length_drop, List.length_take]; rfl)) ?_; (with_reducible refine (truchmanref01_Around.calls a3 101 t265 _ A18.out).mono ?_); rintro e w' ⟨rfl, ⟨nd, rfl⟩⟩; refine ⟨_, rfl, ?_⟩) | ((with_reducible refine gate_callee (f := 20) rfl ?_); refine goesL_ (some 45) rfl rfl Try.func20 (by kernel_rfl) rfl #[.int .i64 t254, .int .i64 t263, .int .i64 t264, .int .i64 t265] rfl (by (try simp only [List.map_toArray, List.map_cons, List.map_nil]); first | done | rfl | (simp only [List.length_drop, List.length_take]; rfl)) ?_; (with_reducible refine (blob_Fits.calls t254 t263 t264 t265 t266 _ A19.out).mono ?_); rintro e w' ⟨rfl, ⟨nd, rfl⟩⟩; refine ⟨_, rfl, ?_⟩) | ((with_reducible refine gate_callee (f := 21) rfl ?_); refine goesL_ (some 50) rfl rfl Try.func21 (by kernel_rfl) rfl #[.int .i64 t254, .int .i64 t263, .int .i64 t264, .int .i64 t265] rfl (by (try simp only [List.map_toArray, List.map_cons, List.map_nil]); first | done | rfl | (simp only [List.length_drop, List.length_take]; rfl)) ?_; (with_reducible refine (truchmanref12_Fits.calls t254 t263 t264 t265 t267 _ A20.out).mono ?_); rintro e w' ⟨rfl, ⟨nd, rfl⟩⟩; refine ⟨_, rfl, ?_⟩))
      go_ret
      exact ⟨by first | rfl | (simp [errW_none, errW_some] <;> rfl) | (simp [*, errW_none, errW_some] <;> rfl), by repeat (first | (with_reducible first | exact HB.out | apply below_alloc | apply pw_below_drewN | apply below_drew1) | exact HB.out)⟩
  · rw [if_neg c15] at H
    have c15b0 : (t258 == t262) = false := beq_eq_false_iff_ne.mpr c15
    have c15b1 : (t258 != t262) = true := bne_iff_ne.mpr c15
    obtain rfl := Option.some.inj H
    go_enter Try.func8, Try.ntmps8
    go_wp2_with (first | ((with_reducible refine gate_callee (f := 12) rfl ?_); refine goesL_ (some 15) rfl rfl Try.func12 (by kernel_rfl) rfl #[.int .i64 a0, .int .i64 2049] rfl (by (try simp only [List.map_toArray, List.map_cons, List.map_nil]); first | done | rfl | (simp only [List.length_drop, List.length_take]; rfl)) ?_; (with_reducible refine (truchmanref01_Around.calls a0 2049 t253 _ A5.out).mono ?_); rintro e w' ⟨rfl, ⟨nd, rfl⟩⟩; refine ⟨_, rfl, ?_⟩) | ((with_reducible refine gate_callee (f := 12) rfl ?_); refine goesL_ (some 17) rfl rfl Try.func12 (by kernel_rfl) rfl #[.int .i64 a0, .int .i64 60] rfl (by (try simp only [List.map_toArray, List.map_cons, List.map_nil]); first | done | rfl | (simp only [List.length_drop, List.length_take]; rfl)) ?_; (with_reducible refine (truchmanref01_Around.calls a0 60 t254 _ A6.out).mono ?_); rintro e w' ⟨rfl, ⟨nd, rfl⟩⟩; refine ⟨_, rfl, ?_⟩) | ((with_reducible refine gate_callee (f := 11) rfl ?_); refine goesL_ (some 20) rfl rfl Try.func11 (by kernel_rfl) rfl #[.int .i64 a1] rfl (by (try simp only [List.map_toArray, List.map_cons, List.map_nil]); first | done | rfl | (simp only [List.length_drop, List.length_take]; rfl)) ?_; (with_reducible refine (truchmanlaw12_from.calls a1 t255 _ A7.out).mono ?_); rintro e w' ⟨rfl, ⟨nd, rfl⟩⟩; refine ⟨_, rfl, ?_⟩) | ((with_reducible refine gate_callee (f := 11) rfl ?_); refine goesL_ (some 22) rfl rfl Try.func11 (by kernel_rfl) rfl #[.int .i64 a2] rfl (by (try simp only [List.map_toArray, List.map_cons, List.map_nil]); first | done | rfl | (simp only [List.length_drop, List.length_take]; rfl)) ?_; (with_reducible refine (truchmanlaw12_from.calls a2 t256 _ A8.out).mono ?_); rintro e w' ⟨rfl, ⟨nd, rfl⟩⟩; refine ⟨_, rfl, ?_⟩) | ((with_reducible refine gate_callee (f := 11) rfl ?_); refine goesL_ (some 24) rfl rfl Try.func11 (by kernel_rfl) rfl #[.int .i64 a3] rfl (by (try simp only [List.map_toArray, List.map_cons, List.map_nil]); first | done | rfl | (simp only [List.length_drop, List.length_take]; rfl)) ?_; (with_reducible refine (truchmanlaw12_from.calls a3 t257 _ A9.out).mono ?_); rintro e w' ⟨rfl, ⟨nd, rfl⟩⟩; refine ⟨_, rfl, ?_⟩) | ((with_reducible refine gate_callee (f := 20) rfl ?_); refine goesL_ (some 25) rfl rfl Try.func20 (by kernel_rfl) rfl #[.int .i64 t253, .int .i64 t255, .int .i64 t256, .int .i64 t257] rfl (by (try simp only [List.map_toArray, List.map_cons, List.map_nil]); first | done | rfl | (simp only [List.length_drop, List.length_take]; rfl)) ?_; (with_reducible refine (blob_Fits.calls t253 t255 t256 t257 t258 _ A10.out).mono ?_); rintro e w' ⟨rfl, ⟨nd, rfl⟩⟩; refine ⟨_, rfl, ?_⟩) | ((with_reducible refine gate_callee (f := 11) rfl ?_); refine goesL_ (some 28) rfl rfl Try.func11 (by kernel_rfl) rfl #[.int .i64 a1] rfl (by (try simp only [List.map_toArray, List.map_cons, List.map_nil]); first | done | rfl | (simp only [List.length_drop, List.length_take]; rfl)) ?_; (with_reducible refine (truchmanlaw12_from.calls a1 t259 _ A11.out).mono ?_); rintro e w' ⟨rfl, ⟨nd, rfl⟩⟩; refine ⟨_, rfl, ?_⟩) | ((with_reducible refine gate_callee (f := 11) rfl ?_); refine goesL_ (some 30) rfl rfl Try.func11 (by kernel_rfl) rfl #[.int .i64 a2] rfl (by (try simp only [List.map_toArray, List.map_cons, List.map_nil]); first | done | rfl | (simp only [List.length_drop, List.length_take]; rfl)) ?_; (with_reducible refine (truchmanlaw12_from.calls a2 t260 _ A12.out).mono ?_); rintro e w' ⟨rfl, ⟨nd, rfl⟩⟩; refine ⟨_, rfl, ?_⟩) | ((with_reducible refine gate_callee (f := 11) rfl ?_); refine goesL_ (some 32) rfl rfl Try.func11 (by kernel_rfl) rfl #[.int .i64 a3] rfl (by (try simp only [List.map_toArray, List.map_cons, List.map_nil]); first | done | rfl | (simp only [List.length_drop, List.length_take]; rfl)) ?_; (with_reducible refine (truchmanlaw12_from.calls a3 t261 _ A13.out).mono ?_); rintro e w' ⟨rfl, ⟨nd, rfl⟩⟩; refine ⟨_, rfl, ?_⟩) | ((with_reducible refine gate_callee (f := 21) rfl ?_); refine goesL_ (some 33) rfl rfl Try.func21 (by kernel_rfl) rfl #[.int .i64 t253, .int .i64 t259, .int .i64 t260, .int .i64 t261] rfl (by (try simp only [List.map_toArray, List.map_cons, List.map_nil]); first | done | rfl | (simp only [List.length_drop, List.length_take]; rfl)) ?_; (with_reducible refine (truchmanref12_Fits.calls t253 t259 t260 t261 t262 _ A14.out).mono ?_); rintro e w' ⟨rfl, ⟨nd, rfl⟩⟩; refine ⟨_, rfl, ?_⟩))
    go_ret
    exact ⟨by first | rfl | (simp [errW_none, errW_some] <;> rfl) | (simp [*, errW_none, errW_some] <;> rfl), by repeat (first | (with_reducible first | exact HB.out | apply below_alloc | apply pw_below_drewN | apply below_drew1) | exact HB.out)⟩

/-- THE ONE PURE STATEMENT of truchmanlaw12_BlobFits: yours. -/
def truchmanlaw12_BlobFits.Pure : Prop := ∀ (a0 : Int) (a1 : Int) (a2 : Int) (a3 : Int), (Lit.int .i64 a0).wf = true → (Lit.int .i64 a1).wf = true → (Lit.int .i64 a2).wf = true → (Lit.int .i64 a3).wf = true → truchmanlaw12_BlobFits.f a0 a1 a2 a3 = some true
theorem truchmanlaw12_BlobFits.walk (P : truchmanlaw12_BlobFits.Pure) (a0 : Int) (a1 : Int) (a2 : Int) (a3 : Int) (w : World) (w0 : (Lit.int .i64 a0).wf = true) (w1 : (Lit.int .i64 a1).wf = true) (w2 : (Lit.int .i64 a2).wf = true) (w3 : (Lit.int .i64 a3).wf = true) :
    Calls Try.prog 8 #[.int .i64 a0, .int .i64 a1, .int .i64 a2, .int .i64 a3] w fun e w' => e = .returned (.bool true) ∧ Below w.heap.size w w' := by
  have h := P a0 a1 a2 a3 w0 w1 w2 w3
  refine (truchmanlaw12_BlobFits.calls a0 a1 a2 a3 true w h).mono ?_
  rintro e w' ⟨rfl, hd⟩
  exact ⟨rfl, hd⟩

end Go.Proofs.Ytaipnchallmioaa.B
