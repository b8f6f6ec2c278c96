-- Printed for Ytaipnchallmioaa by hprint.py, a program of this session over the kit's print.py, some functions taken from texts by hand.
import Derived.Test.YtaipnchallmioaaBx0
namespace Go.Proofs.Ytaipnchallmioaa.B
open Go.RowKit Go.Proofs.YtaipnchallmioaaW.PrintWords Go.Proofs.YtaipnchallmioaaW.PrintLast Go.Proofs.YtaipnchallmioaaW.PrintMore
attribute [local go_sem] max2_int min2_int max_two min_two max_three min_three max_four min_four   -- for this text's walks alone
set_option linter.unusedVariables false
set_option linter.unusedSimpArgs false

/-! ### truchmanref01_Few: function 10 -/
def truchmanref01_Few.f (l0 : List Int) (a1 : Int) : Option (List Int) := if 0 ≤ (mn (l0.length : Int) a1) then (if (mn (l0.length : Int) a1) ≤ (l0.length : Int) then (if ([] : List Int).length + (l0.take ((mn (l0.length : Int) a1) : Int).toNat).length < 140737488355328 then (some (([] : List Int) ++ (l0.take ((mn (l0.length : Int) a1) : Int).toNat))) else (none)) else (none)) else (none)
set_option maxHeartbeats 8000000 in
set_option maxRecDepth 100000 in
theorem truchmanref01_Few.calls (A0 : Option Addr) (c0 : Nat) (l0 : List Int) (a1 : Int) (r : List Int) (w : World) (hr0 : Kd.C (Kd.int .u8) w A0 l0.length l0) (hc0 : l0.length ≤ c0) (h : truchmanref01_Few.f l0 a1 = some r) :
    Calls Try.prog 10 #[.slice A0 l0.length c0, .int .i64 a1] w fun e w' => ∃ v0_ : Value, e = .returned (v0_) ∧ Kd.R (Kd.int .u8) 5 w' w.heap.size (fun _ => True) v0_ r ∧ Below w.heap.size w w' := by
  have HR0 := Aside0.mk hr0
  have HC0 := Aside0.mk hc0
  clear hr0 hc0
  have HB := Aside0.mk (Below.refl w.heap.size w)
  have H : (if 0 ≤ (mn (l0.length : Int) a1) then (if (mn (l0.length : Int) a1) ≤ (l0.length : Int) then (if ([] : List Int).length + (l0.take ((mn (l0.length : Int) a1) : Int).toNat).length < 140737488355328 then (some (([] : List Int) ++ (l0.take ((mn (l0.length : Int) a1) : Int).toNat))) else (none)) else (none)) else (none)) = some r := h
  clear h
  obtain ⟨ji3, hji3⟩ : ∃ j_ : Int, (mn (l0.length : Int) a1) = j_ := ⟨_, rfl⟩
  replace H : (if 0 ≤ (ji3) then (if (ji3) ≤ (l0.length : Int) then (if ([] : List Int).length + (l0.take ((ji3) : Int).toNat).length < 140737488355328 then (some (([] : List Int) ++ (l0.take ((ji3) : Int).toNat))) else (none)) else (none)) else (none)) = some r := by first | (rw [hji3] at H; exact H) | (simp only [hji3] at H ⊢; exact H)
  have hji3_ : (if a1 < (l0.length : Int) then a1 else (l0.length : Int)) = ji3 := hji3
  by_cases c4 : 0 ≤ (ji3)
  · rw [if_pos c4] at H
    have c4b0 := eq_true c4
    have c4b1 : decide (0 ≤ (ji3)) = true := decide_eq_true c4
    clear c4
    by_cases c5 : (ji3) ≤ (l0.length : Int)
    · rw [if_pos c5] at H
      have c5b0 := eq_true c5
      have c5b1 : decide ((ji3) ≤ (l0.length : Int)) = true := decide_eq_true c5
      clear c5
      by_cases c6 : ([] : List Int).length + (l0.take ((ji3) : Int).toNat).length < 140737488355328
      · rw [if_pos c6] at H
        have LMc6 := Aside0.mk c6
        clear c6
        obtain ⟨y102, hy102⟩ : ∃ y_ : List Int, y_ = (([] : List Int) ++ (l0.take ((ji3) : Int).toNat)) := ⟨_, rfl⟩
        replace H : (some y102) = some r := by first | (rw [hy102]; with_reducible exact H) | (have H2_ := (Option.bind_some _ _).symm.trans H; rw [hy102]; with_reducible exact H2_) | (have H2_ := (Option.bind_some _ _).symm.trans H; with_reducible exact H2_) | with_reducible exact H | (rw [hy102]; exact H) | exact H
        have Ny102 := Aside0.mk hy102
        clear hy102
        obtain rfl := Option.some.inj H
        obtain ⟨i07, hi07, _, hsz7, _⟩ := info_parts info5
        obtain ⟨hcut7, hA7, hC7⟩ := print_take_of (P := Try.prog) (Value.int .u8) 0 22 5 .i64 Try.underlying22 hi07 hsz7 A0 c0 l0 (ji3) (of_decide_eq_true (by first | (with_reducible assumption) | assumption)) (of_decide_eq_true (by first | (with_reducible assumption) | assumption)) HC0.out
        have HR101 := Aside0.mk (Kd.C_of_reads (h1 := fun _ => rfl) (hA7 _ (Kd.reads_of_C HR0.out)))
        have HC101 := Aside0.mk hC7
        clear hA7 hC7 hi07 hsz7
        go_enter Try.func10, Try.ntmps10
        go_wp2_with (first | ((with_reducible refine gate_builtin (b := .append) (xs := #[.tmp 6, .tmp 12]) rfl ?_); at_builtin; refine Kd.R_append_rows (Kd.int .u8) (w0 := w) w.heap.size rfl (.tmp 6) (.tmp 12) 22 5 (.int .u8 0) 1 rfl Try.underlying22 info5 rfl (by decide) (by omega) (.slice none 0 0) ([] : List Int) (l0.take ((ji3) : Int).toNat) _ _ _ (fun _ => True) (fun _ => False) rfl rfl ?aO ?aR (fun _ _ h => h) (fun _ h => h.elim) ?aF ?aB ?aS ?aL ?_; (case aR => first | (refine at_len ?_ (show (l0.take ((ji3) : Int).toNat).length = (ji3).toNat from (by rw [List.length_take]; have h_ : ((ji3) : Int) ≤ (l0.length : Int) := of_decide_eq_true (by first | (with_reducible assumption) | assumption); omega)); repeat (first | exact HR101.out | (with_reducible refine Kd.C_alloc ?_ _) | (with_reducible refine Kd.C_drewN ?_ _) | (with_reducible refine Kd.C_drew ?_))) | (repeat (first | exact HR101.out | (with_reducible refine Kd.C_alloc ?_ _) | (with_reducible refine Kd.C_drewN ?_ _) | (with_reducible refine Kd.C_drew ?_)))); (case aB => exact (by repeat (first | (with_reducible first | exact HB.out | apply below_alloc | apply pw_below_drewN | apply below_drew1) | exact HB.out))); (case aF => exact (fun _ _ => trivial)); (case aO => exact ((Kd.R_nil _ _ _ _ (fun _ => True)))); (case aS => exact (below_size (by repeat (first | (with_reducible first | exact HB.out | apply below_alloc | apply pw_below_drewN | apply below_drew1) | exact HB.out)))); (case aL => have := LMc6.out; have hlx_ := (show (l0.take ((ji3) : Int).toNat).length = (ji3).toNat from (by rw [List.length_take]; have h_ : ((ji3) : Int) ≤ (l0.length : Int) := of_decide_eq_true (by first | (with_reducible assumption) | assumption); omega)); omega); intro v103 w8 ho hb hg hat; rw [← Ny102.out] at ho; have n0_ := Aside0.mk (hb); have n1_ := Aside0.mk (ho); clear HB; have HB := n0_; have HO104 := n1_; clear n0_ n1_; clear ho hb hg hat))
        go_ret
        exact ⟨_, by first | rfl | (simp [errW_none, errW_some] <;> rfl) | (simp only [← hji3]; first | rfl | (simp [errW_none, errW_some] <;> rfl)) | (simp [*, errW_none, errW_some] <;> rfl), by (with_reducible repeat (first | apply Kd.R_alloc | apply Kd.R_drewN | apply Kd.R_drew)); exact HO104.out, by repeat (first | (with_reducible first | exact HB.out | apply below_alloc | apply pw_below_drewN | apply below_drew1) | exact HB.out)⟩
      · rw [if_neg c6] at H
        exact absurd H (by simp)
    · rw [if_neg c5] at H
      exact absurd H (by simp)
  · rw [if_neg c4] at H
    exact absurd H (by simp)

/-! ### truchmanlaw12_from: function 11 -/
def truchmanlaw12_from.f (a0 : Int) : Option (Int) := if a0 < 0 then (some (wrap64 (-(wrap64 (a0 + 1))))) else (some a0)
set_option maxHeartbeats 8000000 in
set_option maxRecDepth 100000 in
theorem truchmanlaw12_from.calls (a0 : Int) (r : Int) (w : World) (h : truchmanlaw12_from.f a0 = some r) :
    Calls Try.prog 11 #[.int .i64 a0] w fun e w' => e = .returned (.int .i64 r) ∧ Drawn0 w w' := by
  have H : (if a0 < 0 then (some (wrap64 (-(wrap64 (a0 + 1))))) else (some a0)) = some r := h
  clear h
  by_cases c2 : a0 < 0
  · rw [if_pos c2] at H
    have c2b0 : decide (a0 < 0) = true := decide_eq_true c2
    clear c2
    obtain rfl := Option.some.inj H
    go_enter Try.func11, Try.ntmps11
    go_wp2
    go_ret
    exact ⟨by first | rfl | (simp; done) | (simp [*]; done), by repeat (first | exact Drawn0.refl _ | apply Drawn0.step)⟩
  · rw [if_neg c2] at H
    have c2b0 : decide (a0 < 0) = false := decide_eq_false c2
    clear c2
    obtain rfl := Option.some.inj H
    go_enter Try.func11, Try.ntmps11
    go_wp2
    go_ret
    exact ⟨by first | rfl | (simp; done) | (simp [*]; done), by repeat (first | exact Drawn0.refl _ | apply Drawn0.step)⟩

/-! ### truchmanref01_Around: function 12 -/
def truchmanref01_Around.f (a0 : Int) (a1 : Int) : Option (Int) := if a0 < 0 then (if a1 = 0 then (none) else (some (Int.tmod (wrap64 (-(wrap64 (a0 + 1)))) a1))) else (if a1 = 0 then (none) else (some (Int.tmod a0 a1)))
set_option maxHeartbeats 8000000 in
set_option maxRecDepth 100000 in
theorem truchmanref01_Around.calls (a0 : Int) (a1 : Int) (r : Int) (w : World) (h : truchmanref01_Around.f a0 a1 = some r) :
    Calls Try.prog 12 #[.int .i64 a0, .int .i64 a1] w fun e w' => e = .returned (.int .i64 r) ∧ Drawn0 w w' := by
  have H : (if a0 < 0 then (if a1 = 0 then (none) else (some (Int.tmod (wrap64 (-(wrap64 (a0 + 1)))) a1))) else (if a1 = 0 then (none) else (some (Int.tmod a0 a1)))) = some r := h
  clear h
  by_cases c3 : a0 < 0
  · rw [if_pos c3] at H
    have c3b0 : decide (a0 < 0) = true := decide_eq_true c3
    clear c3
    by_cases c4 : a1 = 0
    · rw [if_pos c4] at H
      exact absurd H (by simp)
    · rw [if_neg c4] at H
      have c4b0 : (a1 == 0) = false := beq_eq_false_iff_ne.mpr c4
      have c4b1 : (a1 != 0) = true := bne_iff_ne.mpr c4
      obtain rfl := Option.some.inj H
      go_enter Try.func12, Try.ntmps12
      go_wp2
      go_ret
      exact ⟨by first | rfl | (simp; done) | (simp [*]; done), by repeat (first | exact Drawn0.refl _ | apply Drawn0.step)⟩
  · rw [if_neg c3] at H
    have c3b0 : decide (a0 < 0) = false := decide_eq_false c3
    clear c3
    by_cases c5 : a1 = 0
    · rw [if_pos c5] at H
      exact absurd H (by simp)
    · rw [if_neg c5] at H
      have c5b0 : (a1 == 0) = false := beq_eq_false_iff_ne.mpr c5
      have c5b1 : (a1 != 0) = true := bne_iff_ne.mpr c5
      obtain rfl := Option.some.inj H
      go_enter Try.func12, Try.ntmps12
      go_wp2
      go_ret
      exact ⟨by first | rfl | (simp; done) | (simp [*]; done), by repeat (first | exact Drawn0.refl _ | apply Drawn0.step)⟩

/-! ### blob_great: function 22 -/
def blob_great.f (a0 : Int) (a1 : Int) : Option (Bool) := if a1 > 0 then (if a0 > 2048 then (some true) else (some (decide (a1 > (wrap64 (2048 - a0)))))) else (some false)
set_option maxHeartbeats 8000000 in
set_option maxRecDepth 100000 in
theorem blob_great.calls (a0 : Int) (a1 : Int) (r : Bool) (w : World) (h : blob_great.f a0 a1 = some r) :
    Calls Try.prog 22 #[.int .i64 a0, .int .i64 a1] w fun e w' => e = .returned (.bool r) ∧ Drawn0 w w' := by
  have H : (if a1 > 0 then (if a0 > 2048 then (some true) else (some (decide (a1 > (wrap64 (2048 - a0)))))) else (some false)) = some r := h
  clear h
  by_cases c3 : a1 > 0
  · rw [if_pos c3] at H
    have c3b0 : decide (0 < a1) = true := decide_eq_true c3
    clear c3
    by_cases c4 : a0 > 2048
    · rw [if_pos c4] at H
      have c4b0 : decide (2048 < a0) = true := decide_eq_true c4
      clear c4
      obtain rfl := Option.some.inj H
      go_enter Try.func22, Try.ntmps22
      go_wp2
      go_ret
      exact ⟨by first | rfl | (simp; done) | (simp [*]; done), by repeat (first | exact Drawn0.refl _ | apply Drawn0.step)⟩
    · rw [if_neg c4] at H
      have c4b0 : decide (2048 < a0) = false := decide_eq_false c4
      clear c4
      obtain rfl := Option.some.inj H
      go_enter Try.func22, Try.ntmps22
      go_wp2
      go_ret
      exact ⟨by first | rfl | (simp; done) | (simp [*]; done), by repeat (first | exact Drawn0.refl _ | apply Drawn0.step)⟩
  · rw [if_neg c3] at H
    have c3b0 : decide (0 < a1) = false := decide_eq_false c3
    clear c3
    obtain rfl := Option.some.inj H
    go_enter Try.func22, Try.ntmps22
    go_wp2
    go_ret
    exact ⟨by first | rfl | (simp; done) | (simp [*]; done), by repeat (first | exact Drawn0.refl _ | apply Drawn0.step)⟩

/-! ### bytes_Clone: function 23, by hand -/
def bytes_Clone.f (l0 : List Int) : Option (List Int) := if l0.length < 140737488355328 then some l0 else none
set_option maxHeartbeats 400000 in
theorem bytes_Clone.calls (A0 : Option Addr) (c0 : Nat) (l0 : List Int) (r : List Int) (w : World) (hr0 : Kd.C (Kd.int .u8) w A0 l0.length l0) (hc0 : l0.length ≤ c0) (h : bytes_Clone.f l0 = some r) :
    Calls Try.prog 23 #[.slice A0 l0.length c0] w fun e w' => ∃ v0_ : Value, e = .returned (v0_) ∧ Kd.R (Kd.int .u8) 5 w' w.heap.size (fun _ => True) v0_ r ∧ Below w.heap.size w w' := by
  unfold bytes_Clone.f at h
  by_cases hl : l0.length < 140737488355328
  · rw [if_pos hl] at h
    obtain rfl := Option.some.inj h
    have HR0 := Aside0.mk hr0
    have HL := Aside0.mk hl
    clear hr0 hc0 hl
    have HB := Aside0.mk (Below.refl w.heap.size w)
    have qT : ∀ (w : World) (a : Option Addr) (n c n' c' : Nat), (binOp .eql 22 (.slice a n c) (.slice none n' c')).run Try.prog w = .ok (.bool a.isNone) w := fun w a n c n' c' => Lib.run_eql_slice_nil w _ _ a n c n' c' Try.underlying22
    cases A0 with
    | none =>
      have hnil : l0 = [] := by
        have := HR0.out.2.2
        by_cases h0 : 0 < l0.length
        · obtain ⟨ad, e, _⟩ := this h0; cases e
        · exact List.eq_nil_of_length_eq_zero (by omega)
      have HN := Aside0.mk hnil
      clear hnil
      go_enter Try.func23, Try.ntmps23
      go_wp2
      go_ret
      exact ⟨_, rfl, by rw [HN.out]; exact Kd.R_nil _ _ _ _ _, HB.out⟩
    | some ad =>
      go_enter Try.func23, Try.ntmps23
      go_wp2_with (first | ((with_reducible refine gate_builtin (b := .append) (xs := #[.tmp 5, .tmp 6]) rfl ?_); at_builtin; refine Kd.R_append_rows (Kd.int .u8) (w0 := w) w.heap.size rfl (.tmp 5) (.tmp 6) 22 5 (.int .u8 0) 1 rfl Try.underlying22 info5 rfl (by decide) (by omega) _ ([] : List Int) l0 _ _ _ (fun _ => True) (fun _ => False) rfl rfl ?aO ?aR (fun _ _ h => h) (fun _ h => h.elim) ?aF ?aB ?aS ?aL ?_))
      case aO => exact ⟨fun _ _ => trivial, [], World.ownsRow_lit (base := w.heap.size) (e := 5) (size := 1) w #[] 0 (Nat.le_refl _) (by simp [maxLen]) rfl, Reps.none _ _⟩
      case aR => exact Kd.C_alloc HR0.out _
      case aB => exact below_alloc HB.out _
      case aL => have := HL.out; simp; omega
      intro v103 w8 ho hb hg hat
      have HO := Aside0.mk ho
      have HB2 := Aside0.mk hb
      clear HB ho hb hg hat
      go_wp2
      go_ret
      exact ⟨_, rfl, HO.out, HB2.out⟩
  · rw [if_neg hl] at h
    exact absurd h (by simp)

/-! ### blob_grown: function 24 -/
def blob_grown.l0 : Nat → List Int → Int → Int → Option (List Int)
  | 0, _, _, _ => none
  | k + 1, x5, x12, x13 => if x13 < x12 then (if x5.length < 140737488355328 then (blob_grown.l0 k (x5 ++ [0]) x12 (wrap64 (x13 + 1))) else (none)) else (some x5)
def blob_grown.f (k : Nat) (l0 : List Int) (a1 : Int) : Option (List Int) := (bytes_Clone.f l0).bind fun t105 => (blob_grown.l0 k t105 (mx (wrap64 (a1 - (l0.length : Int))) 0) 0)
theorem blob_grown.mono_l : ∀ k, (∀ y0 y1 y2, LeO (blob_grown.l0 k y0 y1 y2) (blob_grown.l0 (k + 1) y0 y1 y2))
  | 0 => fun _ _ _ r h => by simp [blob_grown.l0] at h
  | k + 1 => by
    have ih0 := blob_grown.mono_l k
    · intro y0 y1 y2
      unfold blob_grown.l0
      repeat' first
      | (with_reducible exact ih0 _ _ _)
      | (with_reducible exact LeO.refl _)
      | (with_reducible exact LeO.none _)
      | (with_reducible refine LeO.ite ?_ ?_)
      | (with_reducible refine LeO.bind ?_ (fun _ => ?_))
      | exact ih0 _ _ _
      | exact LeO.none _
      | refine LeO.ite ?_ ?_
      | refine LeO.bind ?_ (fun _ => ?_)
theorem blob_grown.mono : ∀ a0 a1 k, LeO (blob_grown.f k a0 a1) (blob_grown.f (k + 1) a0 a1) := by
  intro a0 a1 k
  have ih0 := blob_grown.mono_l k
  unfold blob_grown.f
  repeat' first
      | (with_reducible exact ih0 _ _ _)
      | (with_reducible exact LeO.refl _)
      | (with_reducible exact LeO.none _)
      | (with_reducible refine LeO.ite ?_ ?_)
      | (with_reducible refine LeO.bind ?_ (fun _ => ?_))
      | exact ih0 _ _ _
      | exact LeO.none _
      | refine LeO.ite ?_ ?_
      | refine LeO.bind ?_ (fun _ => ?_)
set_option maxHeartbeats 8000000 in
set_option maxRecDepth 100000 in
theorem blob_grown.calls (k : Nat) (A0 : Option Addr) (c0 : Nat) (l0 : List Int) (a1 : Int) (r : List Int) (w : World) (hr0 : Kd.C (Kd.int .u8) w A0 l0.length l0) (hc0 : l0.length ≤ c0) (h : blob_grown.f k l0 a1 = some r) :
    Calls Try.prog 24 #[.slice A0 l0.length c0, .int .i64 a1] w fun e w' => ∃ v0_ : Value, e = .returned (v0_) ∧ Kd.R (Kd.int .u8) 5 w' w.heap.size (fun _ => True) v0_ r ∧ Below w.heap.size w w' := by
  have HR0 := Aside0.mk hr0
  have HC0 := Aside0.mk hc0
  clear hr0 hc0
  have HB := Aside0.mk (Below.refl w.heap.size w)
  have H : ((bytes_Clone.f l0).bind fun t105 => (blob_grown.l0 k t105 (mx (wrap64 (a1 - (l0.length : Int))) 0) 0)) = some r := h
  clear h
  replace H := Option.bind_eq_some_iff.mp H
  obtain ⟨t105, A30, H⟩ := H
  replace H : (blob_grown.l0 k t105 (mx (wrap64 (a1 - (l0.length : Int))) 0) 0) = some r := H
  have A3 := Aside0.mk A30
  clear A30
  obtain ⟨ji4, hji4⟩ : ∃ j_ : Int, (mx (wrap64 (a1 - (l0.length : Int))) 0) = j_ := ⟨_, rfl⟩
  replace H : (blob_grown.l0 k t105 ji4 0) = some r := by first | (rw [hji4] at H; exact H) | (simp only [hji4] at H ⊢; exact H)
  (try rw [hji4] at A3)
  (try (have hji4l : 0 ≤ ji4 := by (rw [← hji4]; unfold mx; (repeat' split) <;> omega)))
  (try (have hji4m : 0 ≤ ji4 := by omega))
  have hji4_ : (if (wrap64 (a1 - (l0.length : Int))) < 0 then 0 else (wrap64 (a1 - (l0.length : Int)))) = ji4 := hji4
  have H' := Aside0.mk H
  clear H
  go_enter Try.func24, Try.ntmps24
  go_wp2_with (first | ((with_reducible refine gate_callee (f := 23) rfl ?_); refine goesL_ (some 7) rfl rfl Try.func23 (by kernel_rfl) rfl #[.slice A0 l0.length c0] rfl (by (try simp only [List.map_toArray, List.map_cons, List.map_nil]); first | done | rfl | (simp only [List.length_drop, List.length_take]; rfl)) ?_; (with_reducible refine (bytes_Clone.calls _ _ l0 t105 _ ?side1 ?side2 A3.out).mono ?_); (case side1 => repeat (first | exact HR0.out | (with_reducible refine Kd.C_alloc ?_ _) | (with_reducible refine Kd.C_drewN ?_ _) | (with_reducible refine Kd.C_drew ?_))); (case side2 => exact HC0.out); rintro e w5 ⟨v106, rfl, ho0, hb⟩; refine ⟨_, rfl, ?_⟩; have n0_ := Aside0.mk (Kd.R_lower ho0 (below_size (by repeat (first | (with_reducible first | exact HB.out | apply below_alloc | apply pw_below_drewN | apply below_drew1) | exact HB.out)))); have n1_ := Aside0.mk (below_step (by repeat (first | (with_reducible first | exact HB.out | apply below_alloc | apply pw_below_drewN | apply below_drew1) | exact HB.out)) hb); clear HB; have HO107 := n0_; have HB := n1_; clear n0_ n1_; (try clear hb); (try clear hb2); (try clear hk); (try clear hi); (try clear ho0)))
  go_loopg [5, 13] k (fun kq v5 v13 w' => ∃ (x5_1 : List Int) (x13_1 : Int), v13 = .int .i64 x13_1 ∧ Aside0 (blob_grown.l0 kq x5_1 ji4 x13_1 = some r) ∧ Aside0 (kq ≤ k) ∧ Aside0 (Kd.R (Kd.int .u8) 5 w' w.heap.size (fun _ => True) v5 x5_1) ∧ Aside0 (Below w.heap.size w w'))
  case atStart => exact ⟨(t105), (0), (by first | rfl | (simp; done) | (simp [*]; done)), H', ⟨Nat.le_refl _⟩, ⟨by (with_reducible repeat (first | apply Kd.R_alloc | apply Kd.R_drewN | apply Kd.R_drew)); exact HO107.out⟩, ⟨by repeat (first | (with_reducible first | exact HB.out | apply below_alloc | apply pw_below_drewN | apply below_drew1) | exact HB.out)⟩⟩
  case round =>
    clear H'
    try clear c2
    try clear p2
    obtain ⟨x5_1, x13_1, rfl, HA, HK1, HO_5, HB⟩ := hrel
    cases gk with
    | zero => exact absurd HA.out (by simp [blob_grown.l0])
    | succ k1 =>
      have H := HA.out
      clear HA
      simp only [blob_grown.l0] at H
      by_cases c6 : x13_1 < ji4
      · rw [if_pos c6] at H
        have c6b0 : decide (x13_1 < ji4) = true := decide_eq_true c6
        clear c6
        by_cases c7 : x5_1.length < 140737488355328
        · rw [if_pos c7] at H
          have LMc7 := Aside0.mk c7
          clear c7
          obtain ⟨y108, hy108⟩ : ∃ y_ : List Int, y_ = (x5_1 ++ [0]) := ⟨_, rfl⟩
          replace H : (blob_grown.l0 k1 y108 ji4 (wrap64 (x13_1 + 1))) = some r := by first | (rw [hy108]; with_reducible exact H) | (have H2_ := (Option.bind_some _ _).symm.trans H; rw [hy108]; with_reducible exact H2_) | (have H2_ := (Option.bind_some _ _).symm.trans H; with_reducible exact H2_) | with_reducible exact H | (rw [hy108]; exact H) | exact H
          have Ny108 := Aside0.mk hy108
          clear hy108
          have H' := Aside0.mk H
          clear H
          go_wp2_with (first | ((with_reducible refine gate_builtin (b := .append) (xs := #[.tmp 15, .tmp 16]) rfl ?_); at_builtin; refine Kd.R_append (Kd.int .u8) (w0 := w) w.heap.size rfl (.tmp 15) (.tmp 16) 22 5 (.int .u8 0) 1 rfl Try.underlying22 info5 rfl (by decide) (by omega) u5 x5_1 0 [.int .u8 0] (fun _ => True) (fun _ => False) rfl rfl ?aP (fun _ hk => hk.elim) ?aF ?aO ?aB ?aS ?aL ?_; (case aP => exact rfl); (case aB => exact (by repeat (first | (with_reducible first | exact HB.out | apply below_alloc | apply pw_below_drewN | apply below_drew1) | exact HB.out))); (case aF => exact (fun _ _ => trivial)); (case aO => exact (by (with_reducible repeat (first | apply Kd.R_alloc | apply Kd.R_drewN | apply Kd.R_drew)); exact HO_5.out)); (case aS => exact (below_size (by repeat (first | (with_reducible first | exact HB.out | apply below_alloc | apply pw_below_drewN | apply below_drew1) | exact HB.out)))); (case aL => have := LMc7.out; omega); intro v109 w8 ho hb hg hat; rw [← Ny108.out] at ho; have n0_ := Aside0.mk (hb); have n1_ := Aside0.mk (ho); clear HB; clear HO_5; have HB := n0_; have HO110 := n1_; clear n0_ n1_; clear ho hb hg hat))
          go_roundg k1
          case measure => have := HK1.out; omega
          case rel => exact ⟨(y108), (wrap64 (x13_1 + 1)), (by first | rfl | (simp; done) | (simp [*]; done)), H', ⟨by have := HK1.out; omega⟩, ⟨by (with_reducible repeat (first | apply Kd.R_alloc | apply Kd.R_drewN | apply Kd.R_drew)); exact HO110.out⟩, ⟨by repeat (first | (with_reducible first | exact HB.out | apply below_alloc | apply pw_below_drewN | apply below_drew1) | exact HB.out)⟩⟩
        · rw [if_neg c7] at H
          exact absurd H (by simp)
      · rw [if_neg c6] at H
        have c6b0 : decide (x13_1 < ji4) = false := decide_eq_false c6
        clear c6
        obtain rfl := Option.some.inj H
        go_wp2
        go_ret
        exact ⟨_, by first | rfl | (simp [errW_none, errW_some] <;> rfl) | (simp only [← hji4]; first | rfl | (simp [errW_none, errW_some] <;> rfl)) | (simp [*, errW_none, errW_some] <;> rfl), by (with_reducible repeat (first | apply Kd.R_alloc | apply Kd.R_drewN | apply Kd.R_drew)); exact HO_5.out, by repeat (first | (with_reducible first | exact HB.out | apply below_alloc | apply pw_below_drewN | apply below_drew1) | exact HB.out)⟩

/-! ### blob_Write: function 13, by hand -/
theorem own_spliced {w w' : World} {base n cap g off : Nat} {e : TypeId} {xs cs : List Value} {cur : List Value} (h : w.ownsRow base e 1 (.slice (some ⟨g, 0, none⟩) n cap) n xs)
    (hg : w.heap[g]? = some (.cells cur.toArray e (0, 0))) (hg' : w'.heap[g]? = some (.cells (splice cur off cs).toArray e (0, 0))) (hoff : off + cs.length ≤ n) :
    w'.ownsRow base e 1 (.slice (some ⟨g, 0, none⟩) n cap) n (splice xs off cs) := by
  rcases h.2 with ⟨h', _⟩ | ⟨g', cap', cur', h', hb, hh, hnc, hcm, hcs, htk⟩
  · cases h'
  · obtain ⟨h1, h2⟩ : g = g' ∧ cap = cap' := by
      injection h' with h1 h2 h3; injection h1 with h1; injection h1 with h1; exact ⟨h1, h3⟩
    subst h1; subst h2
    rw [hg] at hh
    injection hh with hh; injection hh with hh _
    subst hh
    have hlc : cur.length = cap := by simpa using hcs
    have hxl : xs.length = n := by simpa using h.1
    simp only [Nat.mul_one] at htk
    refine ⟨by rw [length_splice _ _ _ (by omega)]; simpa using h.1, .inr ⟨g, cap, _, rfl, hb, hg', hnc, hcm, ?_, ?_⟩⟩
    · simp only [List.size_toArray]; rw [length_splice _ _ _ (by omega)]; omega
    · simp only [Nat.mul_one, ← htk]
      have e1 : n = off + cs.length + (n - (off + cs.length)) := by omega
      have e2 : cur.length = n + (cap - n) := by omega
      apply List.ext_getElem?
      intro i
      simp only [splice, List.getElem?_take, List.getElem?_append, List.getElem?_drop, List.length_take]
      repeat' split
      all_goals first | rfl | (exfalso; omega) | (congr 1; omega) | skip
theorem own_size {w : World} {base n cap g : Nat} {e : TypeId} {xs : List Value} {cells : Array Value} (h : w.ownsRow base e 1 (.slice (some ⟨g, 0, none⟩) n cap) n xs)
    (hg : w.heap[g]? = some (.cells cells e (0, 0))) : cells.size = cap := by
  rcases h.2 with ⟨h', _⟩ | ⟨g', cap', cur', h', hb, hh, hnc, hcm, hcs, htk⟩
  · cases h'
  · obtain ⟨h1, h2⟩ : g = g' ∧ cap = cap' := by
      injection h' with h1 h2 h3; injection h1 with h1; injection h1 with h1; exact ⟨h1, h3⟩
    subst h1; subst h2
    rw [hg] at hh
    injection hh with hh; injection hh with hh _
    subst hh
    simpa using hcs
def blob_Write.f (k : Nat) (l0 : List Int) (a1 : Int) (l2 : List Int) : Option (List Int × Int) :=
  (blob_great.f a1 (l2.length : Int)).bind fun t => if t = true then some ([], 15) else if (l2.length : Int) = 0 then (bytes_Clone.f l0).bind fun c => some (c, 0)
    else (blob_grown.f k l0 (wrap64 (a1 + (l2.length : Int)))).bind fun g => if 0 ≤ a1 then (if a1.toNat + l2.length ≤ g.length then some (splice g a1.toNat l2, 0) else none) else none
theorem blob_Write.mono : ∀ a0 a1 a2 k, LeO (blob_Write.f k a0 a1 a2) (blob_Write.f (k + 1) a0 a1 a2) := by
  intro a0 a1 a2 k
  unfold blob_Write.f
  refine LeO.bind (LeO.refl _) fun _ => LeO.ite (LeO.refl _) (LeO.ite (LeO.refl _) (LeO.bind (blob_grown.mono _ _ _) fun _ => LeO.refl _))
set_option maxHeartbeats 1000000 in
theorem blob_Write.calls (k : Nat) (A0 : Option Addr) (c0 : Nat) (l0 : List Int) (a1 : Int) (A2 : Option Addr) (c2 : Nat) (l2 : List Int) (r1 : List Int) (r2 : Int) (w : World) (hr0 : Kd.C (Kd.int .u8) w A0 l0.length l0) (hc0 : l0.length ≤ c0) (hr2 : Kd.C (Kd.int .u8) w A2 l2.length l2) (hc2 : l2.length ≤ c2) (h : blob_Write.f k l0 a1 l2 = some (r1, r2)) :
    Calls Try.prog 13 #[.slice A0 l0.length c0, .int .i64 a1, .slice A2 l2.length c2] w fun e w' => ∃ v0_ : Value, e = .returned (.tuple #[v0_, .int .i64 r2]) ∧ Kd.R (Kd.int .u8) 5 w' w.heap.size (fun _ => True) v0_ r1 ∧ Below w.heap.size w w' := by
  have HR0 := Aside0.mk hr0
  have HC0 := Aside0.mk hc0
  have HR2 := Aside0.mk hr2
  clear hr0 hc0 hr2 hc2
  unfold blob_Write.f at h
  obtain ⟨t, ht, h⟩ := Option.bind_eq_some_iff.mp h
  have HT := Aside0.mk ht
  clear ht
  cases t with
  | true =>
    simp only [if_true, Option.some.injEq, Prod.mk.injEq] at h
    obtain ⟨rfl, rfl⟩ := h
    go_enter Try.func13, Try.ntmps13
    go_wp2_with (first | ((with_reducible refine gate_callee (f := 22) rfl ?_); refine goesL_ (some 12) rfl rfl Try.func22 (by kernel_rfl) rfl #[.int .i64 a1, .int .i64 (l2.length : Int)] rfl (by (try simp only [List.map_toArray, List.map_cons, List.map_nil]); first | done | rfl | (simp only [List.length_drop, List.length_take]; rfl)) ?_; (with_reducible refine (blob_great.calls a1 (l2.length : Int) true _ HT.out).mono ?_); rintro e w1 ⟨rfl, ⟨nd, rfl⟩⟩; refine ⟨_, rfl, ?_⟩))
    go_ret2
    exact ⟨_, rfl, Kd.R_nil _ _ _ _ _, pw_below_drewN (Below.refl _ _) _⟩
  | false =>
    rw [if_neg (by simp)] at h
    by_cases hz : (l2.length : Int) = 0
    · rw [if_pos hz] at h
      obtain ⟨c, hc, h⟩ := Option.bind_eq_some_iff.mp h
      have HCl := Aside0.mk hc
      simp only [Option.some.injEq, Prod.mk.injEq] at h
      obtain ⟨rfl, rfl⟩ := h
      have hzb : ((l2.length : Int) == 0) = true := beq_iff_eq.mpr hz
      clear hz hc
      go_enter Try.func13, Try.ntmps13
      go_wp2_with (first | ((with_reducible refine gate_callee (f := 22) rfl ?_); refine goesL_ (some 12) rfl rfl Try.func22 (by kernel_rfl) rfl #[.int .i64 a1, .int .i64 (l2.length : Int)] rfl (by (try simp only [List.map_toArray, List.map_cons, List.map_nil]); first | done | rfl | (simp only [List.length_drop, List.length_take]; rfl)) ?_; (with_reducible refine (blob_great.calls a1 (l2.length : Int) false _ HT.out).mono ?_); rintro e w1 ⟨rfl, ⟨nd, rfl⟩⟩; refine ⟨_, rfl, ?_⟩) | ((with_reducible refine gate_callee (f := 23) rfl ?_); refine goesL_ (some 17) rfl rfl Try.func23 (by kernel_rfl) rfl #[.slice A0 l0.length c0] rfl (by (try simp only [List.map_toArray, List.map_cons, List.map_nil]); first | done | rfl | (simp only [List.length_drop, List.length_take]; rfl)) ?_; (with_reducible refine (bytes_Clone.calls A0 c0 l0 c _ (Kd.C_drewN HR0.out _) HC0.out HCl.out).mono ?_); rintro e w5 ⟨v102, rfl, ho, hb⟩; have HO := Aside0.mk ho; have HB := Aside0.mk hb; clear ho hb; refine ⟨_, rfl, ?_⟩))
      go_ret2
      exact ⟨_, rfl, HO.out, below_then (pw_below_drewN (Below.refl _ _) _) (Nat.le_refl _) HB.out⟩
    · rw [if_neg hz] at h
      obtain ⟨g, hg, h⟩ := Option.bind_eq_some_iff.mp h
      have HG := Aside0.mk hg
      clear hg
      by_cases h1 : 0 ≤ a1
      · rw [if_pos h1] at h
        by_cases h2 : a1.toNat + l2.length ≤ g.length
        · rw [if_pos h2] at h
          simp only [Option.some.injEq, Prod.mk.injEq] at h
          obtain ⟨rfl, rfl⟩ := h
          have hzb : ((l2.length : Int) == 0) = false := beq_eq_false_iff_ne.mpr hz
          have hzn : 0 < l2.length := by omega
          have hoff : a1 ≤ (g.length : Int) := by omega
          have hs2 := Aside0.mk h2
          have hzn' := Aside0.mk hzn
          clear hz h2 hzn
          go_enter Try.func13, Try.ntmps13
          go_wp2_with (first | ((with_reducible refine gate_callee (f := 22) rfl ?_); refine goesL_ (some 12) rfl rfl Try.func22 (by kernel_rfl) rfl #[.int .i64 a1, .int .i64 (l2.length : Int)] rfl (by (try simp only [List.map_toArray, List.map_cons, List.map_nil]); first | done | rfl | (simp only [List.length_drop, List.length_take]; rfl)) ?_; (with_reducible refine (blob_great.calls a1 (l2.length : Int) false _ HT.out).mono ?_); rintro e w1 ⟨rfl, ⟨nd, rfl⟩⟩; refine ⟨_, rfl, ?_⟩) | ((with_reducible refine gate_callee (f := 24) rfl ?_); refine goesL_ (some 23) rfl rfl Try.func24 (by kernel_rfl) rfl #[.slice A0 l0.length c0, .int .i64 (wrap64 (a1 + (l2.length : Int)))] rfl (by (try simp only [List.map_toArray, List.map_cons, List.map_nil]); first | done | rfl | (simp only [List.length_drop, List.length_take]; rfl)) ?_; (with_reducible refine (blob_grown.calls k A0 c0 l0 _ g _ (Kd.C_drewN HR0.out _) HC0.out HG.out).mono ?_); rintro e w5 ⟨v102, rfl, ho, hb⟩; have HB := Aside0.mk (below_then (pw_below_drewN (Below.refl w.heap.size w) nd) (Nat.le_refl _) hb); have HO := Aside0.mk (show Kd.R (Kd.int .u8) 5 w5 w.heap.size (fun _ => True) v102 g from ho); clear ho hb; obtain ⟨gb, cap, rfl, hgb, hgl, cells, hcell⟩ := Kd.R_form HO.out (by have := hs2.out; have := hzn'.out; omega); have hne : ¬ (cap = a1.toNat) := (by have := own_le (Kd.own_of_R HO.out); have := hs2.out; have := hzn'.out; omega); have HCE := Aside0.mk hcell; have HGB := Aside0.mk hgb; clear hcell hgb hgl; refine ⟨_, rfl, ?_⟩) | ((with_reducible refine gate_builtin (b := .copy) (xs := #[.tmp 26, .tmp 27]) rfl ?_); refine wpList_copy_splice rfl (.tmp 26) (.tmp 27) 22 22 rfl 5 Try.underlying22 (by kernel_rfl) (some ⟨gb, a1.toNat, none⟩) A2 (g.length - a1.toNat) (cap - a1.toNat) l2.length c2 rfl rfl gb a1.toNat cells.toList 5 ?cG (nums .u8 l2) ?cN ?cP ?cF ?cO w.heap.size w HB.out HGB.out ?_))
          case cG => exact HCE.out
          case cN => have := hs2.out; simp only [nums, List.length_map, Nat.min_def]; split <;> omega
          case cP =>
            intro _
            obtain ⟨ad, e, hc⟩ := (Kd.C_below HR2.out (show Below w.heap.size w w5 from HB.out)).2.2 hzn'.out
            refine ⟨ad, e, fun j v hj => ?_⟩
            simp only [nums, List.getElem?_map, Option.map_eq_some_iff] at hj
            obtain ⟨x, hx, rfl⟩ := hj
            obtain ⟨c, _, hk, hcell⟩ := hc j x hx
            have := hcell 0 (.int .u8 x) (by rw [show c = [.int .u8 x] from hk]; rfl)
            simpa [Kd.int, Kd.scalar] using this
          case cF =>
            have h1 := own_le (Kd.own_of_R HO.out)
            have h2 := hs2.out
            have h3 := (own_size (Kd.own_of_R HO.out) HCE.out)
            simp [nums, h3]; omega
          case cO => intro v hv; simp [nums] at hv; obtain ⟨x, _, rfl⟩ := hv; rfl
          intro w2 HG2 hB2
          have HB2 := Aside0.mk hB2
          clear hB2
          go_wp2
          go_ret2
          refine ⟨_, rfl, ?_, HB2.out⟩
          have hown := own_spliced (Kd.own_of_R HO.out) (by simpa using HCE.out) HG2.out (by have := hs2.out; simpa [nums] using this)
          have he : splice (encs (Value.int .u8) g) a1.toNat (nums .u8 l2) = encs (Value.int .u8) (splice g a1.toNat l2) := by simp [splice, encs, nums, List.map_take, List.map_drop]
          have hl : (splice g a1.toNat l2).length = g.length := length_splice _ _ _ hs2.out
          rw [he] at hown
          exact Kd.R_of_own (by rw [hl]; exact hown) (fun _ _ => trivial)
        · rw [if_neg h2] at h; exact absurd h (by simp)
      · rw [if_neg h1] at h; exact absurd h (by simp)

/-! ### truchmanref12_TooBig: function 25 -/
def truchmanref12_TooBig.f (a0 : Int) (a1 : Int) : Option (Bool) := if a1 = 0 then (some false) else (if a0 > 2047 then (some true) else (if a1 > 2048 then (some true) else (some (decide ((wrap64 (a0 + a1)) > 2048)))))
set_option maxHeartbeats 8000000 in
set_option maxRecDepth 100000 in
theorem truchmanref12_TooBig.calls (a0 : Int) (a1 : Int) (r : Bool) (w : World) (h : truchmanref12_TooBig.f a0 a1 = some r) :
    Calls Try.prog 25 #[.int .i64 a0, .int .i64 a1] w fun e w' => e = .returned (.bool r) ∧ Drawn0 w w' := by
  have H : (if a1 = 0 then (some false) else (if a0 > 2047 then (some true) else (if a1 > 2048 then (some true) else (some (decide ((wrap64 (a0 + a1)) > 2048)))))) = some r := h
  clear h
  by_cases c3 : a1 = 0
  · rw [if_pos c3] at H
    have c3b0 : (a1 == 0) = true := beq_iff_eq.mpr c3
    have c3b1 : (a1 != 0) = false := bne_eq_false_iff_eq.mpr c3
    clear c3
    obtain rfl := Option.some.inj H
    go_enter Try.func25, Try.ntmps25
    go_wp2
    go_ret
    exact ⟨by first | rfl | (simp; done) | (simp [*]; done), by repeat (first | exact Drawn0.refl _ | apply Drawn0.step)⟩
  · rw [if_neg c3] at H
    have c3b0 : (a1 == 0) = false := beq_eq_false_iff_ne.mpr c3
    have c3b1 : (a1 != 0) = true := bne_iff_ne.mpr c3
    by_cases c4 : a0 > 2047
    · rw [if_pos c4] at H
      have c4b0 : decide (2047 < a0) = true := decide_eq_true c4
      clear c4
      obtain rfl := Option.some.inj H
      go_enter Try.func25, Try.ntmps25
      go_wp2
      go_ret
      exact ⟨by first | rfl | (simp; done) | (simp [*]; done), by repeat (first | exact Drawn0.refl _ | apply Drawn0.step)⟩
    · rw [if_neg c4] at H
      have c4b0 : decide (2047 < a0) = false := decide_eq_false c4
      clear c4
      by_cases c5 : a1 > 2048
      · rw [if_pos c5] at H
        have c5b0 : decide (2048 < a1) = true := decide_eq_true c5
        clear c5
        obtain rfl := Option.some.inj H
        go_enter Try.func25, Try.ntmps25
        go_wp2
        go_ret
        exact ⟨by first | rfl | (simp; done) | (simp [*]; done), by repeat (first | exact Drawn0.refl _ | apply Drawn0.step)⟩
      · rw [if_neg c5] at H
        have c5b0 : decide (2048 < a1) = false := decide_eq_false c5
        clear c5
        obtain rfl := Option.some.inj H
        go_enter Try.func25, Try.ntmps25
        go_wp2
        go_ret
        exact ⟨by first | rfl | (simp; done) | (simp [*]; done), by repeat (first | exact Drawn0.refl _ | apply Drawn0.step)⟩

/-! ### truchmanref12_Write: function 14, by hand -/
/-- What is written byte by byte: b from off on is d, 0 between. -/
def wrote (b : List Int) (off : Nat) (d : List Int) : List Int := if d = [] then b else (List.range (max b.length (off + d.length))).map fun k => if off ≤ k ∧ k < off + d.length then d.getD (k - off) 0 else b.getD k 0
theorem wrote_length (b : List Int) (off : Nat) (d : List Int) : (wrote b off d).length = if d.length = 0 then b.length else max b.length (off + d.length) := by
  unfold wrote
  by_cases h : d = []
  · subst h; simp
  · rw [if_neg h, if_neg (by intro h2; exact h (List.eq_nil_of_length_eq_zero h2))]; simp
theorem wrote_get (b : List Int) (off : Nat) (d : List Int) (k : Nat) : (wrote b off d)[k]? = if k < (wrote b off d).length then some (if off ≤ k ∧ k < off + d.length then d.getD (k - off) 0 else b.getD k 0) else none := by
  by_cases hk : k < (wrote b off d).length
  · rw [if_pos hk]
    unfold wrote at hk ⊢
    by_cases h : d = []
    · subst h
      simp only [if_true, List.length_nil, Nat.add_zero] at hk ⊢
      rw [if_neg (by omega), List.getElem?_eq_getElem hk, List.getD_eq_getElem?_getD, List.getElem?_eq_getElem hk]; rfl
    · rw [if_neg h] at hk ⊢
      rw [List.length_map, List.length_range] at hk
      rw [List.getElem?_map, List.getElem?_range hk]; rfl
  · rw [if_neg hk, List.getElem?_eq_none (by omega)]
theorem wrote_step (b : List Int) (off : Nat) (d : List Int) (i : Nat) (hi : i < d.length) :
    ((wrote b off (d.take i)) ++ List.replicate (off + i + 1 - (wrote b off (d.take i)).length) 0).set (off + i) d[i] = wrote b off (d.take (i + 1)) := by
  have hl1 : (d.take (i + 1)).length = i + 1 := by rw [List.length_take]; omega
  have hl0 : (d.take i).length = i := by rw [List.length_take]; omega
  have hL0 := wrote_length b off (d.take i)
  have hL1 := wrote_length b off (d.take (i + 1))
  rw [hl0] at hL0
  rw [hl1, if_neg (by omega)] at hL1
  apply List.ext_getElem?
  intro k
  rw [List.getElem?_set, List.length_append, List.length_replicate, List.getElem?_append, wrote_get b off (d.take i), wrote_get b off (d.take (i + 1)), List.getElem?_replicate, hl0, hl1, hL1]
  have e1 : b.length ≤ (wrote b off (d.take i)).length := by rw [hL0]; split <;> omega
  have e2 : (wrote b off (d.take i)).length ≤ max b.length (off + i) := by rw [hL0]; split <;> omega
  have e3 : 0 < i → (wrote b off (d.take i)).length = max b.length (off + i) := by intro h; rw [hL0, if_neg (by omega)]
  generalize (wrote b off (d.take i)).length = L at *
  have hb : ∀ k, b.length ≤ k → b.getD k 0 = 0 := fun k hk => by rw [List.getD_eq_getElem?_getD, List.getElem?_eq_none hk]; rfl
  by_cases c0 : off + i = k
  · subst c0
    have z1 : off + i < L + (off + i + 1 - L) := by omega
    have z2 : off + i < max b.length (off + (i + 1)) := by omega
    have z3 : off ≤ off + i ∧ off + i < off + (i + 1) := by omega
    rw [if_pos rfl, if_pos z1, if_pos z2, if_pos z3]
    rw [show off + i - off = i from by omega, List.getD_eq_getElem?_getD, List.getElem?_take, if_pos (by omega), List.getElem?_eq_getElem hi]; rfl
  · rw [if_neg c0]
    by_cases c1 : k < L
    · have z2 : k < max b.length (off + (i + 1)) := by omega
      rw [if_pos c1, if_pos c1, if_pos z2]
      by_cases c2 : off ≤ k ∧ k < off + i
      · have z3 : off ≤ k ∧ k < off + (i + 1) := by omega
        have z4 : k - off < i := by omega
        have z5 : k - off < i + 1 := by omega
        rw [if_pos c2, if_pos z3, List.getD_eq_getElem?_getD, List.getD_eq_getElem?_getD, List.getElem?_take, List.getElem?_take, if_pos z4, if_pos z5]
      · have z3 : ¬ (off ≤ k ∧ k < off + (i + 1)) := by omega
        rw [if_neg c2, if_neg z3]
    · rw [if_neg c1]
      by_cases c2 : k < max b.length (off + (i + 1))
      · have z1 : k - L < off + i + 1 - L := by omega
        have z3 : ¬ (off ≤ k ∧ k < off + (i + 1)) := by omega
        rw [if_pos c2, if_pos z1, if_neg z3, hb k (by omega)]
      · have z1 : ¬ (k - L < off + i + 1 - L) := by omega
        rw [if_neg c2, if_neg z1]
def truchmanref12_Write.f (a0 : ByteArray) (a1 : Int) (a2 : ByteArray) : Option (ByteArray × Int) :=
  (truchmanref12_TooBig.f a1 (a2.size : Int)).bind fun t => if t = true then some (⟨#[]⟩, 15) else if 0 ≤ a1 ∧ (0 < a2.size → a1 ≤ 2048 ∧ a2.size ≤ 2048) ∧ a0.size ≤ 1048576 then some (strOfNums (wrote (bytesOf a0) a1.toNat (bytesOf a2)), 0) else none
set_option maxHeartbeats 1000000 in
theorem truchmanref12_Write.calls (a0 : ByteArray) (a1 : Int) (a2 : ByteArray) (r1 : ByteArray) (r2 : Int) (w : World) (h : truchmanref12_Write.f a0 a1 a2 = some (r1, r2)) :
    Calls Try.prog 14 #[.string a0, .int .i64 a1, .string a2] w fun e w' => e = .returned (.tuple #[.string r1, .int .i64 r2]) ∧ Below w.heap.size w w' := by
  unfold truchmanref12_Write.f at h
  obtain ⟨t, ht, h⟩ := Option.bind_eq_some_iff.mp h
  have HT := Aside0.mk ht
  clear ht
  cases t with
  | true =>
    simp only [if_true, Option.some.injEq, Prod.mk.injEq] at h
    obtain ⟨rfl, rfl⟩ := h
    go_enter Try.func14, Try.ntmps14
    go_wp2_with (first | ((with_reducible refine gate_callee (f := 25) rfl ?_); refine goesL_ (some 14) rfl rfl Try.func25 (by kernel_rfl) rfl #[.int .i64 a1, .int .i64 (a2.size : Int)] rfl (by (try simp only [List.map_toArray, List.map_cons, List.map_nil]); first | done | rfl | (simp only [List.length_drop, List.length_take]; rfl)) ?_; (with_reducible refine (truchmanref12_TooBig.calls a1 (a2.size : Int) true _ HT.out).mono ?_); rintro e w1 ⟨rfl, ⟨nd, rfl⟩⟩; refine ⟨_, rfl, ?_⟩))
    go_ret2
    exact ⟨rfl, pw_below_drewN (Below.refl _ _) _⟩
  | false =>
    rw [if_neg (by simp)] at h
    by_cases c2 : 0 ≤ a1 ∧ (0 < a2.size → a1 ≤ 2048 ∧ a2.size ≤ 2048) ∧ a0.size ≤ 1048576
    · rw [if_pos c2] at h
      simp only [Option.some.injEq, Prod.mk.injEq] at h
      obtain ⟨rfl, rfl⟩ := h
      obtain ⟨h1, h3, h2⟩ := c2
      obtain ⟨off, hn⟩ : ∃ n : Nat, a1 = (n : Int) := ⟨a1.toNat, by omega⟩
      subst hn
      rw [Int.toNat_natCast]
      have H3 := Aside0.mk h3
      have H2 := Aside0.mk h2
      clear h3 h2 h1
      go_enter Try.func14, Try.ntmps14
      go_wp2_with (first | ((with_reducible refine gate_callee (f := 25) rfl ?_); refine goesL_ (some 14) rfl rfl Try.func25 (by kernel_rfl) rfl #[.int .i64 (off : Int), .int .i64 (a2.size : Int)] rfl (by (try simp only [List.map_toArray, List.map_cons, List.map_nil]); first | done | rfl | (simp only [List.length_drop, List.length_take]; rfl)) ?_; (with_reducible refine (truchmanref12_TooBig.calls (off : Int) (a2.size : Int) false _ HT.out).mono ?_); rintro e w1 ⟨rfl, ⟨nd, rfl⟩⟩; obtain ⟨v, w2, hr, HO, HB⟩ := OwnM.made (P := Try.prog) (w.drewN nd) w.heap.size (Nat.le_refl _) 9 22 a0 Try.underlying9 Try.underlying22 Try.underlying5 (by have := H2.out; omega); have HO1 := Aside0.mk HO; have HB1 := Aside0.mk (below_then (pw_below_drewN (Below.refl w.heap.size w) nd) (Nat.le_refl _) HB); clear HO HB; refine ⟨_, rfl, ?_⟩))
      have hbl : (bytesOf a2).length = a2.size := by unfold bytesOf; simp
      have hal : (bytesOf a0).length = a0.size := by unfold bytesOf; simp
      have HBL := Aside0.mk hbl
      have HAL := Aside0.mk hal
      clear hbl hal h
      go_loopg [9, 10] a2.size (fun gk v9 v10 w' => ∃ (i : Nat) (xs : List Int), v10 = .int .i64 (i : Int) ∧ Aside0 (gk + i = a2.size) ∧ Aside0 (xs = wrote (bytesOf a0) off ((bytesOf a2).take i)) ∧ Aside0 (OwnM w' w.heap.size v9 xs) ∧ Aside0 (Below w.heap.size w w'))
      case atStart => exact ⟨0, bytesOf a0, rfl, ⟨by omega⟩, ⟨by simp [wrote]⟩, HO1, HB1⟩
      case round =>
        clear HO1 HB1 hr
        obtain ⟨i, xs, rfl, HG, HX, HO, HB⟩ := hrel
        obtain ⟨wo, rfl⟩ : ∃ wo : World, wo = wr := ⟨_, rfl⟩
        cases gk with
        | zero =>
          have ht : decide (i < a2.size) = false := decide_eq_false (by have := HG.out; omega)
          obtain ⟨g, cap, rfl, hg, hc, hm, hgl⟩ := HO.out.reads
          have hstr := HO.out.string Try.underlying22 Try.underlying5 Try.underlying9 xs.length (Nat.le_refl _) g cap rfl
          have hfin : xs = wrote (bytesOf a0) off (bytesOf a2) := by rw [HX.out, List.take_of_length_le (by have := HG.out; have := HBL.out; omega)]
          rw [List.take_length] at hstr
          have HF := Aside0.mk hfin
          clear hg hc hm hgl hfin
          go_wp2
          go_ret2
          exact ⟨by rw [HF.out]; rfl, HB.out⟩
        | succ k1 =>
          have hi : i < a2.size := by have := HG.out; omega
          have ht : decide (i < a2.size) = true := decide_eq_true hi
          have hi2 : i ≤ 2048 := by have := (H3.out (by omega)).2; omega
          have ho2 : off ≤ 2048 := by have := (H3.out (by omega)).1; omega
          go_wp2
          go_loopg [9] (off + i + 1 - xs.length) (fun gk2 v9 w' => ∃ ys : List Int, Aside0 (ys = xs ++ List.replicate (off + i + 1 - xs.length - gk2) 0) ∧ Aside0 (gk2 ≤ off + i + 1 - xs.length) ∧ Aside0 (OwnM w' w.heap.size v9 ys) ∧ Aside0 (Below w.heap.size w w'))
          case atStart => exact ⟨xs, ⟨by simp⟩, ⟨Nat.le_refl _⟩, HO, HB⟩
          case round =>
            clear HO HB
            obtain ⟨ys, HY, HG2, HO, HB⟩ := hrel
            have hyl : ys.length = xs.length + (off + i + 1 - xs.length - gk) := by rw [HY.out, List.length_append, List.length_replicate]
            obtain ⟨g, cap, rfl, hg, hc, hm, hgl⟩ := HO.out.reads
            have HYL := Aside0.mk hyl
            cases gk with
            | zero =>
              have HGB := Aside0.mk hg
              have hgt : off + i < ys.length := by omega
              have ht2 : decide ((ys.length : Int) ≤ (off : Int) + (i : Int)) = false := decide_eq_false (by omega)
              have hcell := HO.out.cell (off + i) hgt
              obtain ⟨hc1, hc2⟩ := hcell
              have hsum : ((off : Int) + (i : Int)).toNat = off + i := by omega
              have hbd : 0 ≤ (off : Int) + (i : Int) ∧ (off : Int) + (i : Int) < (ys.length : Int) := by omega
              clear hg hc hm hgl hyl
              go_wp2
              go_roundg k1
              case measure => omega
              case rel =>
                have hset := HO.out.set (off + i) ((a2[i].toNat : Nat) : Int) hgt
                have hib : i < (bytesOf a2).length := by rw [HBL.out]; exact hi
                have hbi : (bytesOf a2)[i] = ((a2[i].toNat : Nat) : Int) := by simp only [bytesOf, List.getElem_map, Array.getElem_toList]; rfl
                have hst := wrote_step (bytesOf a0) off (bytesOf a2) i hib
                rw [hbi, ← HX.out] at hst
                refine ⟨i + 1, _, rfl, ⟨by have := HG.out; omega⟩, ⟨?_⟩, ⟨hset⟩, ⟨HB.out.setCell HGB.out _⟩⟩
                rw [HY.out]; exact hst
            | succ k2 =>
              have ht2 : decide ((ys.length : Int) ≤ (off : Int) + (i : Int)) = true := decide_eq_true (by have := HG2.out; omega)
              have HBS := Aside0.mk HB.out.size
              clear hg hc hm hgl hyl
              go_wp2_with (first | ((with_reducible refine gate_builtin (b := .append) (xs := #[.tmp 30, .tmp 31]) rfl ?_); at_builtin; refine wpList_append_mark w.heap.size rfl (.tmp 30) (.tmp 31) 22 rfl Try.underlying22 info5 _ ys 0 rfl rfl HO.out HBS.out (by have := HYL.out; have := H2.out; have := HX.out; have hw := wrote_length (bytesOf a0) off ((bytesOf a2).take i); have h5 := HAL.out; have h6 := HBL.out; rw [← HX.out, List.length_take] at hw; split at hw <;> omega) ?_; intro v1 w2 ho hb; have HO2 := Aside0.mk ho; have HB2 := Aside0.mk hb; clear ho hb))
              go_roundg k2
              case measure => omega
              case rel => exact ⟨ys ++ [0], ⟨by rw [HY.out, List.append_assoc]; congr 1; rw [← List.replicate_succ']; congr 1; have := HG2.out; omega⟩, ⟨by have := HG2.out; omega⟩, HO2, ⟨HB.out.trans HB2.out⟩⟩
    · rw [if_neg c2] at h; exact absurd h (by simp)

/-! ### truchmanlaw12_lives: function 15, by hand -/
def truchmanlaw12_lives.f : Option Bool := some true
theorem lives_pure : blob_Write.f 10 [97, 98] 3 [99] = some ([97, 98, 0, 99], 0) := by decide +kernel
theorem C_of_cells {w : World} {b : Nat} {k : IntKind} {xs : List Int} (hm : xs.length ≤ 9223372036854775807) (h : ∀ j x, xs[j]? = some x → w.cell? ⟨b, j, none⟩ = some (.int k x)) : Kd.C (Kd.int k) w (some ⟨b, 0, none⟩) xs.length xs :=
  ⟨rfl, hm, fun _ => ⟨_, rfl, fun j p hj => ⟨[.int k p], rfl, rfl, fun i u hu => by
    match i, hu with
    | 0, hu =>
      have : Value.int k p = u := by simpa using hu
      subst this
      have := h j p hj
      rw [show j * (Kd.int k).sz + 0 = j from by simp [Kd.int, Kd.scalar], add_plain]
      exact this
    | i + 1, hu => simp at hu⟩⟩⟩
def livesW (w : World) : World := (w.alloc (Obj.cells #[.int .u8 97, .int .u8 98] 5 (2, 3))).alloc (Obj.cells #[.int .u8 99] 5 (1, 2))
theorem lives_two (w : World) : Kd.C (Kd.int .u8) (livesW w) (some ⟨w.heap.size, 0, none⟩) ([97, 98] : List Int).length [97, 98] := by
  have h0 : (livesW w).heap[w.heap.size]? = some (Obj.cells #[.int .u8 97, .int .u8 98] 5 (2, 3)) := by
    unfold livesW; rw [Below.heap_alloc _ _ _ (by simp)]; exact heap_alloc_new w _
  refine C_of_cells (by simp) fun j x hj => ?_
  rw [cell_of_row _ _ _ _ _ _ h0]
  match j, hj with
  | 0, hj => simp at hj; subst hj; rfl
  | 1, hj => simp at hj; subst hj; rfl
theorem lives_one (w : World) : Kd.C (Kd.int .u8) (livesW w) (some ⟨w.heap.size + 1, 0, none⟩) ([99] : List Int).length [99] := by
  have h0 : (livesW w).heap[w.heap.size + 1]? = some (Obj.cells #[.int .u8 99] 5 (1, 2)) := by
    have := heap_alloc_new (w.alloc (Obj.cells #[.int .u8 97, .int .u8 98] 5 (2, 3))) (Obj.cells #[.int .u8 99] 5 (1, 2))
    unfold livesW
    simpa only [World.size_alloc] using this
  refine C_of_cells (by simp) fun j x hj => ?_
  rw [cell_of_row _ _ _ _ _ _ h0]
  match j, hj with
  | 0, hj => simp at hj; subst hj; rfl
theorem lives_call (w : World) : Calls Try.prog 13 #[.slice (some ⟨w.heap.size, 0, none⟩) 2 2, .int .i64 3, .slice (some ⟨w.heap.size + 1, 0, none⟩) 1 1] ((w.alloc (Obj.cells #[.int .u8 97, .int .u8 98] 5 (2, 3))).alloc (Obj.cells #[.int .u8 99] 5 (1, 2))) fun e w' => ∃ v0_ : Value, e = .returned (.tuple #[v0_, .int .i64 0]) ∧ Kd.R (Kd.int .u8) 5 w' ((w.alloc (Obj.cells #[.int .u8 97, .int .u8 98] 5 (2, 3))).alloc (Obj.cells #[.int .u8 99] 5 (1, 2))).heap.size (fun _ => True) v0_ [97, 98, 0, 99] ∧ Below ((w.alloc (Obj.cells #[.int .u8 97, .int .u8 98] 5 (2, 3))).alloc (Obj.cells #[.int .u8 99] 5 (1, 2))).heap.size ((w.alloc (Obj.cells #[.int .u8 97, .int .u8 98] 5 (2, 3))).alloc (Obj.cells #[.int .u8 99] 5 (1, 2))) w' :=
  blob_Write.calls 10 (some ⟨w.heap.size, 0, none⟩) 2 [97, 98] 3 (some ⟨w.heap.size + 1, 0, none⟩) 1 [99] _ _ _ (lives_two w) (by simp) (lives_one w) (by simp) lives_pure
theorem lives_below (w : World) {o1 o2 : Obj} {w5 : World} (h : Below ((w.alloc o1).alloc o2).heap.size ((w.alloc o1).alloc o2) w5) : Below w.heap.size w w5 :=
  below_then (((Below.refl _ _).alloc (Nat.le_refl _) _).alloc (by simp) _) (by simp; omega) h
set_option maxHeartbeats 1000000 in
theorem truchmanlaw12_lives.calls (r : Bool) (w : World) (h : truchmanlaw12_lives.f = some r) :
    Calls Try.prog 15 #[] w fun e w' => e = .returned (.bool r) ∧ Below w.heap.size w w' := by
  obtain rfl := Option.some.inj h
  have kc := fun (w : World) (C : Array Value) (n c : Nat) => Lib.run_convert_bytes_const (P := Try.prog) w 22 5 C n c Try.underlying22 Try.underlying5
  have kc2 : ∀ (w : World) (o : Obj) (C : Array Value) (n c : Nat), Sem.run Try.prog (convert 22 22 (Value.slice (some ⟨w.heap.size + 1, 0, none⟩) n c)) ((w.alloc o).alloc (Obj.cells C 5)) = Result.ok (Value.slice (some ⟨w.heap.size + 1, 0, none⟩) n c) ((w.alloc o).alloc (Obj.cells C 5 (C.size, C.size + 1))) := fun w o C n c => by simpa using kc (w.alloc o) C n c
  go_enter Try.func15, Try.ntmps15
  go_wp2_with (first | ((with_reducible refine gate_callee (f := 13) rfl ?_); refine goesL_ (some 8) rfl rfl Try.func13 (by kernel_rfl) rfl #[.slice (some ⟨w.heap.size, 0, none⟩) 2 2, .int .i64 3, .slice (some ⟨w.heap.size + 1, 0, none⟩) 1 1] rfl (by (try simp only [List.map_toArray, List.map_cons, List.map_nil]); first | done | rfl | (simp only [List.length_drop, List.length_take]; rfl)) ?_; (with_reducible refine (lives_call w).mono ?_); rintro e w5 ⟨v102, rfl, ho, hb⟩; have HB := Aside0.mk (lives_below w hb); have HO := Aside0.mk (Kd.own_of_R ho); clear ho hb; obtain ⟨A3, c3, rfl⟩ := own_slice HO.out; have hstr : (convert 22 9 (.slice A3 4 c3)).run Try.prog w5 = .ok (.string ⟨#[97, 98, 0, 99]⟩) w5 := own_string Try.underlying22 Try.underlying5 Try.underlying9 HO.out; refine ⟨_, rfl, ?_⟩))
  go_ret
  exact ⟨rfl, HB.out⟩

end Go.Proofs.Ytaipnchallmioaa.B
