-- Printed for Ytaipnchallmioaa by hprint.py, a program of this session over the kit's print.py, some functions taken from texts by hand.
import Derived.Test.YtaipnchallmioaaBx0
import Derived.Test.YtaipnchallmioaaBx1
import Derived.Test.YtaipnchallmioaaBx3
namespace Go.Proofs.Ytaipnchallmioaa.B
open Go.RowKit Go.Proofs.YtaipnchallmioaaW.PrintWords Go.Proofs.YtaipnchallmioaaW.PrintLast Go.Proofs.YtaipnchallmioaaW.PrintMore
attribute [local go_sem] max2_int min2_int max_two min_two max_three min_three max_four min_four   -- for this text's walks alone
set_option linter.unusedVariables false
set_option linter.unusedSimpArgs false

/-! ### truchmanlaw12_BlobStays: function 6 -/
mutual
def truchmanlaw12_BlobStays.j0 : Nat → List Int → List Int → Int → Int → Int → List Int → ByteArray → Option (Bool)
  | 0, _, _, _, _, _, _, _ => none
  | k + 1, x9, x10, x11, x13, x14, x15, x17 => if x14 ≥ (x9.length : Int) then (if x14 < x11 then (truchmanlaw12_BlobStays.j1 k x10 x11 x13 x14 x15 x17 (decide ((x10.length : Int) > 0))) else (truchmanlaw12_BlobStays.j1 k x10 x11 x13 x14 x15 x17 false)) else (truchmanlaw12_BlobStays.j1 k x10 x11 x13 x14 x15 x17 false)
def truchmanlaw12_BlobStays.j1 : Nat → List Int → Int → Int → Int → List Int → ByteArray → Bool → Option (Bool)
  | 0, _, _, _, _, _, _, _ => none
  | k + 1, x10, x11, x13, x14, x15, x17, x62 => if x62 = true then (if x14 ≥ x11 then (if x14 < (wrap64 (x11 + (x10.length : Int))) then (if 0 ≤ (wrap64 (x14 - x11)) then (if (wrap64 (x14 - x11)) ≤ (wrap64 ((wrap64 (x14 - x11)) + 1)) then (if (wrap64 ((wrap64 (x14 - x11)) + 1)) ≤ (x10.length : Int) then (if x13 = 0 then (if (strOfNums x15).toList = (strOfNums ((x10.take ((wrap64 ((wrap64 (x14 - x11)) + 1)) : Int).toNat).drop ((wrap64 (x14 - x11)) : Int).toNat)).toList then ((truchmanlaw12_lives.f).bind fun t215 => (some t215)) else (some false)) else (some false)) else (none)) else (none)) else (none)) else (if x13 = 0 then (if (strOfNums x15).toList = ([0] : List UInt8) then ((truchmanlaw12_lives.f).bind fun t216 => (some t216)) else (some false)) else (some false))) else (if x13 = 0 then (if (strOfNums x15).toList = ([0] : List UInt8) then ((truchmanlaw12_lives.f).bind fun t217 => (some t217)) else (some false)) else (some false))) else (if x14 ≥ x11 then (if x14 < (wrap64 (x11 + (x10.length : Int))) then (if 0 ≤ (wrap64 (x14 - x11)) then (if (wrap64 (x14 - x11)) ≤ (wrap64 ((wrap64 (x14 - x11)) + 1)) then (if (wrap64 ((wrap64 (x14 - x11)) + 1)) ≤ (x10.length : Int) then (if x13 = 0 then (if (strOfNums x15).toList = (strOfNums ((x10.take ((wrap64 ((wrap64 (x14 - x11)) + 1)) : Int).toNat).drop ((wrap64 (x14 - x11)) : Int).toNat)).toList then ((truchmanlaw12_lives.f).bind fun t222 => (some t222)) else (some false)) else (some false)) else (none)) else (none)) else (none)) else (if x13 = 0 then (if (strOfNums x15).toList = x17.toList then ((truchmanlaw12_lives.f).bind fun t223 => (some t223)) else (some false)) else (some false))) else (if x13 = 0 then (if (strOfNums x15).toList = x17.toList then ((truchmanlaw12_lives.f).bind fun t224 => (some t224)) else (some false)) else (some false)))
end
def truchmanlaw12_BlobStays.f (k : Nat) (l0 : List Int) (a1 : Int) (l2 : List Int) (a3 : Int) : Option (Bool) := (truchmanref01_Few.f l0 40).bind fun t191 => ((truchmanref01_Few.f l2 20).bind fun t194 => ((truchmanref01_Around.f a1 51).bind fun t197 => ((blob_Write.f k t191 t197 t194).bind fun bt198 => ((truchmanref01_Around.f a3 71).bind fun t202 => ((blob_Read.f bt198.1 t202 1).bind fun bt203 => (if t202 < (t191.length : Int) then (if 0 ≤ t202 then (if t202 ≤ (wrap64 (t202 + 1)) then (if (wrap64 (t202 + 1)) ≤ (t191.length : Int) then (truchmanlaw12_BlobStays.j0 k t191 t194 t197 bt198.2 t202 bt203.1 (strOfNums ((t191.take ((wrap64 (t202 + 1)) : Int).toNat).drop (t202 : Int).toNat))) else (none)) else (none)) else (none)) else (truchmanlaw12_BlobStays.j0 k t191 t194 t197 bt198.2 t202 bt203.1 (⟨#[]⟩ : ByteArray))))))))
theorem truchmanlaw12_BlobStays.mono_l : ∀ k, (∀ y0 y1 y2 y3 y4 y5 y6, LeO (truchmanlaw12_BlobStays.j0 k y0 y1 y2 y3 y4 y5 y6) (truchmanlaw12_BlobStays.j0 (k + 1) y0 y1 y2 y3 y4 y5 y6)) ∧ (∀ y0 y1 y2 y3 y4 y5 y6, LeO (truchmanlaw12_BlobStays.j1 k y0 y1 y2 y3 y4 y5 y6) (truchmanlaw12_BlobStays.j1 (k + 1) y0 y1 y2 y3 y4 y5 y6))
  | 0 => ⟨fun _ _ _ _ _ _ _ r h => by simp [truchmanlaw12_BlobStays.j0] at h, fun _ _ _ _ _ _ _ r h => by simp [truchmanlaw12_BlobStays.j1] at h⟩
  | k + 1 => by
    obtain ⟨ih0, ih1⟩ := truchmanlaw12_BlobStays.mono_l k
    refine ⟨?_, ?_⟩
    · intro y0 y1 y2 y3 y4 y5 y6
      unfold truchmanlaw12_BlobStays.j0
      repeat' first
      | (with_reducible exact ih0 _ _ _ _ _ _ _)
      | (with_reducible exact ih1 _ _ _ _ _ _ _)
      | (with_reducible exact blob_Write.mono _ _ _ _)
      | (with_reducible exact LeO.refl _)
      | (with_reducible exact LeO.none _)
      | (with_reducible refine LeO.ite ?_ ?_)
      | (with_reducible refine LeO.bind ?_ (fun _ => ?_))
      | exact ih0 _ _ _ _ _ _ _
      | exact ih1 _ _ _ _ _ _ _
      | exact blob_Write.mono _ _ _ _
      | exact LeO.none _
      | refine LeO.ite ?_ ?_
      | refine LeO.bind ?_ (fun _ => ?_)
    · intro y0 y1 y2 y3 y4 y5 y6
      unfold truchmanlaw12_BlobStays.j1
      repeat' first
      | (with_reducible exact ih0 _ _ _ _ _ _ _)
      | (with_reducible exact ih1 _ _ _ _ _ _ _)
      | (with_reducible exact blob_Write.mono _ _ _ _)
      | (with_reducible exact LeO.refl _)
      | (with_reducible exact LeO.none _)
      | (with_reducible refine LeO.ite ?_ ?_)
      | (with_reducible refine LeO.bind ?_ (fun _ => ?_))
      | exact ih0 _ _ _ _ _ _ _
      | exact ih1 _ _ _ _ _ _ _
      | exact blob_Write.mono _ _ _ _
      | exact LeO.none _
      | refine LeO.ite ?_ ?_
      | refine LeO.bind ?_ (fun _ => ?_)
theorem truchmanlaw12_BlobStays.mono : ∀ a0 a1 a2 a3 k, LeO (truchmanlaw12_BlobStays.f k a0 a1 a2 a3) (truchmanlaw12_BlobStays.f (k + 1) a0 a1 a2 a3) := by
  intro a0 a1 a2 a3 k
  obtain ⟨ih0, ih1⟩ := truchmanlaw12_BlobStays.mono_l k
  unfold truchmanlaw12_BlobStays.f
  repeat' first
      | (with_reducible exact ih0 _ _ _ _ _ _ _)
      | (with_reducible exact ih1 _ _ _ _ _ _ _)
      | (with_reducible exact blob_Write.mono _ _ _ _)
      | (with_reducible exact LeO.refl _)
      | (with_reducible exact LeO.none _)
      | (with_reducible refine LeO.ite ?_ ?_)
      | (with_reducible refine LeO.bind ?_ (fun _ => ?_))
      | exact ih0 _ _ _ _ _ _ _
      | exact ih1 _ _ _ _ _ _ _
      | exact blob_Write.mono _ _ _ _
      | exact LeO.none _
      | refine LeO.ite ?_ ?_
      | refine LeO.bind ?_ (fun _ => ?_)
set_option maxHeartbeats 8000000 in
set_option maxRecDepth 100000 in
theorem truchmanlaw12_BlobStays.calls (k : Nat) (A0 : Option Addr) (c0 : Nat) (l0 : List Int) (a1 : Int) (A2 : Option Addr) (c2 : Nat) (l2 : List Int) (a3 : Int) (r : Bool) (w : World) (hr0 : Kd.C (Kd.int .u8) w A0 l0.length l0) (hc0 : l0.length ≤ c0) (hr2 : Kd.C (Kd.int .u8) w A2 l2.length l2) (hc2 : l2.length ≤ c2) (h : truchmanlaw12_BlobStays.f k l0 a1 l2 a3 = some r) :
    Calls Try.prog 6 #[.slice A0 l0.length c0, .int .i64 a1, .slice A2 l2.length c2, .int .i64 a3] w fun e w' => e = .returned (.bool r) ∧ Below w.heap.size w w' := by
  have HR0 := Aside0.mk hr0
  have HC0 := Aside0.mk hc0
  clear hr0 hc0
  have HR2 := Aside0.mk hr2
  have HC2 := Aside0.mk hc2
  clear hr2 hc2
  have HB := Aside0.mk (Below.refl w.heap.size w)
  have H : ((truchmanref01_Few.f l0 40).bind fun t191 => ((truchmanref01_Few.f l2 20).bind fun t194 => ((truchmanref01_Around.f a1 51).bind fun t197 => ((blob_Write.f k t191 t197 t194).bind fun bt198 => ((truchmanref01_Around.f a3 71).bind fun t202 => ((blob_Read.f bt198.1 t202 1).bind fun bt203 => (if t202 < (t191.length : Int) then (if 0 ≤ t202 then (if t202 ≤ (wrap64 (t202 + 1)) then (if (wrap64 (t202 + 1)) ≤ (t191.length : Int) then (truchmanlaw12_BlobStays.j0 k t191 t194 t197 bt198.2 t202 bt203.1 (strOfNums ((t191.take ((wrap64 (t202 + 1)) : Int).toNat).drop (t202 : Int).toNat))) else (none)) else (none)) else (none)) else (truchmanlaw12_BlobStays.j0 k t191 t194 t197 bt198.2 t202 bt203.1 (⟨#[]⟩ : ByteArray))))))))) = some r := h
  clear h
  replace H := Option.bind_eq_some_iff.mp H
  obtain ⟨t191, A50, H⟩ := H
  replace H : ((truchmanref01_Few.f l2 20).bind fun t194 => ((truchmanref01_Around.f a1 51).bind fun t197 => ((blob_Write.f k t191 t197 t194).bind fun bt198 => ((truchmanref01_Around.f a3 71).bind fun t202 => ((blob_Read.f bt198.1 t202 1).bind fun bt203 => (if t202 < (t191.length : Int) then (if 0 ≤ t202 then (if t202 ≤ (wrap64 (t202 + 1)) then (if (wrap64 (t202 + 1)) ≤ (t191.length : Int) then (truchmanlaw12_BlobStays.j0 k t191 t194 t197 bt198.2 t202 bt203.1 (strOfNums ((t191.take ((wrap64 (t202 + 1)) : Int).toNat).drop (t202 : Int).toNat))) else (none)) else (none)) else (none)) else (truchmanlaw12_BlobStays.j0 k t191 t194 t197 bt198.2 t202 bt203.1 (⟨#[]⟩ : ByteArray)))))))) = some r := H
  have A5 := Aside0.mk A50
  clear A50
  replace H := Option.bind_eq_some_iff.mp H
  obtain ⟨t194, A60, H⟩ := H
  replace H : ((truchmanref01_Around.f a1 51).bind fun t197 => ((blob_Write.f k t191 t197 t194).bind fun bt198 => ((truchmanref01_Around.f a3 71).bind fun t202 => ((blob_Read.f bt198.1 t202 1).bind fun bt203 => (if t202 < (t191.length : Int) then (if 0 ≤ t202 then (if t202 ≤ (wrap64 (t202 + 1)) then (if (wrap64 (t202 + 1)) ≤ (t191.length : Int) then (truchmanlaw12_BlobStays.j0 k t191 t194 t197 bt198.2 t202 bt203.1 (strOfNums ((t191.take ((wrap64 (t202 + 1)) : Int).toNat).drop (t202 : Int).toNat))) else (none)) else (none)) else (none)) else (truchmanlaw12_BlobStays.j0 k t191 t194 t197 bt198.2 t202 bt203.1 (⟨#[]⟩ : ByteArray))))))) = some r := H
  have A6 := Aside0.mk A60
  clear A60
  replace H := Option.bind_eq_some_iff.mp H
  obtain ⟨t197, A70, H⟩ := H
  replace H : ((blob_Write.f k t191 t197 t194).bind fun bt198 => ((truchmanref01_Around.f a3 71).bind fun t202 => ((blob_Read.f bt198.1 t202 1).bind fun bt203 => (if t202 < (t191.length : Int) then (if 0 ≤ t202 then (if t202 ≤ (wrap64 (t202 + 1)) then (if (wrap64 (t202 + 1)) ≤ (t191.length : Int) then (truchmanlaw12_BlobStays.j0 k t191 t194 t197 bt198.2 t202 bt203.1 (strOfNums ((t191.take ((wrap64 (t202 + 1)) : Int).toNat).drop (t202 : Int).toNat))) else (none)) else (none)) else (none)) else (truchmanlaw12_BlobStays.j0 k t191 t194 t197 bt198.2 t202 bt203.1 (⟨#[]⟩ : ByteArray)))))) = some r := H
  have A7 := Aside0.mk A70
  clear A70
  replace H := Option.bind_eq_some_iff.mp H
  obtain ⟨⟨t198, t199⟩, A80, H⟩ := H
  replace H : ((truchmanref01_Around.f a3 71).bind fun t202 => ((blob_Read.f t198 t202 1).bind fun bt203 => (if t202 < (t191.length : Int) then (if 0 ≤ t202 then (if t202 ≤ (wrap64 (t202 + 1)) then (if (wrap64 (t202 + 1)) ≤ (t191.length : Int) then (truchmanlaw12_BlobStays.j0 k t191 t194 t197 t199 t202 bt203.1 (strOfNums ((t191.take ((wrap64 (t202 + 1)) : Int).toNat).drop (t202 : Int).toNat))) else (none)) else (none)) else (none)) else (truchmanlaw12_BlobStays.j0 k t191 t194 t197 t199 t202 bt203.1 (⟨#[]⟩ : ByteArray))))) = some r := H
  have A8 := Aside0.mk A80
  clear A80
  replace H := Option.bind_eq_some_iff.mp H
  obtain ⟨t202, A90, H⟩ := H
  replace H : ((blob_Read.f t198 t202 1).bind fun bt203 => (if t202 < (t191.length : Int) then (if 0 ≤ t202 then (if t202 ≤ (wrap64 (t202 + 1)) then (if (wrap64 (t202 + 1)) ≤ (t191.length : Int) then (truchmanlaw12_BlobStays.j0 k t191 t194 t197 t199 t202 bt203.1 (strOfNums ((t191.take ((wrap64 (t202 + 1)) : Int).toNat).drop (t202 : Int).toNat))) else (none)) else (none)) else (none)) else (truchmanlaw12_BlobStays.j0 k t191 t194 t197 t199 t202 bt203.1 (⟨#[]⟩ : ByteArray)))) = some r := H
  have A9 := Aside0.mk A90
  clear A90
  replace H := Option.bind_eq_some_iff.mp H
  obtain ⟨⟨t203, t204⟩, A100, H⟩ := H
  replace H : (if t202 < (t191.length : Int) then (if 0 ≤ t202 then (if t202 ≤ (wrap64 (t202 + 1)) then (if (wrap64 (t202 + 1)) ≤ (t191.length : Int) then (truchmanlaw12_BlobStays.j0 k t191 t194 t197 t199 t202 t203 (strOfNums ((t191.take ((wrap64 (t202 + 1)) : Int).toNat).drop (t202 : Int).toNat))) else (none)) else (none)) else (none)) else (truchmanlaw12_BlobStays.j0 k t191 t194 t197 t199 t202 t203 (⟨#[]⟩ : ByteArray))) = some r := H
  have A10 := Aside0.mk A100
  clear A100
  have HC11 := Aside0.mk H
  clear H
  go_enter Try.func6, Try.ntmps6
  go_upto_if 42 with (first | ((with_reducible refine gate_callee (f := 10) rfl ?_); refine goesL_ (some 19) rfl rfl Try.func10 (by kernel_rfl) rfl #[.slice A0 l0.length c0, .int .i64 40] rfl (by (try simp only [List.map_toArray, List.map_cons, List.map_nil]); first | done | rfl | (simp only [List.length_drop, List.length_take]; rfl)) ?_; (with_reducible refine (truchmanref01_Few.calls _ _ l0 40 t191 _ ?side1 ?side2 A5.out).mono ?_); (case side1 => repeat (first | exact HR0.out | (with_reducible refine Kd.C_alloc ?_ _) | (with_reducible refine Kd.C_drewN ?_ _) | (with_reducible refine Kd.C_drew ?_))); (case side2 => exact HC0.out); rintro e w12 ⟨v192, rfl, ho0, hb⟩; refine ⟨_, rfl, ?_⟩; have n0_ := Aside0.mk (Kd.R_lower ho0 (below_size (by repeat (first | (with_reducible first | exact HB.out | apply below_alloc | apply pw_below_drewN | apply below_drew1) | exact HB.out)))); have n1_ := Aside0.mk (below_step (by repeat (first | (with_reducible first | exact HB.out | apply below_alloc | apply pw_below_drewN | apply below_drew1) | exact HB.out)) hb); clear HB; have HO193 := n0_; have HB := n1_; clear n0_ n1_; (try clear hb); (try clear hb2); (try clear hk); (try clear hi); (try clear ho0)) | ((with_reducible refine gate_callee (f := 10) rfl ?_); refine goesL_ (some 21) rfl rfl Try.func10 (by kernel_rfl) rfl #[.slice A2 l2.length c2, .int .i64 20] rfl (by (try simp only [List.map_toArray, List.map_cons, List.map_nil]); first | done | rfl | (simp only [List.length_drop, List.length_take]; rfl)) ?_; (with_reducible refine (truchmanref01_Few.calls _ _ l2 20 t194 _ ?side1 ?side2 A6.out).mono ?_); (case side1 => repeat (first | exact (Kd.C_below HR2.out HB.out) | (with_reducible refine Kd.C_alloc ?_ _) | (with_reducible refine Kd.C_drewN ?_ _) | (with_reducible refine Kd.C_drew ?_))); (case side2 => exact HC2.out); rintro e w13 ⟨v195, rfl, ho0, hb⟩; refine ⟨_, rfl, ?_⟩; have n0_ := Aside0.mk (Kd.R_elder' (by (with_reducible repeat (first | apply Kd.R_alloc | apply Kd.R_drewN | apply Kd.R_drew)); exact HO193.out) (Kd.R_base ho0) hb); have n1_ := Aside0.mk (Kd.R_lower (Kd.R_new' ho0 (Kd.R_lt (by (with_reducible repeat (first | apply Kd.R_alloc | apply Kd.R_drewN | apply Kd.R_drew)); exact HO193.out))) (below_size (by repeat (first | (with_reducible first | exact HB.out | apply below_alloc | apply pw_below_drewN | apply below_drew1) | exact HB.out)))); have n2_ := Aside0.mk (below_step (by repeat (first | (with_reducible first | exact HB.out | apply below_alloc | apply pw_below_drewN | apply below_drew1) | exact HB.out)) hb); clear HO193; clear HB; have HO193 := n0_; have HO196 := n1_; have HB := n2_; clear n0_ n1_ n2_; (try clear hb); (try clear hb2); (try clear hk); (try clear hi); (try clear ho0)) | ((with_reducible refine gate_callee (f := 12) rfl ?_); refine goesL_ (some 23) rfl rfl Try.func12 (by kernel_rfl) rfl #[.int .i64 a1, .int .i64 51] rfl (by (try simp only [List.map_toArray, List.map_cons, List.map_nil]); first | done | rfl | (simp only [List.length_drop, List.length_take]; rfl)) ?_; (with_reducible refine (truchmanref01_Around.calls a1 51 t197 _ A7.out).mono ?_); rintro e w' ⟨rfl, ⟨nd, rfl⟩⟩; refine ⟨_, rfl, ?_⟩; obtain ⟨Ao14, co14, eo14⟩ := Kd.R_slice HO193.out; subst eo14; obtain ⟨Ao15, co15, eo15⟩ := Kd.R_slice HO196.out; subst eo15) | ((with_reducible refine gate_callee (f := 13) rfl ?_); refine goesL_ (some 28) rfl rfl Try.func13 (by kernel_rfl) rfl #[.slice Ao14 t191.length co14, .int .i64 t197, .slice Ao15 t194.length co15] rfl (by (try simp only [List.map_toArray, List.map_cons, List.map_nil]); first | done | rfl | (simp only [List.length_drop, List.length_take]; rfl)) ?_; (with_reducible refine (blob_Write.calls k _ _ t191 t197 _ _ t194 t198 t199 _ ?side1 ?side2 ?side3 ?side4 A8.out).mono ?_); (case side1 => repeat (first | exact (Kd.R_reads' HO193.out).2.2 | (with_reducible refine Kd.C_alloc ?_ _) | (with_reducible refine Kd.C_drewN ?_ _) | (with_reducible refine Kd.C_drew ?_))); (case side2 => exact (Kd.R_reads' HO193.out).2.1); (case side3 => repeat (first | exact (Kd.R_reads' HO196.out).2.2 | (with_reducible refine Kd.C_alloc ?_ _) | (with_reducible refine Kd.C_drewN ?_ _) | (with_reducible refine Kd.C_drew ?_))); (case side4 => exact (Kd.R_reads' HO196.out).2.1); rintro e w16 ⟨v200, rfl, ho0, hb⟩; refine ⟨_, rfl, ?_⟩; have n0_ := Aside0.mk (Kd.R_elder' (by (with_reducible repeat (first | apply Kd.R_alloc | apply Kd.R_drewN | apply Kd.R_drew)); exact HO193.out) (Kd.R_base ho0) hb); have n1_ := Aside0.mk (Kd.R_elder' (by (with_reducible repeat (first | apply Kd.R_alloc | apply Kd.R_drewN | apply Kd.R_drew)); exact HO196.out) (Kd.R_base ho0) hb); have n2_ := Aside0.mk (Kd.R_lower (Kd.R_new' (Kd.R_new' ho0 (Kd.R_lt (by (with_reducible repeat (first | apply Kd.R_alloc | apply Kd.R_drewN | apply Kd.R_drew)); exact HO193.out))) (Kd.R_lt (by (with_reducible repeat (first | apply Kd.R_alloc | apply Kd.R_drewN | apply Kd.R_drew)); exact HO196.out))) (below_size (by repeat (first | (with_reducible first | exact HB.out | apply below_alloc | apply pw_below_drewN | apply below_drew1) | exact HB.out)))); have n3_ := Aside0.mk (below_step (by repeat (first | (with_reducible first | exact HB.out | apply below_alloc | apply pw_below_drewN | apply below_drew1) | exact HB.out)) hb); clear HO193; clear HO196; clear HB; have HO193 := n0_; have HO196 := n1_; have HO201 := n2_; have HB := n3_; clear n0_ n1_ n2_ n3_; (try clear hb); (try clear hb2); (try clear hk); (try clear hi); (try clear ho0)) | ((with_reducible refine gate_callee (f := 12) rfl ?_); refine goesL_ (some 32) rfl rfl Try.func12 (by kernel_rfl) rfl #[.int .i64 a3, .int .i64 71] rfl (by (try simp only [List.map_toArray, List.map_cons, List.map_nil]); first | done | rfl | (simp only [List.length_drop, List.length_take]; rfl)) ?_; (with_reducible refine (truchmanref01_Around.calls a3 71 t202 _ A9.out).mono ?_); rintro e w' ⟨rfl, ⟨nd, rfl⟩⟩; refine ⟨_, rfl, ?_⟩; obtain ⟨Ao17, co17, eo17⟩ := Kd.R_slice HO201.out; subst eo17) | ((with_reducible refine gate_callee (f := 16) rfl ?_); refine goesL_ (some 36) rfl rfl Try.func16 (by kernel_rfl) rfl #[.slice Ao17 t198.length co17, .int .i64 t202, .int .i64 1] rfl (by (try simp only [List.map_toArray, List.map_cons, List.map_nil]); first | done | rfl | (simp only [List.length_drop, List.length_take]; rfl)) ?_; (with_reducible refine (blob_Read.calls _ _ t198 t202 1 t203 t204 _ ?side1 ?side2 A10.out).mono ?_); (case side1 => repeat (first | exact (Kd.R_reads' HO201.out).2.2 | (with_reducible refine Kd.C_alloc ?_ _) | (with_reducible refine Kd.C_drewN ?_ _) | (with_reducible refine Kd.C_drew ?_))); (case side2 => exact (Kd.R_reads' HO201.out).2.1); rintro e w18 ⟨v205, rfl, ho0, hb⟩; refine ⟨_, rfl, ?_⟩; have n0_ := Aside0.mk (Kd.R_elder' (by (with_reducible repeat (first | apply Kd.R_alloc | apply Kd.R_drewN | apply Kd.R_drew)); exact HO193.out) (Kd.R_base ho0) hb); have n1_ := Aside0.mk (Kd.R_elder' (by (with_reducible repeat (first | apply Kd.R_alloc | apply Kd.R_drewN | apply Kd.R_drew)); exact HO196.out) (Kd.R_base ho0) hb); have n2_ := Aside0.mk (Kd.R_elder' (by (with_reducible repeat (first | apply Kd.R_alloc | apply Kd.R_drewN | apply Kd.R_drew)); exact HO201.out) (Kd.R_base ho0) hb); have n3_ := Aside0.mk (Kd.R_lower (Kd.R_new' (Kd.R_new' (Kd.R_new' ho0 (Kd.R_lt (by (with_reducible repeat (first | apply Kd.R_alloc | apply Kd.R_drewN | apply Kd.R_drew)); exact HO193.out))) (Kd.R_lt (by (with_reducible repeat (first | apply Kd.R_alloc | apply Kd.R_drewN | apply Kd.R_drew)); exact HO196.out))) (Kd.R_lt (by (with_reducible repeat (first | apply Kd.R_alloc | apply Kd.R_drewN | apply Kd.R_drew)); exact HO201.out))) (below_size (by repeat (first | (with_reducible first | exact HB.out | apply below_alloc | apply pw_below_drewN | apply below_drew1) | exact HB.out)))); have n4_ := Aside0.mk (below_step (by repeat (first | (with_reducible first | exact HB.out | apply below_alloc | apply pw_below_drewN | apply below_drew1) | exact HB.out)) hb); clear HO193; clear HO196; clear HO201; clear HB; have HO193 := n0_; have HO196 := n1_; have HO201 := n2_; have HO206 := n3_; have HB := n4_; clear n0_ n1_ n2_ n3_ n4_; (try clear hb); (try clear hb2); (try clear hk); (try clear hi); (try clear ho0)))
  (try simp only [Act.put, List.setIfInBounds_toArray, List.set_cons_zero, List.set_cons_succ])
  go_cut [17] (fun v17 wc => ∃ (kq : Nat) (x17_10 : ByteArray), v17 = .string x17_10 ∧ Aside0 (truchmanlaw12_BlobStays.j0 kq t191 t194 t197 t199 t202 t203 x17_10 = some r) ∧ Aside0 (kq ≤ k) ∧ Aside0 (Kd.R (Kd.int .u8) 5 wc w.heap.size (fun k_ => some k_ ≠ ((.slice Ao15 t194.length co15) : Value).ownBlock ∧ some k_ ≠ (v205 : Value).ownBlock) (.slice Ao14 t191.length co14) t191) ∧ Aside0 (Kd.R (Kd.int .u8) 5 wc w.heap.size (fun k_ => some k_ ≠ ((.slice Ao14 t191.length co14) : Value).ownBlock ∧ some k_ ≠ (v205 : Value).ownBlock) (.slice Ao15 t194.length co15) t194) ∧ Aside0 (Kd.R (Kd.int .u8) 5 wc w.heap.size (fun k_ => some k_ ≠ ((.slice Ao14 t191.length co14) : Value).ownBlock ∧ some k_ ≠ ((.slice Ao15 t194.length co15) : Value).ownBlock) v205 t203) ∧ Aside0 (Below w.heap.size w wc))
  case first =>
    have H := HC11.out
    clear HC11
    by_cases c19 : t202 < (t191.length : Int)
    · rw [if_pos c19] at H
      have c19b0 : decide (t202 < (t191.length : Int)) = true := decide_eq_true c19
      clear c19
      (first | rw [c19b0] | (simp only [i64_w, i32_w]; rw [c19b0]) | skip)
      by_cases c20 : 0 ≤ t202
      · rw [if_pos c20] at H
        have c20b0 := eq_true c20
        have c20b1 : decide (0 ≤ t202) = true := decide_eq_true c20
        clear c20
        by_cases c21 : t202 ≤ (wrap64 (t202 + 1))
        · rw [if_pos c21] at H
          have c21b0 := eq_true c21
          have c21b1 : decide (t202 ≤ (wrap64 (t202 + 1))) = true := decide_eq_true c21
          by_cases c22 : (wrap64 (t202 + 1)) ≤ (t191.length : Int)
          · rw [if_pos c22] at H
            have c22b0 := eq_true c22
            have c22b1 : decide ((wrap64 (t202 + 1)) ≤ (t191.length : Int)) = true := decide_eq_true c22
            obtain ⟨y207, hy207⟩ : ∃ y_ : List Int, y_ = ((t191.take ((wrap64 (t202 + 1)) : Int).toNat).drop (t202 : Int).toNat) := ⟨_, rfl⟩
            replace H : (truchmanlaw12_BlobStays.j0 k t191 t194 t197 t199 t202 t203 (strOfNums y207)) = some r := by first | (rw [hy207]; with_reducible exact H) | (have H2_ := (Option.bind_some _ _).symm.trans H; rw [hy207]; with_reducible exact H2_) | (have H2_ := (Option.bind_some _ _).symm.trans H; with_reducible exact H2_) | with_reducible exact H | (rw [hy207]; exact H) | exact H
            have Ny207 := Aside0.mk hy207
            clear hy207
            have H' := Aside0.mk H
            clear H
            have q23 : ((wrap64 (t202 + 1)) : Int) ≤ ((t191.length : Int) : Int) := of_decide_eq_true (by first | (with_reducible assumption) | assumption)
            obtain ⟨i023, hi023, _, hsz23, _⟩ := info_parts info5
            have hroom23 : t191.length ≤ co14 := (Kd.R_reads' HO193.out).2.1
            have hC23 : Kd.C (Kd.int .u8) _ Ao14 t191.length t191 := (Kd.R_reads' HO193.out).2.2
            have ql23 : (t202 : Int) ≤ ((wrap64 (t202 + 1)) : Int) := of_decide_eq_true (by first | (with_reducible assumption) | assumption)
            have q023 : (0 : Int) ≤ (t202 : Int) := of_decide_eq_true (by first | (with_reducible assumption) | assumption)
            have hcut23 := cut_mid (P := Try.prog) 22 5 .i64 .i64 Try.underlying22 hi023 1 hsz23 Ao14 t191.length co14 t202 (wrap64 (t202 + 1)) q023 ql23 q23 hroom23
            have hr23 := Kd.C_mid (lo := (t202 : Int).toNat) (hi := ((wrap64 (t202 + 1)) : Int).toNat) (c := co14) hC23 (by omega) (by omega) hroom23
            obtain ⟨A23, hA23⟩ : ∃ A1, A1 = (if co14 = (t202 : Int).toNat then Ao14 else (Ao14 : Option Addr).map (·.add ((t202 : Int).toNat * 1))) := ⟨_, rfl⟩
            obtain ⟨c23, hc23⟩ : ∃ c1, c1 = co14 - (t202 : Int).toNat := ⟨_, rfl⟩
            have hy23 : y207.length = ((wrap64 (t202 + 1)) : Int).toNat - (t202 : Int).toNat := (by rw [Ny207.out, List.length_drop, List.length_take] <;> omega)
            rw [show ((t191).take ((wrap64 (t202 + 1)) : Int).toNat).drop (t202 : Int).toNat = y207 from Ny207.out.symm] at hr23
            replace hr23 : Kd.C (Kd.int .u8) _ A23 y207.length y207 := (by rw [hA23]; exact hr23)
            rw [← hy23, ← hA23, ← hc23] at hcut23
            have HR210 := Aside0.mk hr23
            have HC210 := Aside0.mk (show y207.length ≤ c23 from by rw [hy23, hc23]; exact Nat.sub_le_sub_right (Nat.le_trans (by omega) hroom23) _)
            clear hr23 hC23 hroom23 hi023 hsz23 hc23
            have KY23 := Aside0.mk hy23
            have KA23 := Aside0.mk hA23
            clear hy23 hA23
            have KL23 := Aside0.mk (show ((wrap64 (t202 + 1)) : Int).toNat ≤ t191.length from by omega)
            have KM23 := Aside0.mk (show (t202 : Int).toNat ≤ ((wrap64 (t202 + 1)) : Int).toNat from by omega)
            replace q23 := eq_true q23
            have hcv24 := Kd.C_string (P := Try.prog) (A := A23) (c := c23) Try.underlying22 Try.underlying5 Try.underlying9 (by repeat (first | (with_reducible exact HR210.out) | (with_reducible refine Kd.C_alloc ?_ _) | (with_reducible refine Kd.C_drewN ?_ _) | (with_reducible refine Kd.C_drew ?_) | exact HR210.out))
            go_wp2
            go_meet
            case rel => exact ⟨_, (strOfNums y207), (by first | rfl | (simp; done) | (simp [*]; done)), H', ⟨by first | omega | exact Nat.le_refl _⟩, ⟨by (with_reducible repeat (first | apply Kd.R_alloc | apply Kd.R_drewN | apply Kd.R_drew)); exact Kd.R_mono HO193.out (fun _ hk => ⟨hk.1.1.2, hk.2⟩)⟩, ⟨by (with_reducible repeat (first | apply Kd.R_alloc | apply Kd.R_drewN | apply Kd.R_drew)); exact Kd.R_mono HO196.out (fun _ hk => ⟨hk.1.1.2, hk.2⟩)⟩, ⟨by (with_reducible repeat (first | apply Kd.R_alloc | apply Kd.R_drewN | apply Kd.R_drew)); exact Kd.R_mono HO206.out (fun _ hk => ⟨hk.1.1.2, hk.1.2⟩)⟩, ⟨by repeat (first | (with_reducible first | exact HB.out | apply below_alloc | apply pw_below_drewN | apply below_drew1) | exact HB.out)⟩⟩
          · rw [if_neg c22] at H
            exact absurd H (by simp)
        · rw [if_neg c21] at H
          exact absurd H (by simp)
      · rw [if_neg c20] at H
        exact absurd H (by simp)
    · rw [if_neg c19] at H
      have c19b0 : decide (t202 < (t191.length : Int)) = false := decide_eq_false c19
      clear c19
      (first | rw [c19b0] | (simp only [i64_w, i32_w]; rw [c19b0]) | skip)
      have H' := Aside0.mk H
      clear H
      go_wp2
      go_meet
      case rel => exact ⟨_, ((⟨#[]⟩ : ByteArray)), (by first | rfl | (simp; done) | (simp [*]; done)), H', ⟨by first | omega | exact Nat.le_refl _⟩, ⟨by (with_reducible repeat (first | apply Kd.R_alloc | apply Kd.R_drewN | apply Kd.R_drew)); exact Kd.R_mono HO193.out (fun _ hk => ⟨hk.1.1.2, hk.2⟩)⟩, ⟨by (with_reducible repeat (first | apply Kd.R_alloc | apply Kd.R_drewN | apply Kd.R_drew)); exact Kd.R_mono HO196.out (fun _ hk => ⟨hk.1.1.2, hk.2⟩)⟩, ⟨by (with_reducible repeat (first | apply Kd.R_alloc | apply Kd.R_drewN | apply Kd.R_drew)); exact Kd.R_mono HO206.out (fun _ hk => ⟨hk.1.1.2, hk.1.2⟩)⟩, ⟨by repeat (first | (with_reducible first | exact HB.out | apply below_alloc | apply pw_below_drewN | apply below_drew1) | exact HB.out)⟩⟩
  case rest =>
    clear HC11
    try clear c1
    try clear c2
    try clear p2
    try clear q2
    try clear hcv2
    try clear c6
    try clear p6
    try clear c10
    try clear c12
    try clear c13
    try clear c16
    try clear c19
    try clear c19b0
    try clear c20
    try clear c20b0
    try clear c20b1
    try clear c21
    try clear c21b0
    try clear c21b1
    try clear c22
    try clear c22b0
    try clear c22b1
    try clear c23
    try clear q23
    try clear hcv24
    try clear q023
    try clear q23
    obtain ⟨kq, x17_10, rfl, HA, HJ10, HO_9, HO_10, HO_15, HB⟩ := hcut
    cases kq with
    | zero => exact absurd HA.out (by simp [truchmanlaw12_BlobStays.j0])
    | succ kj10 =>
      have H := HA.out
      clear HA
      simp only [truchmanlaw12_BlobStays.j0] at H
      have HC25 := Aside0.mk H
      clear H
      go_upto_region 10 with (fail)
      go_cut [62] (fun v62 wc => ∃ (kq : Nat) (x62_24 : Bool), v62 = .bool x62_24 ∧ Aside0 (truchmanlaw12_BlobStays.j1 kq t194 t197 t199 t202 t203 x17_10 x62_24 = some r) ∧ Aside0 (kq ≤ kj10) ∧ Aside0 (Kd.R (Kd.int .u8) 5 wc w.heap.size (fun k_ => some k_ ≠ (v205 : Value).ownBlock) (.slice Ao15 t194.length co15) t194) ∧ Aside0 (Kd.R (Kd.int .u8) 5 wc w.heap.size (fun k_ => some k_ ≠ ((.slice Ao15 t194.length co15) : Value).ownBlock) v205 t203) ∧ Aside0 (Below w.heap.size w wc))
      case first =>
        have H := HC25.out
        clear HC25
        by_cases c26 : t202 ≥ (t191.length : Int)
        · rw [if_pos c26] at H
          have c26b0 : decide ((t191.length : Int) ≤ t202) = true := decide_eq_true c26
          clear c26
          (first | rw [c26b0] | (simp only [i64_w, i32_w]; rw [c26b0]) | skip)
          by_cases c27 : t202 < t197
          · rw [if_pos c27] at H
            have c27b0 : decide (t202 < t197) = true := decide_eq_true c27
            clear c27
            have H' := Aside0.mk H
            clear H
            go_wp2
            go_meet
            case rel => exact ⟨_, (decide ((t194.length : Int) > 0)), (by first | rfl | (simp; done) | (simp [*]; done)), H', ⟨by have := HJ10.out; first | omega | exact Nat.le_refl _⟩, ⟨by (with_reducible repeat (first | apply Kd.R_alloc | apply Kd.R_drewN | apply Kd.R_drew)); exact Kd.R_mono HO_10.out (fun _ hk => by first | exact hk.2 | exact hk.1 | exact hk.2 | exact hk.1.1 | exact hk.1.2 | exact hk.2.1 | exact hk.2.2 | exact hk)⟩, ⟨by (with_reducible repeat (first | apply Kd.R_alloc | apply Kd.R_drewN | apply Kd.R_drew)); exact Kd.R_mono HO_15.out (fun _ hk => by first | exact hk.2 | exact hk.1 | exact hk.2 | exact hk.1.1 | exact hk.1.2 | exact hk.2.1 | exact hk.2.2 | exact hk)⟩, ⟨by repeat (first | (with_reducible first | exact HB.out | apply below_alloc | apply pw_below_drewN | apply below_drew1) | exact HB.out)⟩⟩
          · rw [if_neg c27] at H
            have c27b0 : decide (t202 < t197) = false := decide_eq_false c27
            clear c27
            have H' := Aside0.mk H
            clear H
            go_wp2
            go_meet
            case rel => exact ⟨_, (false), (by first | rfl | (simp; done) | (simp [*]; done)), H', ⟨by have := HJ10.out; first | omega | exact Nat.le_refl _⟩, ⟨by (with_reducible repeat (first | apply Kd.R_alloc | apply Kd.R_drewN | apply Kd.R_drew)); exact Kd.R_mono HO_10.out (fun _ hk => by first | exact hk.2 | exact hk.1 | exact hk.2 | exact hk.1.1 | exact hk.1.2 | exact hk.2.1 | exact hk.2.2 | exact hk)⟩, ⟨by (with_reducible repeat (first | apply Kd.R_alloc | apply Kd.R_drewN | apply Kd.R_drew)); exact Kd.R_mono HO_15.out (fun _ hk => by first | exact hk.2 | exact hk.1 | exact hk.2 | exact hk.1.1 | exact hk.1.2 | exact hk.2.1 | exact hk.2.2 | exact hk)⟩, ⟨by repeat (first | (with_reducible first | exact HB.out | apply below_alloc | apply pw_below_drewN | apply below_drew1) | exact HB.out)⟩⟩
        · rw [if_neg c26] at H
          have c26b0 : decide ((t191.length : Int) ≤ t202) = false := decide_eq_false c26
          clear c26
          (first | rw [c26b0] | (simp only [i64_w, i32_w]; rw [c26b0]) | skip)
          have H' := Aside0.mk H
          clear H
          go_wp2
          go_meet
          case rel => exact ⟨_, (false), (by first | rfl | (simp; done) | (simp [*]; done)), H', ⟨by have := HJ10.out; first | omega | exact Nat.le_refl _⟩, ⟨by (with_reducible repeat (first | apply Kd.R_alloc | apply Kd.R_drewN | apply Kd.R_drew)); exact Kd.R_mono HO_10.out (fun _ hk => by first | exact hk.2 | exact hk.1 | exact hk.2 | exact hk.1.1 | exact hk.1.2 | exact hk.2.1 | exact hk.2.2 | exact hk)⟩, ⟨by (with_reducible repeat (first | apply Kd.R_alloc | apply Kd.R_drewN | apply Kd.R_drew)); exact Kd.R_mono HO_15.out (fun _ hk => by first | exact hk.2 | exact hk.1 | exact hk.2 | exact hk.1.1 | exact hk.1.2 | exact hk.2.1 | exact hk.2.2 | exact hk)⟩, ⟨by repeat (first | (with_reducible first | exact HB.out | apply below_alloc | apply pw_below_drewN | apply below_drew1) | exact HB.out)⟩⟩
      case rest =>
        clear HC25
        try clear c1
        try clear c2
        try clear p2
        try clear q2
        try clear hcv2
        try clear c6
        try clear p6
        try clear c10
        try clear c12
        try clear c13
        try clear c16
        try clear c19
        try clear c19b0
        try clear c20
        try clear c20b0
        try clear c20b1
        try clear c21
        try clear c21b0
        try clear c21b1
        try clear c22
        try clear c22b0
        try clear c22b1
        try clear c23
        try clear q23
        try clear hcv24
        try clear c26
        try clear c26b0
        try clear c27
        try clear c27b0
        try clear p2
        try clear p6
        try clear q023
        try clear q2
        try clear q23
        obtain ⟨kq, x62_24, rfl, HA, HJ24, HO_10, HO_15, HB⟩ := hcut
        cases kq with
        | zero => exact absurd HA.out (by simp [truchmanlaw12_BlobStays.j1])
        | succ kj24 =>
          have H := HA.out
          clear HA
          simp only [truchmanlaw12_BlobStays.j1] at H
          by_cases c28 : x62_24 = true
          · subst c28
            have H1 : (if t202 ≥ t197 then (if t202 < (wrap64 (t197 + (t194.length : Int))) then (if 0 ≤ (wrap64 (t202 - t197)) then (if (wrap64 (t202 - t197)) ≤ (wrap64 ((wrap64 (t202 - t197)) + 1)) then (if (wrap64 ((wrap64 (t202 - t197)) + 1)) ≤ (t194.length : Int) then (if t199 = 0 then (if (strOfNums t203).toList = (strOfNums ((t194.take ((wrap64 ((wrap64 (t202 - t197)) + 1)) : Int).toNat).drop ((wrap64 (t202 - t197)) : Int).toNat)).toList then ((truchmanlaw12_lives.f).bind fun t215 => (some t215)) else (some false)) else (some false)) else (none)) else (none)) else (none)) else (if t199 = 0 then (if (strOfNums t203).toList = ([0] : List UInt8) then ((truchmanlaw12_lives.f).bind fun t216 => (some t216)) else (some false)) else (some false))) else (if t199 = 0 then (if (strOfNums t203).toList = ([0] : List UInt8) then ((truchmanlaw12_lives.f).bind fun t217 => (some t217)) else (some false)) else (some false))) = some r := by rw [if_pos rfl] at H; exact H
            clear H
            have H := H1
            clear H1
            by_cases c29 : t202 ≥ t197
            · rw [if_pos c29] at H
              have c29b0 : decide (t197 ≤ t202) = true := decide_eq_true c29
              clear c29
              by_cases c30 : t202 < (wrap64 (t197 + (t194.length : Int)))
              · rw [if_pos c30] at H
                have c30b0 : decide (t202 < (wrap64 (t197 + (t194.length : Int)))) = true := decide_eq_true c30
                clear c30
                obtain ⟨ji31, hji31⟩ : ∃ j_ : Int, (wrap64 (t202 - t197)) = j_ := ⟨_, rfl⟩
                replace H : (if 0 ≤ (ji31) then (if (ji31) ≤ (wrap64 ((ji31) + 1)) then (if (wrap64 ((ji31) + 1)) ≤ (t194.length : Int) then (if t199 = 0 then (if (strOfNums t203).toList = (strOfNums ((t194.take ((wrap64 ((ji31) + 1)) : Int).toNat).drop ((ji31) : Int).toNat)).toList then ((truchmanlaw12_lives.f).bind fun t215 => (some t215)) else (some false)) else (some false)) else (none)) else (none)) else (none)) = some r := by first | (rw [hji31] at H; exact H) | (simp only [hji31] at H ⊢; exact H)
                have hji31w : (IntKind.i64.wrap (t202 - t197)) = ji31 := (i64_w _).trans hji31
                by_cases c32 : 0 ≤ (ji31)
                · rw [if_pos c32] at H
                  have c32b0 := eq_true c32
                  have c32b1 : decide (0 ≤ (ji31)) = true := decide_eq_true c32
                  clear c32
                  by_cases c33 : (ji31) ≤ (wrap64 ((ji31) + 1))
                  · rw [if_pos c33] at H
                    have c33b0 := eq_true c33
                    have c33b1 : decide ((ji31) ≤ (wrap64 ((ji31) + 1))) = true := decide_eq_true c33
                    by_cases c34 : (wrap64 ((ji31) + 1)) ≤ (t194.length : Int)
                    · rw [if_pos c34] at H
                      have c34b0 := eq_true c34
                      have c34b1 : decide ((wrap64 ((ji31) + 1)) ≤ (t194.length : Int)) = true := decide_eq_true c34
                      obtain ⟨y211, hy211⟩ : ∃ y_ : List Int, y_ = ((t194.take ((wrap64 ((ji31) + 1)) : Int).toNat).drop ((ji31) : Int).toNat) := ⟨_, rfl⟩
                      replace H : (if t199 = 0 then (if (strOfNums t203).toList = (strOfNums y211).toList then ((truchmanlaw12_lives.f).bind fun t215 => (some t215)) else (some false)) else (some false)) = some r := by first | (rw [hy211]; with_reducible exact H) | (have H2_ := (Option.bind_some _ _).symm.trans H; rw [hy211]; with_reducible exact H2_) | (have H2_ := (Option.bind_some _ _).symm.trans H; with_reducible exact H2_) | with_reducible exact H | (rw [hy211]; exact H) | exact H
                      have Ny211 := Aside0.mk hy211
                      clear hy211
                      by_cases c35 : t199 = 0
                      · rw [if_pos c35] at H
                        have c35b0 : (t199 == 0) = true := beq_iff_eq.mpr c35
                        have c35b1 : (t199 != 0) = false := bne_eq_false_iff_eq.mpr c35
                        clear c35
                        by_cases c36 : (strOfNums t203).toList = (strOfNums y211).toList
                        · rw [if_pos c36] at H
                          have c36b0 : ((strOfNums t203).toList == (strOfNums y211).toList) = true := beq_iff_eq.mpr c36
                          have c36b1 : ((strOfNums t203).toList != (strOfNums y211).toList) = false := bne_eq_false_iff_eq.mpr c36
                          clear c36
                          replace H := Option.bind_eq_some_iff.mp H
                          obtain ⟨t215, A370, H⟩ := H
                          replace H : (some t215) = some r := H
                          have A37 := Aside0.mk A370
                          clear A370
                          obtain rfl := Option.some.inj H
                          have q38 : ((wrap64 ((ji31) + 1)) : Int) ≤ ((t194.length : Int) : Int) := of_decide_eq_true (by first | (with_reducible assumption) | assumption)
                          obtain ⟨i038, hi038, _, hsz38, _⟩ := info_parts info5
                          have hroom38 : t194.length ≤ co15 := (Kd.R_reads' HO_10.out).2.1
                          have hC38 : Kd.C (Kd.int .u8) _ Ao15 t194.length t194 := (Kd.R_reads' HO_10.out).2.2
                          have ql38 : ((ji31) : Int) ≤ ((wrap64 ((ji31) + 1)) : Int) := of_decide_eq_true (by first | (with_reducible assumption) | assumption)
                          have q038 : (0 : Int) ≤ ((ji31) : Int) := of_decide_eq_true (by first | (with_reducible assumption) | assumption)
                          have hcut38 := cut_mid (P := Try.prog) 22 5 .i64 .i64 Try.underlying22 hi038 1 hsz38 Ao15 t194.length co15 (ji31) (wrap64 ((ji31) + 1)) q038 ql38 q38 hroom38
                          have hr38 := Kd.C_mid (lo := ((ji31) : Int).toNat) (hi := ((wrap64 ((ji31) + 1)) : Int).toNat) (c := co15) hC38 (by omega) (by omega) hroom38
                          obtain ⟨A38, hA38⟩ : ∃ A1, A1 = (if co15 = ((ji31) : Int).toNat then Ao15 else (Ao15 : Option Addr).map (·.add (((ji31) : Int).toNat * 1))) := ⟨_, rfl⟩
                          obtain ⟨c38, hc38⟩ : ∃ c1, c1 = co15 - ((ji31) : Int).toNat := ⟨_, rfl⟩
                          have hy38 : y211.length = ((wrap64 ((ji31) + 1)) : Int).toNat - ((ji31) : Int).toNat := (by rw [Ny211.out, List.length_drop, List.length_take] <;> omega)
                          rw [show ((t194).take ((wrap64 ((ji31) + 1)) : Int).toNat).drop ((ji31) : Int).toNat = y211 from Ny211.out.symm] at hr38
                          replace hr38 : Kd.C (Kd.int .u8) _ A38 y211.length y211 := (by rw [hA38]; exact hr38)
                          rw [← hy38, ← hA38, ← hc38] at hcut38
                          have HR214 := Aside0.mk hr38
                          have HC214 := Aside0.mk (show y211.length ≤ c38 from by rw [hy38, hc38]; exact Nat.sub_le_sub_right (Nat.le_trans (by omega) hroom38) _)
                          clear hr38 hC38 hroom38 hi038 hsz38 hc38
                          have KY38 := Aside0.mk hy38
                          have KA38 := Aside0.mk hA38
                          clear hy38 hA38
                          have KL38 := Aside0.mk (show ((wrap64 ((ji31) + 1)) : Int).toNat ≤ t194.length from by omega)
                          have KM38 := Aside0.mk (show ((ji31) : Int).toNat ≤ ((wrap64 ((ji31) + 1)) : Int).toNat from by omega)
                          replace q38 := eq_true q38
                          have hcv39 := Kd.C_string (P := Try.prog) (A := A38) (c := c38) Try.underlying22 Try.underlying5 Try.underlying9 (by repeat (first | (with_reducible exact HR214.out) | (with_reducible refine Kd.C_alloc ?_ _) | (with_reducible refine Kd.C_drewN ?_ _) | (with_reducible refine Kd.C_drew ?_) | exact HR214.out))
                          have hcv40 := own_string (P := Try.prog) Try.underlying22 Try.underlying5 Try.underlying9 (Kd.own_of_R HO_15.out)
                          go_wp2_with (first | (go_at_call 15; (with_reducible refine (truchmanlaw12_lives.calls  t215 _ A37.out).mono ?_); rintro e w41 ⟨rfl, hb⟩; have n0_ := Aside0.mk (Kd.R_below (by (with_reducible repeat (first | apply Kd.R_alloc | apply Kd.R_drewN | apply Kd.R_drew)); exact HO_10.out) hb); have n1_ := Aside0.mk (Kd.R_below (by (with_reducible repeat (first | apply Kd.R_alloc | apply Kd.R_drewN | apply Kd.R_drew)); exact HO_15.out) hb); have n2_ := Aside0.mk (Kd.C_below (by repeat (first | (with_reducible exact HR214.out) | (with_reducible refine Kd.C_alloc ?_ _) | (with_reducible refine Kd.C_drewN ?_ _) | (with_reducible refine Kd.C_drew ?_) | exact HR214.out)) hb); have n3_ := Aside0.mk (below_step (by repeat (first | (with_reducible first | exact HB.out | apply below_alloc | apply pw_below_drewN | apply below_drew1) | exact HB.out)) hb); clear HO_10; clear HO_15; clear HR214; clear HB; have HO_10 := n0_; have HO_15 := n1_; have HR214 := n2_; have HB := n3_; clear n0_ n1_ n2_ n3_; (try clear hb); (try clear hb2); (try clear hk); (try clear hi)))
                          go_ret
                          exact ⟨by first | rfl | (simp [errW_none, errW_some] <;> rfl) | (simp only [← hji31]; first | rfl | (simp [errW_none, errW_some] <;> rfl)) | (simp [*, errW_none, errW_some] <;> rfl), by repeat (first | (with_reducible first | exact HB.out | apply below_alloc | apply pw_below_drewN | apply below_drew1) | exact HB.out)⟩
                        · rw [if_neg c36] at H
                          have c36b0 : ((strOfNums t203).toList == (strOfNums y211).toList) = false := beq_eq_false_iff_ne.mpr c36
                          have c36b1 : ((strOfNums t203).toList != (strOfNums y211).toList) = true := bne_iff_ne.mpr c36
                          obtain rfl := Option.some.inj H
                          have q42 : ((wrap64 ((ji31) + 1)) : Int) ≤ ((t194.length : Int) : Int) := of_decide_eq_true (by first | (with_reducible assumption) | assumption)
                          obtain ⟨i042, hi042, _, hsz42, _⟩ := info_parts info5
                          have hroom42 : t194.length ≤ co15 := (Kd.R_reads' HO_10.out).2.1
                          have hC42 : Kd.C (Kd.int .u8) _ Ao15 t194.length t194 := (Kd.R_reads' HO_10.out).2.2
                          have ql42 : ((ji31) : Int) ≤ ((wrap64 ((ji31) + 1)) : Int) := of_decide_eq_true (by first | (with_reducible assumption) | assumption)
                          have q042 : (0 : Int) ≤ ((ji31) : Int) := of_decide_eq_true (by first | (with_reducible assumption) | assumption)
                          have hcut42 := cut_mid (P := Try.prog) 22 5 .i64 .i64 Try.underlying22 hi042 1 hsz42 Ao15 t194.length co15 (ji31) (wrap64 ((ji31) + 1)) q042 ql42 q42 hroom42
                          have hr42 := Kd.C_mid (lo := ((ji31) : Int).toNat) (hi := ((wrap64 ((ji31) + 1)) : Int).toNat) (c := co15) hC42 (by omega) (by omega) hroom42
                          obtain ⟨A42, hA42⟩ : ∃ A1, A1 = (if co15 = ((ji31) : Int).toNat then Ao15 else (Ao15 : Option Addr).map (·.add (((ji31) : Int).toNat * 1))) := ⟨_, rfl⟩
                          obtain ⟨c42, hc42⟩ : ∃ c1, c1 = co15 - ((ji31) : Int).toNat := ⟨_, rfl⟩
                          have hy42 : y211.length = ((wrap64 ((ji31) + 1)) : Int).toNat - ((ji31) : Int).toNat := (by rw [Ny211.out, List.length_drop, List.length_take] <;> omega)
                          rw [show ((t194).take ((wrap64 ((ji31) + 1)) : Int).toNat).drop ((ji31) : Int).toNat = y211 from Ny211.out.symm] at hr42
                          replace hr42 : Kd.C (Kd.int .u8) _ A42 y211.length y211 := (by rw [hA42]; exact hr42)
                          rw [← hy42, ← hA42, ← hc42] at hcut42
                          have HR214 := Aside0.mk hr42
                          have HC214 := Aside0.mk (show y211.length ≤ c42 from by rw [hy42, hc42]; exact Nat.sub_le_sub_right (Nat.le_trans (by omega) hroom42) _)
                          clear hr42 hC42 hroom42 hi042 hsz42 hc42
                          have KY42 := Aside0.mk hy42
                          have KA42 := Aside0.mk hA42
                          clear hy42 hA42
                          have KL42 := Aside0.mk (show ((wrap64 ((ji31) + 1)) : Int).toNat ≤ t194.length from by omega)
                          have KM42 := Aside0.mk (show ((ji31) : Int).toNat ≤ ((wrap64 ((ji31) + 1)) : Int).toNat from by omega)
                          replace q42 := eq_true q42
                          have hcv43 := Kd.C_string (P := Try.prog) (A := A42) (c := c42) Try.underlying22 Try.underlying5 Try.underlying9 (by repeat (first | (with_reducible exact HR214.out) | (with_reducible refine Kd.C_alloc ?_ _) | (with_reducible refine Kd.C_drewN ?_ _) | (with_reducible refine Kd.C_drew ?_) | exact HR214.out))
                          have hcv44 := own_string (P := Try.prog) Try.underlying22 Try.underlying5 Try.underlying9 (Kd.own_of_R HO_15.out)
                          go_wp2
                          go_ret
                          exact ⟨by first | rfl | (simp [errW_none, errW_some] <;> rfl) | (simp only [← hji31]; first | rfl | (simp [errW_none, errW_some] <;> rfl)) | (simp [*, errW_none, errW_some] <;> rfl), by repeat (first | (with_reducible first | exact HB.out | apply below_alloc | apply pw_below_drewN | apply below_drew1) | exact HB.out)⟩
                      · rw [if_neg c35] at H
                        have c35b0 : (t199 == 0) = false := beq_eq_false_iff_ne.mpr c35
                        have c35b1 : (t199 != 0) = true := bne_iff_ne.mpr c35
                        obtain rfl := Option.some.inj H
                        have q45 : ((wrap64 ((ji31) + 1)) : Int) ≤ ((t194.length : Int) : Int) := of_decide_eq_true (by first | (with_reducible assumption) | assumption)
                        obtain ⟨i045, hi045, _, hsz45, _⟩ := info_parts info5
                        have hroom45 : t194.length ≤ co15 := (Kd.R_reads' HO_10.out).2.1
                        have hC45 : Kd.C (Kd.int .u8) _ Ao15 t194.length t194 := (Kd.R_reads' HO_10.out).2.2
                        have ql45 : ((ji31) : Int) ≤ ((wrap64 ((ji31) + 1)) : Int) := of_decide_eq_true (by first | (with_reducible assumption) | assumption)
                        have q045 : (0 : Int) ≤ ((ji31) : Int) := of_decide_eq_true (by first | (with_reducible assumption) | assumption)
                        have hcut45 := cut_mid (P := Try.prog) 22 5 .i64 .i64 Try.underlying22 hi045 1 hsz45 Ao15 t194.length co15 (ji31) (wrap64 ((ji31) + 1)) q045 ql45 q45 hroom45
                        have hr45 := Kd.C_mid (lo := ((ji31) : Int).toNat) (hi := ((wrap64 ((ji31) + 1)) : Int).toNat) (c := co15) hC45 (by omega) (by omega) hroom45
                        obtain ⟨A45, hA45⟩ : ∃ A1, A1 = (if co15 = ((ji31) : Int).toNat then Ao15 else (Ao15 : Option Addr).map (·.add (((ji31) : Int).toNat * 1))) := ⟨_, rfl⟩
                        obtain ⟨c45, hc45⟩ : ∃ c1, c1 = co15 - ((ji31) : Int).toNat := ⟨_, rfl⟩
                        have hy45 : y211.length = ((wrap64 ((ji31) + 1)) : Int).toNat - ((ji31) : Int).toNat := (by rw [Ny211.out, List.length_drop, List.length_take] <;> omega)
                        rw [show ((t194).take ((wrap64 ((ji31) + 1)) : Int).toNat).drop ((ji31) : Int).toNat = y211 from Ny211.out.symm] at hr45
                        replace hr45 : Kd.C (Kd.int .u8) _ A45 y211.length y211 := (by rw [hA45]; exact hr45)
                        rw [← hy45, ← hA45, ← hc45] at hcut45
                        have HR214 := Aside0.mk hr45
                        have HC214 := Aside0.mk (show y211.length ≤ c45 from by rw [hy45, hc45]; exact Nat.sub_le_sub_right (Nat.le_trans (by omega) hroom45) _)
                        clear hr45 hC45 hroom45 hi045 hsz45 hc45
                        have KY45 := Aside0.mk hy45
                        have KA45 := Aside0.mk hA45
                        clear hy45 hA45
                        have KL45 := Aside0.mk (show ((wrap64 ((ji31) + 1)) : Int).toNat ≤ t194.length from by omega)
                        have KM45 := Aside0.mk (show ((ji31) : Int).toNat ≤ ((wrap64 ((ji31) + 1)) : Int).toNat from by omega)
                        replace q45 := eq_true q45
                        have hcv46 := Kd.C_string (P := Try.prog) (A := A45) (c := c45) Try.underlying22 Try.underlying5 Try.underlying9 (by repeat (first | (with_reducible exact HR214.out) | (with_reducible refine Kd.C_alloc ?_ _) | (with_reducible refine Kd.C_drewN ?_ _) | (with_reducible refine Kd.C_drew ?_) | exact HR214.out))
                        go_wp2
                        go_ret
                        exact ⟨by first | rfl | (simp [errW_none, errW_some] <;> rfl) | (simp only [← hji31]; first | rfl | (simp [errW_none, errW_some] <;> rfl)) | (simp [*, errW_none, errW_some] <;> rfl), by repeat (first | (with_reducible first | exact HB.out | apply below_alloc | apply pw_below_drewN | apply below_drew1) | exact HB.out)⟩
                    · rw [if_neg c34] at H
                      exact absurd H (by simp)
                  · rw [if_neg c33] at H
                    exact absurd H (by simp)
                · rw [if_neg c32] at H
                  exact absurd H (by simp)
              · rw [if_neg c30] at H
                have c30b0 : decide (t202 < (wrap64 (t197 + (t194.length : Int)))) = false := decide_eq_false c30
                clear c30
                by_cases c47 : t199 = 0
                · rw [if_pos c47] at H
                  have c47b0 : (t199 == 0) = true := beq_iff_eq.mpr c47
                  have c47b1 : (t199 != 0) = false := bne_eq_false_iff_eq.mpr c47
                  clear c47
                  by_cases c48 : (strOfNums t203).toList = ([0] : List UInt8)
                  · rw [if_pos c48] at H
                    have c48b0 : ((strOfNums t203).toList == ([0] : List UInt8)) = true := beq_iff_eq.mpr c48
                    have c48b1 : ((strOfNums t203).toList != ([0] : List UInt8)) = false := bne_eq_false_iff_eq.mpr c48
                    clear c48
                    replace H := Option.bind_eq_some_iff.mp H
                    obtain ⟨t216, A490, H⟩ := H
                    replace H : (some t216) = some r := H
                    have A49 := Aside0.mk A490
                    clear A490
                    obtain rfl := Option.some.inj H
                    have hcv50 := own_string (P := Try.prog) Try.underlying22 Try.underlying5 Try.underlying9 (Kd.own_of_R HO_15.out)
                    go_wp2_with (first | (go_at_call 15; (with_reducible refine (truchmanlaw12_lives.calls  t216 _ A49.out).mono ?_); rintro e w51 ⟨rfl, hb⟩; have n0_ := Aside0.mk (Kd.R_below (by (with_reducible repeat (first | apply Kd.R_alloc | apply Kd.R_drewN | apply Kd.R_drew)); exact HO_10.out) hb); have n1_ := Aside0.mk (Kd.R_below (by (with_reducible repeat (first | apply Kd.R_alloc | apply Kd.R_drewN | apply Kd.R_drew)); exact HO_15.out) hb); have n2_ := Aside0.mk (below_step (by repeat (first | (with_reducible first | exact HB.out | apply below_alloc | apply pw_below_drewN | apply below_drew1) | exact HB.out)) hb); clear HO_10; clear HO_15; clear HB; have HO_10 := n0_; have HO_15 := n1_; have HB := n2_; clear n0_ n1_ n2_; (try clear hb); (try clear hb2); (try clear hk); (try clear hi)))
                    go_ret
                    exact ⟨by first | rfl | (simp [errW_none, errW_some] <;> rfl) | (simp [*, errW_none, errW_some] <;> rfl), by repeat (first | (with_reducible first | exact HB.out | apply below_alloc | apply pw_below_drewN | apply below_drew1) | exact HB.out)⟩
                  · rw [if_neg c48] at H
                    have c48b0 : ((strOfNums t203).toList == ([0] : List UInt8)) = false := beq_eq_false_iff_ne.mpr c48
                    have c48b1 : ((strOfNums t203).toList != ([0] : List UInt8)) = true := bne_iff_ne.mpr c48
                    obtain rfl := Option.some.inj H
                    have hcv52 := own_string (P := Try.prog) Try.underlying22 Try.underlying5 Try.underlying9 (Kd.own_of_R HO_15.out)
                    go_wp2
                    go_ret
                    exact ⟨by first | rfl | (simp [errW_none, errW_some] <;> rfl) | (simp [*, errW_none, errW_some] <;> rfl), by repeat (first | (with_reducible first | exact HB.out | apply below_alloc | apply pw_below_drewN | apply below_drew1) | exact HB.out)⟩
                · rw [if_neg c47] at H
                  have c47b0 : (t199 == 0) = false := beq_eq_false_iff_ne.mpr c47
                  have c47b1 : (t199 != 0) = true := bne_iff_ne.mpr c47
                  obtain rfl := Option.some.inj H
                  go_wp2
                  go_ret
                  exact ⟨by first | rfl | (simp [errW_none, errW_some] <;> rfl) | (simp [*, errW_none, errW_some] <;> rfl), by repeat (first | (with_reducible first | exact HB.out | apply below_alloc | apply pw_below_drewN | apply below_drew1) | exact HB.out)⟩
            · rw [if_neg c29] at H
              have c29b0 : decide (t197 ≤ t202) = false := decide_eq_false c29
              clear c29
              by_cases c53 : t199 = 0
              · rw [if_pos c53] at H
                have c53b0 : (t199 == 0) = true := beq_iff_eq.mpr c53
                have c53b1 : (t199 != 0) = false := bne_eq_false_iff_eq.mpr c53
                clear c53
                by_cases c54 : (strOfNums t203).toList = ([0] : List UInt8)
                · rw [if_pos c54] at H
                  have c54b0 : ((strOfNums t203).toList == ([0] : List UInt8)) = true := beq_iff_eq.mpr c54
                  have c54b1 : ((strOfNums t203).toList != ([0] : List UInt8)) = false := bne_eq_false_iff_eq.mpr c54
                  clear c54
                  replace H := Option.bind_eq_some_iff.mp H
                  obtain ⟨t217, A550, H⟩ := H
                  replace H : (some t217) = some r := H
                  have A55 := Aside0.mk A550
                  clear A550
                  obtain rfl := Option.some.inj H
                  have hcv56 := own_string (P := Try.prog) Try.underlying22 Try.underlying5 Try.underlying9 (Kd.own_of_R HO_15.out)
                  go_wp2_with (first | (go_at_call 15; (with_reducible refine (truchmanlaw12_lives.calls  t217 _ A55.out).mono ?_); rintro e w57 ⟨rfl, hb⟩; have n0_ := Aside0.mk (Kd.R_below (by (with_reducible repeat (first | apply Kd.R_alloc | apply Kd.R_drewN | apply Kd.R_drew)); exact HO_10.out) hb); have n1_ := Aside0.mk (Kd.R_below (by (with_reducible repeat (first | apply Kd.R_alloc | apply Kd.R_drewN | apply Kd.R_drew)); exact HO_15.out) hb); have n2_ := Aside0.mk (below_step (by repeat (first | (with_reducible first | exact HB.out | apply below_alloc | apply pw_below_drewN | apply below_drew1) | exact HB.out)) hb); clear HO_10; clear HO_15; clear HB; have HO_10 := n0_; have HO_15 := n1_; have HB := n2_; clear n0_ n1_ n2_; (try clear hb); (try clear hb2); (try clear hk); (try clear hi)))
                  go_ret
                  exact ⟨by first | rfl | (simp [errW_none, errW_some] <;> rfl) | (simp [*, errW_none, errW_some] <;> rfl), by repeat (first | (with_reducible first | exact HB.out | apply below_alloc | apply pw_below_drewN | apply below_drew1) | exact HB.out)⟩
                · rw [if_neg c54] at H
                  have c54b0 : ((strOfNums t203).toList == ([0] : List UInt8)) = false := beq_eq_false_iff_ne.mpr c54
                  have c54b1 : ((strOfNums t203).toList != ([0] : List UInt8)) = true := bne_iff_ne.mpr c54
                  obtain rfl := Option.some.inj H
                  have hcv58 := own_string (P := Try.prog) Try.underlying22 Try.underlying5 Try.underlying9 (Kd.own_of_R HO_15.out)
                  go_wp2
                  go_ret
                  exact ⟨by first | rfl | (simp [errW_none, errW_some] <;> rfl) | (simp [*, errW_none, errW_some] <;> rfl), by repeat (first | (with_reducible first | exact HB.out | apply below_alloc | apply pw_below_drewN | apply below_drew1) | exact HB.out)⟩
              · rw [if_neg c53] at H
                have c53b0 : (t199 == 0) = false := beq_eq_false_iff_ne.mpr c53
                have c53b1 : (t199 != 0) = true := bne_iff_ne.mpr c53
                obtain rfl := Option.some.inj H
                go_wp2
                go_ret
                exact ⟨by first | rfl | (simp [errW_none, errW_some] <;> rfl) | (simp [*, errW_none, errW_some] <;> rfl), by repeat (first | (with_reducible first | exact HB.out | apply below_alloc | apply pw_below_drewN | apply below_drew1) | exact HB.out)⟩
          · replace c28 := Bool.eq_false_iff.mpr c28
            subst c28
            have H1 : (if t202 ≥ t197 then (if t202 < (wrap64 (t197 + (t194.length : Int))) then (if 0 ≤ (wrap64 (t202 - t197)) then (if (wrap64 (t202 - t197)) ≤ (wrap64 ((wrap64 (t202 - t197)) + 1)) then (if (wrap64 ((wrap64 (t202 - t197)) + 1)) ≤ (t194.length : Int) then (if t199 = 0 then (if (strOfNums t203).toList = (strOfNums ((t194.take ((wrap64 ((wrap64 (t202 - t197)) + 1)) : Int).toNat).drop ((wrap64 (t202 - t197)) : Int).toNat)).toList then ((truchmanlaw12_lives.f).bind fun t222 => (some t222)) else (some false)) else (some false)) else (none)) else (none)) else (none)) else (if t199 = 0 then (if (strOfNums t203).toList = x17_10.toList then ((truchmanlaw12_lives.f).bind fun t223 => (some t223)) else (some false)) else (some false))) else (if t199 = 0 then (if (strOfNums t203).toList = x17_10.toList then ((truchmanlaw12_lives.f).bind fun t224 => (some t224)) else (some false)) else (some false))) = some r := by rw [if_neg (show ¬ (false = true) by decide)] at H; exact H
            clear H
            have H := H1
            clear H1
            by_cases c59 : t202 ≥ t197
            · rw [if_pos c59] at H
              have c59b0 : decide (t197 ≤ t202) = true := decide_eq_true c59
              clear c59
              by_cases c60 : t202 < (wrap64 (t197 + (t194.length : Int)))
              · rw [if_pos c60] at H
                have c60b0 : decide (t202 < (wrap64 (t197 + (t194.length : Int)))) = true := decide_eq_true c60
                clear c60
                obtain ⟨ji61, hji61⟩ : ∃ j_ : Int, (wrap64 (t202 - t197)) = j_ := ⟨_, rfl⟩
                replace H : (if 0 ≤ (ji61) then (if (ji61) ≤ (wrap64 ((ji61) + 1)) then (if (wrap64 ((ji61) + 1)) ≤ (t194.length : Int) then (if t199 = 0 then (if (strOfNums t203).toList = (strOfNums ((t194.take ((wrap64 ((ji61) + 1)) : Int).toNat).drop ((ji61) : Int).toNat)).toList then ((truchmanlaw12_lives.f).bind fun t222 => (some t222)) else (some false)) else (some false)) else (none)) else (none)) else (none)) = some r := by first | (rw [hji61] at H; exact H) | (simp only [hji61] at H ⊢; exact H)
                have hji61w : (IntKind.i64.wrap (t202 - t197)) = ji61 := (i64_w _).trans hji61
                by_cases c62 : 0 ≤ (ji61)
                · rw [if_pos c62] at H
                  have c62b0 := eq_true c62
                  have c62b1 : decide (0 ≤ (ji61)) = true := decide_eq_true c62
                  clear c62
                  by_cases c63 : (ji61) ≤ (wrap64 ((ji61) + 1))
                  · rw [if_pos c63] at H
                    have c63b0 := eq_true c63
                    have c63b1 : decide ((ji61) ≤ (wrap64 ((ji61) + 1))) = true := decide_eq_true c63
                    by_cases c64 : (wrap64 ((ji61) + 1)) ≤ (t194.length : Int)
                    · rw [if_pos c64] at H
                      have c64b0 := eq_true c64
                      have c64b1 : decide ((wrap64 ((ji61) + 1)) ≤ (t194.length : Int)) = true := decide_eq_true c64
                      obtain ⟨y218, hy218⟩ : ∃ y_ : List Int, y_ = ((t194.take ((wrap64 ((ji61) + 1)) : Int).toNat).drop ((ji61) : Int).toNat) := ⟨_, rfl⟩
                      replace H : (if t199 = 0 then (if (strOfNums t203).toList = (strOfNums y218).toList then ((truchmanlaw12_lives.f).bind fun t222 => (some t222)) else (some false)) else (some false)) = some r := by first | (rw [hy218]; with_reducible exact H) | (have H2_ := (Option.bind_some _ _).symm.trans H; rw [hy218]; with_reducible exact H2_) | (have H2_ := (Option.bind_some _ _).symm.trans H; with_reducible exact H2_) | with_reducible exact H | (rw [hy218]; exact H) | exact H
                      have Ny218 := Aside0.mk hy218
                      clear hy218
                      by_cases c65 : t199 = 0
                      · rw [if_pos c65] at H
                        have c65b0 : (t199 == 0) = true := beq_iff_eq.mpr c65
                        have c65b1 : (t199 != 0) = false := bne_eq_false_iff_eq.mpr c65
                        clear c65
                        by_cases c66 : (strOfNums t203).toList = (strOfNums y218).toList
                        · rw [if_pos c66] at H
                          have c66b0 : ((strOfNums t203).toList == (strOfNums y218).toList) = true := beq_iff_eq.mpr c66
                          have c66b1 : ((strOfNums t203).toList != (strOfNums y218).toList) = false := bne_eq_false_iff_eq.mpr c66
                          clear c66
                          replace H := Option.bind_eq_some_iff.mp H
                          obtain ⟨t222, A670, H⟩ := H
                          replace H : (some t222) = some r := H
                          have A67 := Aside0.mk A670
                          clear A670
                          obtain rfl := Option.some.inj H
                          have q68 : ((wrap64 ((ji61) + 1)) : Int) ≤ ((t194.length : Int) : Int) := of_decide_eq_true (by first | (with_reducible assumption) | assumption)
                          obtain ⟨i068, hi068, _, hsz68, _⟩ := info_parts info5
                          have hroom68 : t194.length ≤ co15 := (Kd.R_reads' HO_10.out).2.1
                          have hC68 : Kd.C (Kd.int .u8) _ Ao15 t194.length t194 := (Kd.R_reads' HO_10.out).2.2
                          have ql68 : ((ji61) : Int) ≤ ((wrap64 ((ji61) + 1)) : Int) := of_decide_eq_true (by first | (with_reducible assumption) | assumption)
                          have q068 : (0 : Int) ≤ ((ji61) : Int) := of_decide_eq_true (by first | (with_reducible assumption) | assumption)
                          have hcut68 := cut_mid (P := Try.prog) 22 5 .i64 .i64 Try.underlying22 hi068 1 hsz68 Ao15 t194.length co15 (ji61) (wrap64 ((ji61) + 1)) q068 ql68 q68 hroom68
                          have hr68 := Kd.C_mid (lo := ((ji61) : Int).toNat) (hi := ((wrap64 ((ji61) + 1)) : Int).toNat) (c := co15) hC68 (by omega) (by omega) hroom68
                          obtain ⟨A68, hA68⟩ : ∃ A1, A1 = (if co15 = ((ji61) : Int).toNat then Ao15 else (Ao15 : Option Addr).map (·.add (((ji61) : Int).toNat * 1))) := ⟨_, rfl⟩
                          obtain ⟨c68, hc68⟩ : ∃ c1, c1 = co15 - ((ji61) : Int).toNat := ⟨_, rfl⟩
                          have hy68 : y218.length = ((wrap64 ((ji61) + 1)) : Int).toNat - ((ji61) : Int).toNat := (by rw [Ny218.out, List.length_drop, List.length_take] <;> omega)
                          rw [show ((t194).take ((wrap64 ((ji61) + 1)) : Int).toNat).drop ((ji61) : Int).toNat = y218 from Ny218.out.symm] at hr68
                          replace hr68 : Kd.C (Kd.int .u8) _ A68 y218.length y218 := (by rw [hA68]; exact hr68)
                          rw [← hy68, ← hA68, ← hc68] at hcut68
                          have HR221 := Aside0.mk hr68
                          have HC221 := Aside0.mk (show y218.length ≤ c68 from by rw [hy68, hc68]; exact Nat.sub_le_sub_right (Nat.le_trans (by omega) hroom68) _)
                          clear hr68 hC68 hroom68 hi068 hsz68 hc68
                          have KY68 := Aside0.mk hy68
                          have KA68 := Aside0.mk hA68
                          clear hy68 hA68
                          have KL68 := Aside0.mk (show ((wrap64 ((ji61) + 1)) : Int).toNat ≤ t194.length from by omega)
                          have KM68 := Aside0.mk (show ((ji61) : Int).toNat ≤ ((wrap64 ((ji61) + 1)) : Int).toNat from by omega)
                          replace q68 := eq_true q68
                          have hcv69 := Kd.C_string (P := Try.prog) (A := A68) (c := c68) Try.underlying22 Try.underlying5 Try.underlying9 (by repeat (first | (with_reducible exact HR221.out) | (with_reducible refine Kd.C_alloc ?_ _) | (with_reducible refine Kd.C_drewN ?_ _) | (with_reducible refine Kd.C_drew ?_) | exact HR221.out))
                          have hcv70 := own_string (P := Try.prog) Try.underlying22 Try.underlying5 Try.underlying9 (Kd.own_of_R HO_15.out)
                          go_wp2_with (first | (go_at_call 15; (with_reducible refine (truchmanlaw12_lives.calls  t222 _ A67.out).mono ?_); rintro e w71 ⟨rfl, hb⟩; have n0_ := Aside0.mk (Kd.R_below (by (with_reducible repeat (first | apply Kd.R_alloc | apply Kd.R_drewN | apply Kd.R_drew)); exact HO_10.out) hb); have n1_ := Aside0.mk (Kd.R_below (by (with_reducible repeat (first | apply Kd.R_alloc | apply Kd.R_drewN | apply Kd.R_drew)); exact HO_15.out) hb); have n2_ := Aside0.mk (Kd.C_below (by repeat (first | (with_reducible exact HR221.out) | (with_reducible refine Kd.C_alloc ?_ _) | (with_reducible refine Kd.C_drewN ?_ _) | (with_reducible refine Kd.C_drew ?_) | exact HR221.out)) hb); have n3_ := Aside0.mk (below_step (by repeat (first | (with_reducible first | exact HB.out | apply below_alloc | apply pw_below_drewN | apply below_drew1) | exact HB.out)) hb); clear HO_10; clear HO_15; clear HR221; clear HB; have HO_10 := n0_; have HO_15 := n1_; have HR221 := n2_; have HB := n3_; clear n0_ n1_ n2_ n3_; (try clear hb); (try clear hb2); (try clear hk); (try clear hi)))
                          go_ret
                          exact ⟨by first | rfl | (simp [errW_none, errW_some] <;> rfl) | (simp only [← hji61]; first | rfl | (simp [errW_none, errW_some] <;> rfl)) | (simp [*, errW_none, errW_some] <;> rfl), by repeat (first | (with_reducible first | exact HB.out | apply below_alloc | apply pw_below_drewN | apply below_drew1) | exact HB.out)⟩
                        · rw [if_neg c66] at H
                          have c66b0 : ((strOfNums t203).toList == (strOfNums y218).toList) = false := beq_eq_false_iff_ne.mpr c66
                          have c66b1 : ((strOfNums t203).toList != (strOfNums y218).toList) = true := bne_iff_ne.mpr c66
                          obtain rfl := Option.some.inj H
                          have q72 : ((wrap64 ((ji61) + 1)) : Int) ≤ ((t194.length : Int) : Int) := of_decide_eq_true (by first | (with_reducible assumption) | assumption)
                          obtain ⟨i072, hi072, _, hsz72, _⟩ := info_parts info5
                          have hroom72 : t194.length ≤ co15 := (Kd.R_reads' HO_10.out).2.1
                          have hC72 : Kd.C (Kd.int .u8) _ Ao15 t194.length t194 := (Kd.R_reads' HO_10.out).2.2
                          have ql72 : ((ji61) : Int) ≤ ((wrap64 ((ji61) + 1)) : Int) := of_decide_eq_true (by first | (with_reducible assumption) | assumption)
                          have q072 : (0 : Int) ≤ ((ji61) : Int) := of_decide_eq_true (by first | (with_reducible assumption) | assumption)
                          have hcut72 := cut_mid (P := Try.prog) 22 5 .i64 .i64 Try.underlying22 hi072 1 hsz72 Ao15 t194.length co15 (ji61) (wrap64 ((ji61) + 1)) q072 ql72 q72 hroom72
                          have hr72 := Kd.C_mid (lo := ((ji61) : Int).toNat) (hi := ((wrap64 ((ji61) + 1)) : Int).toNat) (c := co15) hC72 (by omega) (by omega) hroom72
                          obtain ⟨A72, hA72⟩ : ∃ A1, A1 = (if co15 = ((ji61) : Int).toNat then Ao15 else (Ao15 : Option Addr).map (·.add (((ji61) : Int).toNat * 1))) := ⟨_, rfl⟩
                          obtain ⟨c72, hc72⟩ : ∃ c1, c1 = co15 - ((ji61) : Int).toNat := ⟨_, rfl⟩
                          have hy72 : y218.length = ((wrap64 ((ji61) + 1)) : Int).toNat - ((ji61) : Int).toNat := (by rw [Ny218.out, List.length_drop, List.length_take] <;> omega)
                          rw [show ((t194).take ((wrap64 ((ji61) + 1)) : Int).toNat).drop ((ji61) : Int).toNat = y218 from Ny218.out.symm] at hr72
                          replace hr72 : Kd.C (Kd.int .u8) _ A72 y218.length y218 := (by rw [hA72]; exact hr72)
                          rw [← hy72, ← hA72, ← hc72] at hcut72
                          have HR221 := Aside0.mk hr72
                          have HC221 := Aside0.mk (show y218.length ≤ c72 from by rw [hy72, hc72]; exact Nat.sub_le_sub_right (Nat.le_trans (by omega) hroom72) _)
                          clear hr72 hC72 hroom72 hi072 hsz72 hc72
                          have KY72 := Aside0.mk hy72
                          have KA72 := Aside0.mk hA72
                          clear hy72 hA72
                          have KL72 := Aside0.mk (show ((wrap64 ((ji61) + 1)) : Int).toNat ≤ t194.length from by omega)
                          have KM72 := Aside0.mk (show ((ji61) : Int).toNat ≤ ((wrap64 ((ji61) + 1)) : Int).toNat from by omega)
                          replace q72 := eq_true q72
                          have hcv73 := Kd.C_string (P := Try.prog) (A := A72) (c := c72) Try.underlying22 Try.underlying5 Try.underlying9 (by repeat (first | (with_reducible exact HR221.out) | (with_reducible refine Kd.C_alloc ?_ _) | (with_reducible refine Kd.C_drewN ?_ _) | (with_reducible refine Kd.C_drew ?_) | exact HR221.out))
                          have hcv74 := own_string (P := Try.prog) Try.underlying22 Try.underlying5 Try.underlying9 (Kd.own_of_R HO_15.out)
                          go_wp2
                          go_ret
                          exact ⟨by first | rfl | (simp [errW_none, errW_some] <;> rfl) | (simp only [← hji61]; first | rfl | (simp [errW_none, errW_some] <;> rfl)) | (simp [*, errW_none, errW_some] <;> rfl), by repeat (first | (with_reducible first | exact HB.out | apply below_alloc | apply pw_below_drewN | apply below_drew1) | exact HB.out)⟩
                      · rw [if_neg c65] at H
                        have c65b0 : (t199 == 0) = false := beq_eq_false_iff_ne.mpr c65
                        have c65b1 : (t199 != 0) = true := bne_iff_ne.mpr c65
                        obtain rfl := Option.some.inj H
                        have q75 : ((wrap64 ((ji61) + 1)) : Int) ≤ ((t194.length : Int) : Int) := of_decide_eq_true (by first | (with_reducible assumption) | assumption)
                        obtain ⟨i075, hi075, _, hsz75, _⟩ := info_parts info5
                        have hroom75 : t194.length ≤ co15 := (Kd.R_reads' HO_10.out).2.1
                        have hC75 : Kd.C (Kd.int .u8) _ Ao15 t194.length t194 := (Kd.R_reads' HO_10.out).2.2
                        have ql75 : ((ji61) : Int) ≤ ((wrap64 ((ji61) + 1)) : Int) := of_decide_eq_true (by first | (with_reducible assumption) | assumption)
                        have q075 : (0 : Int) ≤ ((ji61) : Int) := of_decide_eq_true (by first | (with_reducible assumption) | assumption)
                        have hcut75 := cut_mid (P := Try.prog) 22 5 .i64 .i64 Try.underlying22 hi075 1 hsz75 Ao15 t194.length co15 (ji61) (wrap64 ((ji61) + 1)) q075 ql75 q75 hroom75
                        have hr75 := Kd.C_mid (lo := ((ji61) : Int).toNat) (hi := ((wrap64 ((ji61) + 1)) : Int).toNat) (c := co15) hC75 (by omega) (by omega) hroom75
                        obtain ⟨A75, hA75⟩ : ∃ A1, A1 = (if co15 = ((ji61) : Int).toNat then Ao15 else (Ao15 : Option Addr).map (·.add (((ji61) : Int).toNat * 1))) := ⟨_, rfl⟩
                        obtain ⟨c75, hc75⟩ : ∃ c1, c1 = co15 - ((ji61) : Int).toNat := ⟨_, rfl⟩
                        have hy75 : y218.length = ((wrap64 ((ji61) + 1)) : Int).toNat - ((ji61) : Int).toNat := (by rw [Ny218.out, List.length_drop, List.length_take] <;> omega)
                        rw [show ((t194).take ((wrap64 ((ji61) + 1)) : Int).toNat).drop ((ji61) : Int).toNat = y218 from Ny218.out.symm] at hr75
                        replace hr75 : Kd.C (Kd.int .u8) _ A75 y218.length y218 := (by rw [hA75]; exact hr75)
                        rw [← hy75, ← hA75, ← hc75] at hcut75
                        have HR221 := Aside0.mk hr75
                        have HC221 := Aside0.mk (show y218.length ≤ c75 from by rw [hy75, hc75]; exact Nat.sub_le_sub_right (Nat.le_trans (by omega) hroom75) _)
                        clear hr75 hC75 hroom75 hi075 hsz75 hc75
                        have KY75 := Aside0.mk hy75
                        have KA75 := Aside0.mk hA75
                        clear hy75 hA75
                        have KL75 := Aside0.mk (show ((wrap64 ((ji61) + 1)) : Int).toNat ≤ t194.length from by omega)
                        have KM75 := Aside0.mk (show ((ji61) : Int).toNat ≤ ((wrap64 ((ji61) + 1)) : Int).toNat from by omega)
                        replace q75 := eq_true q75
                        have hcv76 := Kd.C_string (P := Try.prog) (A := A75) (c := c75) Try.underlying22 Try.underlying5 Try.underlying9 (by repeat (first | (with_reducible exact HR221.out) | (with_reducible refine Kd.C_alloc ?_ _) | (with_reducible refine Kd.C_drewN ?_ _) | (with_reducible refine Kd.C_drew ?_) | exact HR221.out))
                        go_wp2
                        go_ret
                        exact ⟨by first | rfl | (simp [errW_none, errW_some] <;> rfl) | (simp only [← hji61]; first | rfl | (simp [errW_none, errW_some] <;> rfl)) | (simp [*, errW_none, errW_some] <;> rfl), by repeat (first | (with_reducible first | exact HB.out | apply below_alloc | apply pw_below_drewN | apply below_drew1) | exact HB.out)⟩
                    · rw [if_neg c64] at H
                      exact absurd H (by simp)
                  · rw [if_neg c63] at H
                    exact absurd H (by simp)
                · rw [if_neg c62] at H
                  exact absurd H (by simp)
              · rw [if_neg c60] at H
                have c60b0 : decide (t202 < (wrap64 (t197 + (t194.length : Int)))) = false := decide_eq_false c60
                clear c60
                by_cases c77 : t199 = 0
                · rw [if_pos c77] at H
                  have c77b0 : (t199 == 0) = true := beq_iff_eq.mpr c77
                  have c77b1 : (t199 != 0) = false := bne_eq_false_iff_eq.mpr c77
                  clear c77
                  by_cases c78 : (strOfNums t203).toList = x17_10.toList
                  · rw [if_pos c78] at H
                    have c78b0 : ((strOfNums t203).toList == x17_10.toList) = true := beq_iff_eq.mpr c78
                    have c78b1 : ((strOfNums t203).toList != x17_10.toList) = false := bne_eq_false_iff_eq.mpr c78
                    clear c78
                    replace H := Option.bind_eq_some_iff.mp H
                    obtain ⟨t223, A790, H⟩ := H
                    replace H : (some t223) = some r := H
                    have A79 := Aside0.mk A790
                    clear A790
                    obtain rfl := Option.some.inj H
                    have hcv80 := own_string (P := Try.prog) Try.underlying22 Try.underlying5 Try.underlying9 (Kd.own_of_R HO_15.out)
                    go_wp2_with (first | (go_at_call 15; (with_reducible refine (truchmanlaw12_lives.calls  t223 _ A79.out).mono ?_); rintro e w81 ⟨rfl, hb⟩; have n0_ := Aside0.mk (Kd.R_below (by (with_reducible repeat (first | apply Kd.R_alloc | apply Kd.R_drewN | apply Kd.R_drew)); exact HO_10.out) hb); have n1_ := Aside0.mk (Kd.R_below (by (with_reducible repeat (first | apply Kd.R_alloc | apply Kd.R_drewN | apply Kd.R_drew)); exact HO_15.out) hb); have n2_ := Aside0.mk (below_step (by repeat (first | (with_reducible first | exact HB.out | apply below_alloc | apply pw_below_drewN | apply below_drew1) | exact HB.out)) hb); clear HO_10; clear HO_15; clear HB; have HO_10 := n0_; have HO_15 := n1_; have HB := n2_; clear n0_ n1_ n2_; (try clear hb); (try clear hb2); (try clear hk); (try clear hi)))
                    go_ret
                    exact ⟨by first | rfl | (simp [errW_none, errW_some] <;> rfl) | (simp [*, errW_none, errW_some] <;> rfl), by repeat (first | (with_reducible first | exact HB.out | apply below_alloc | apply pw_below_drewN | apply below_drew1) | exact HB.out)⟩
                  · rw [if_neg c78] at H
                    have c78b0 : ((strOfNums t203).toList == x17_10.toList) = false := beq_eq_false_iff_ne.mpr c78
                    have c78b1 : ((strOfNums t203).toList != x17_10.toList) = true := bne_iff_ne.mpr c78
                    obtain rfl := Option.some.inj H
                    have hcv82 := own_string (P := Try.prog) Try.underlying22 Try.underlying5 Try.underlying9 (Kd.own_of_R HO_15.out)
                    go_wp2
                    go_ret
                    exact ⟨by first | rfl | (simp [errW_none, errW_some] <;> rfl) | (simp [*, errW_none, errW_some] <;> rfl), by repeat (first | (with_reducible first | exact HB.out | apply below_alloc | apply pw_below_drewN | apply below_drew1) | exact HB.out)⟩
                · rw [if_neg c77] at H
                  have c77b0 : (t199 == 0) = false := beq_eq_false_iff_ne.mpr c77
                  have c77b1 : (t199 != 0) = true := bne_iff_ne.mpr c77
                  obtain rfl := Option.some.inj H
                  go_wp2
                  go_ret
                  exact ⟨by first | rfl | (simp [errW_none, errW_some] <;> rfl) | (simp [*, errW_none, errW_some] <;> rfl), by repeat (first | (with_reducible first | exact HB.out | apply below_alloc | apply pw_below_drewN | apply below_drew1) | exact HB.out)⟩
            · rw [if_neg c59] at H
              have c59b0 : decide (t197 ≤ t202) = false := decide_eq_false c59
              clear c59
              by_cases c83 : t199 = 0
              · rw [if_pos c83] at H
                have c83b0 : (t199 == 0) = true := beq_iff_eq.mpr c83
                have c83b1 : (t199 != 0) = false := bne_eq_false_iff_eq.mpr c83
                clear c83
                by_cases c84 : (strOfNums t203).toList = x17_10.toList
                · rw [if_pos c84] at H
                  have c84b0 : ((strOfNums t203).toList == x17_10.toList) = true := beq_iff_eq.mpr c84
                  have c84b1 : ((strOfNums t203).toList != x17_10.toList) = false := bne_eq_false_iff_eq.mpr c84
                  clear c84
                  replace H := Option.bind_eq_some_iff.mp H
                  obtain ⟨t224, A850, H⟩ := H
                  replace H : (some t224) = some r := H
                  have A85 := Aside0.mk A850
                  clear A850
                  obtain rfl := Option.some.inj H
                  have hcv86 := own_string (P := Try.prog) Try.underlying22 Try.underlying5 Try.underlying9 (Kd.own_of_R HO_15.out)
                  go_wp2_with (first | (go_at_call 15; (with_reducible refine (truchmanlaw12_lives.calls  t224 _ A85.out).mono ?_); rintro e w87 ⟨rfl, hb⟩; have n0_ := Aside0.mk (Kd.R_below (by (with_reducible repeat (first | apply Kd.R_alloc | apply Kd.R_drewN | apply Kd.R_drew)); exact HO_10.out) hb); have n1_ := Aside0.mk (Kd.R_below (by (with_reducible repeat (first | apply Kd.R_alloc | apply Kd.R_drewN | apply Kd.R_drew)); exact HO_15.out) hb); have n2_ := Aside0.mk (below_step (by repeat (first | (with_reducible first | exact HB.out | apply below_alloc | apply pw_below_drewN | apply below_drew1) | exact HB.out)) hb); clear HO_10; clear HO_15; clear HB; have HO_10 := n0_; have HO_15 := n1_; have HB := n2_; clear n0_ n1_ n2_; (try clear hb); (try clear hb2); (try clear hk); (try clear hi)))
                  go_ret
                  exact ⟨by first | rfl | (simp [errW_none, errW_some] <;> rfl) | (simp [*, errW_none, errW_some] <;> rfl), by repeat (first | (with_reducible first | exact HB.out | apply below_alloc | apply pw_below_drewN | apply below_drew1) | exact HB.out)⟩
                · rw [if_neg c84] at H
                  have c84b0 : ((strOfNums t203).toList == x17_10.toList) = false := beq_eq_false_iff_ne.mpr c84
                  have c84b1 : ((strOfNums t203).toList != x17_10.toList) = true := bne_iff_ne.mpr c84
                  obtain rfl := Option.some.inj H
                  have hcv88 := own_string (P := Try.prog) Try.underlying22 Try.underlying5 Try.underlying9 (Kd.own_of_R HO_15.out)
                  go_wp2
                  go_ret
                  exact ⟨by first | rfl | (simp [errW_none, errW_some] <;> rfl) | (simp [*, errW_none, errW_some] <;> rfl), by repeat (first | (with_reducible first | exact HB.out | apply below_alloc | apply pw_below_drewN | apply below_drew1) | exact HB.out)⟩
              · rw [if_neg c83] at H
                have c83b0 : (t199 == 0) = false := beq_eq_false_iff_ne.mpr c83
                have c83b1 : (t199 != 0) = true := bne_iff_ne.mpr c83
                obtain rfl := Option.some.inj H
                go_wp2
                go_ret
                exact ⟨by first | rfl | (simp [errW_none, errW_some] <;> rfl) | (simp [*, errW_none, errW_some] <;> rfl), by repeat (first | (with_reducible first | exact HB.out | apply below_alloc | apply pw_below_drewN | apply below_drew1) | exact HB.out)⟩

/-- THE ONE PURE STATEMENT of truchmanlaw12_BlobStays: yours. -/
def truchmanlaw12_BlobStays.Pure : Prop := ∀ (l0 : List Int) (a1 : Int) (l2 : List Int) (a3 : Int), l0.length ≤ maxLen → l0.length * 1 ≤ 140737488351232 → (∀ x ∈ l0, (Lit.int .u8 x).wf = true) → (Lit.int .i64 a1).wf = true → l2.length ≤ maxLen → l2.length * 1 ≤ 140737488351232 → (∀ x ∈ l2, (Lit.int .u8 x).wf = true) → (Lit.int .i64 a3).wf = true → ∃ k, truchmanlaw12_BlobStays.f k l0 a1 l2 a3 = some true
theorem truchmanlaw12_BlobStays.walk (P : truchmanlaw12_BlobStays.Pure) (a0 : Option Addr) (len0 cap0 : Nat) (z0 : List Int) (a1 : Int) (a2 : Option Addr) (len2 cap2 : Nat) (z2 : List Int) (a3 : Int) (w : World) (w0 : (a0 = none ∧ len0 = 0 ∧ cap0 = 0 ∧ z0 = []) ∨ ∃ x, a0 = some x ∧ len0 ≤ cap0 ∧ cap0 ≤ maxLen ∧ z0.length = cap0 ∧ (∀ i, i < z0.length → w.cell? (x.add i) = some (.int .u8 (z0.getD i 0))) ∧ ∀ n ∈ z0, (Lit.int .u8 n).wf = true) (y0 : len0 * 1 ≤ 140737488351232) (w1 : (Lit.int .i64 a1).wf = true) (w2 : (a2 = none ∧ len2 = 0 ∧ cap2 = 0 ∧ z2 = []) ∨ ∃ x, a2 = some x ∧ len2 ≤ cap2 ∧ cap2 ≤ maxLen ∧ z2.length = cap2 ∧ (∀ i, i < z2.length → w.cell? (x.add i) = some (.int .u8 (z2.getD i 0))) ∧ ∀ n ∈ z2, (Lit.int .u8 n).wf = true) (y2 : len2 * 1 ≤ 140737488351232) (w3 : (Lit.int .i64 a3).wf = true) :
    Calls Try.prog 6 #[.slice a0 len0 cap0, .int .i64 a1, .slice a2 len2 cap2, .int .i64 a3] w fun e w' => e = .returned (.bool true) ∧ Below w.heap.size w w' := by
  obtain ⟨l0, rfl, hr0, hm0, hw0, hc0⟩ := ReadsInt.ofRowC w0
  obtain ⟨l2, rfl, hr2, hm2, hw2, hc2⟩ := ReadsInt.ofRowC w2
  obtain ⟨k, h⟩ := P l0 a1 l2 a3 hm0 y0 hw0 w1 hm2 y2 hw2 w3
  refine (truchmanlaw12_BlobStays.calls k _ _ l0 a1 _ _ l2 a3 true w (Kd.C_of_reads (d := (0 : Int)) (h1 := fun _ => rfl) hr0) hc0 (Kd.C_of_reads (d := (0 : Int)) (h1 := fun _ => rfl) hr2) hc2 h).mono ?_
  rintro e w' ⟨rfl, hd⟩
  exact ⟨rfl, hd⟩

/-! ### blob_Resize: function 18 -/
def blob_Resize.f (k : Nat) (l0 : List Int) (a1 : Int) : Option (List Int × Int) := if a1 > 2048 then (some (([] : List Int), 15)) else ((blob_grown.f k l0 a1).bind fun t225 => (if 0 ≤ a1 then (if a1 ≤ (t225.length : Int) then (some ((t225.take (a1 : Int).toNat), 0)) else (none)) else (none)))
theorem blob_Resize.mono : ∀ a0 a1 k, LeO (blob_Resize.f k a0 a1) (blob_Resize.f (k + 1) a0 a1) := by
  intro a0 a1 k
  unfold blob_Resize.f
  repeat' first
      | (with_reducible exact blob_grown.mono _ _ _)
      | (with_reducible exact LeO.refl _)
      | (with_reducible exact LeO.none _)
      | (with_reducible refine LeO.ite ?_ ?_)
      | (with_reducible refine LeO.bind ?_ (fun _ => ?_))
      | exact blob_grown.mono _ _ _
      | exact LeO.none _
      | refine LeO.ite ?_ ?_
      | refine LeO.bind ?_ (fun _ => ?_)
set_option maxHeartbeats 8000000 in
set_option maxRecDepth 100000 in
theorem blob_Resize.calls (k : Nat) (A0 : Option Addr) (c0 : Nat) (l0 : List Int) (a1 : Int) (r1 : List Int) (r2 : Int) (w : World) (hr0 : Kd.C (Kd.int .u8) w A0 l0.length l0) (hc0 : l0.length ≤ c0) (h : blob_Resize.f k l0 a1 = some (r1, r2)) :
    Calls Try.prog 18 #[.slice A0 l0.length c0, .int .i64 a1] w fun e w' => ∃ v0_ : Value, e = .returned (.tuple #[v0_, .int .i64 r2]) ∧ Kd.R (Kd.int .u8) 5 w' w.heap.size (fun _ => True) v0_ r1 ∧ Below w.heap.size w w' := by
  have HR0 := Aside0.mk hr0
  have HC0 := Aside0.mk hc0
  clear hr0 hc0
  have HB := Aside0.mk (Below.refl w.heap.size w)
  have H : (if a1 > 2048 then (some (([] : List Int), 15)) else ((blob_grown.f k l0 a1).bind fun t225 => (if 0 ≤ a1 then (if a1 ≤ (t225.length : Int) then (some ((t225.take (a1 : Int).toNat), 0)) else (none)) else (none)))) = some (r1, r2) := h
  clear h
  by_cases c3 : a1 > 2048
  · rw [if_pos c3] at H
    have c3b0 : decide (2048 < a1) = true := decide_eq_true c3
    clear c3
    simp only [Option.some.injEq, Prod.mk.injEq] at H
    obtain ⟨rfl, rfl⟩ := H
    go_enter Try.func18, Try.ntmps18
    go_wp2
    go_ret2
    exact ⟨_, by first | rfl | (simp [errW_none, errW_some] <;> rfl) | (simp [*, errW_none, errW_some] <;> rfl), by first | exact Kd.R_nil _ _ _ _ _ | exact Kd.N_nil _ _ _ _ _ | exact Kd.V_nil _ _ _ _ _ | exact Kd.Q_nil _ _ _ _ _ | exact Kd.S_nil _ _ _ _ _, by repeat (first | (with_reducible first | exact HB.out | apply below_alloc | apply pw_below_drewN | apply below_drew1) | exact HB.out)⟩
  · rw [if_neg c3] at H
    have c3b0 : decide (2048 < a1) = false := decide_eq_false c3
    clear c3
    replace H := Option.bind_eq_some_iff.mp H
    obtain ⟨t225, A40, H⟩ := H
    replace H : (if 0 ≤ a1 then (if a1 ≤ (t225.length : Int) then (some ((t225.take (a1 : Int).toNat), 0)) else (none)) else (none)) = some (r1, r2) := H
    have A4 := Aside0.mk A40
    clear A40
    by_cases c5 : 0 ≤ a1
    · rw [if_pos c5] at H
      have c5b0 := eq_true c5
      have c5b1 : decide (0 ≤ a1) = true := decide_eq_true c5
      clear c5
      by_cases c6 : a1 ≤ (t225.length : Int)
      · rw [if_pos c6] at H
        have c6b0 := eq_true c6
        have c6b1 : decide (a1 ≤ (t225.length : Int)) = true := decide_eq_true c6
        clear c6
        obtain ⟨y228, hy228⟩ : ∃ y_ : List Int, y_ = (t225.take (a1 : Int).toNat) := ⟨_, rfl⟩
        replace H : (some (y228, 0)) = some (r1, r2) := by first | (rw [hy228]; with_reducible exact H) | (have H2_ := (Option.bind_some _ _).symm.trans H; rw [hy228]; with_reducible exact H2_) | (have H2_ := (Option.bind_some _ _).symm.trans H; with_reducible exact H2_) | with_reducible exact H | (rw [hy228]; exact H) | exact H
        have Ny228 := Aside0.mk hy228
        clear hy228
        simp only [Option.some.injEq, Prod.mk.injEq] at H
        obtain ⟨rfl, rfl⟩ := H
        go_enter Try.func18, Try.ntmps18
        go_wp2_with (first | ((with_reducible refine gate_callee (f := 24) rfl ?_); refine goesL_ (some 10) rfl rfl Try.func24 (by kernel_rfl) rfl #[.slice A0 l0.length c0, .int .i64 a1] rfl (by (try simp only [List.map_toArray, List.map_cons, List.map_nil]); first | done | rfl | (simp only [List.length_drop, List.length_take]; rfl)) ?_; (with_reducible refine (blob_grown.calls k _ _ l0 a1 t225 _ ?side1 ?side2 A4.out).mono ?_); (case side1 => repeat (first | exact HR0.out | (with_reducible refine Kd.C_alloc ?_ _) | (with_reducible refine Kd.C_drewN ?_ _) | (with_reducible refine Kd.C_drew ?_))); (case side2 => exact HC0.out); rintro e w7 ⟨v226, rfl, ho0, hb⟩; refine ⟨_, rfl, ?_⟩; have n0_ := Aside0.mk (Kd.R_lower ho0 (below_size (by repeat (first | (with_reducible first | exact HB.out | apply below_alloc | apply pw_below_drewN | apply below_drew1) | exact HB.out)))); have n1_ := Aside0.mk (below_step (by repeat (first | (with_reducible first | exact HB.out | apply below_alloc | apply pw_below_drewN | apply below_drew1) | exact HB.out)) hb); clear HB; have HO227 := n0_; have HB := n1_; clear n0_ n1_; (try clear hb); (try clear hb2); (try clear hk); (try clear hi); (try clear ho0); obtain ⟨Ao8, co8, eo8⟩ := Kd.R_slice HO227.out; subst eo8; have q9 : (a1 : Int) ≤ ((t225.length : Int) : Int) := of_decide_eq_true (by first | (with_reducible assumption) | assumption); obtain ⟨i09, hi09, _, hsz9, _⟩ := info_parts info5; have hcut9 := cut_to (P := Try.prog) 22 5 .i64 Try.underlying22 hi09 Ao8 t225.length co8 a1 (of_decide_eq_true (by first | (with_reducible assumption) | assumption)) q9 (Kd.R_reads' HO227.out).2.1; have hr9 := Kd.R_take (m := (a1 : Int).toNat) HO227.out (by omega); have hy9 : y228.length = (a1 : Int).toNat := (by rw [Ny228.out, List.length_take]; omega); rw [← Ny228.out] at hr9; rw [← hy9] at hr9 hcut9; clear hy9 hi09 hsz9 HO227; have HO230 := Aside0.mk hr9; clear hr9; replace q9 := eq_true q9))
        go_ret2
        exact ⟨_, by first | rfl | (simp [errW_none, errW_some] <;> rfl) | (simp [*, errW_none, errW_some] <;> rfl), by (with_reducible repeat (first | apply Kd.R_alloc | apply Kd.R_drewN | apply Kd.R_drew)); exact HO230.out, by repeat (first | (with_reducible first | exact HB.out | apply below_alloc | apply pw_below_drewN | apply below_drew1) | exact HB.out)⟩
      · rw [if_neg c6] at H
        exact absurd H (by simp)
    · rw [if_neg c5] at H
      exact absurd H (by simp)

/-! ### truchmanref12_Resize: function 19, by hand -/
def truchmanref12_Resize.f (a0 : ByteArray) (a1 : Int) : Option (ByteArray × Int) :=
  if a1 > 2048 then some (⟨#[]⟩, 15) else if 0 ≤ a1 ∧ a0.size ≤ 1048576 then some (strOfNums ((bytesOf a0 ++ List.replicate (a1.toNat - a0.size) 0).take a1.toNat), 0) else none
set_option maxHeartbeats 1000000 in
theorem truchmanref12_Resize.calls (a0 : ByteArray) (a1 : Int) (r1 : ByteArray) (r2 : Int) (w : World) (h : truchmanref12_Resize.f a0 a1 = some (r1, r2)) :
    Calls Try.prog 19 #[.string a0, .int .i64 a1] w fun e w' => e = .returned (.tuple #[.string r1, .int .i64 r2]) ∧ Below w.heap.size w w' := by
  unfold truchmanref12_Resize.f at h
  by_cases c : a1 > 2048
  · rw [if_pos c] at h
    simp only [Option.some.injEq, Prod.mk.injEq] at h
    obtain ⟨rfl, rfl⟩ := h
    have cb : decide (2048 < a1) = true := decide_eq_true c
    clear c
    go_enter Try.func19, Try.ntmps19
    go_wp2
    go_ret2
    exact ⟨rfl, Below.refl _ _⟩
  · rw [if_neg c] at h
    by_cases c2 : 0 ≤ a1 ∧ a0.size ≤ 1048576
    · rw [if_pos c2] at h
      simp only [Option.some.injEq, Prod.mk.injEq] at h
      obtain ⟨rfl, rfl⟩ := h
      obtain ⟨h1, h2⟩ := c2
      have cb : decide (2048 < a1) = false := decide_eq_false c
      obtain ⟨v, w1, hr, HO, HB⟩ := OwnM.made (P := Try.prog) w w.heap.size (Nat.le_refl _) 9 22 a0 Try.underlying9 Try.underlying22 Try.underlying5 (by omega)
      obtain ⟨n, hn⟩ : ∃ n : Nat, a1 = (n : Int) := ⟨a1.toNat, by omega⟩
      subst hn
      have hn2 : n ≤ 2048 := by omega
      rw [Int.toNat_natCast]
      have hbl : (bytesOf a0).length = a0.size := by unfold bytesOf; simp
      have HO := Aside0.mk HO
      have HB := Aside0.mk HB
      have HN2 := Aside0.mk hn2
      have HBL := Aside0.mk hbl
      have H2 := Aside0.mk h2
      clear c hbl h1 hn2 h2
      go_enter Try.func19, Try.ntmps19
      go_wp2
      go_loopg [6] (n - a0.size) (fun gk v w' => ∃ xs : List Int, Aside0 (xs = bytesOf a0 ++ List.replicate (n - a0.size - gk) 0) ∧ Aside0 (gk ≤ n - a0.size) ∧ Aside0 (OwnM w' w.heap.size v xs) ∧ Aside0 (Below w.heap.size w w'))
      case atStart => exact ⟨_, ⟨by simp⟩, ⟨Nat.le_refl _⟩, HO, HB⟩
      case round =>
        clear HO HB
        obtain ⟨xs, HX, HG, HO, HB⟩ := hrel
        have hxl : xs.length = a0.size + (n - a0.size - gk) := by rw [HX.out, List.length_append, HBL.out, List.length_replicate]
        obtain ⟨g, cap, rfl, hg, hc, hm, hgl⟩ := HO.out.reads
        have HGG := Aside0.mk hg
        have HXL := Aside0.mk hxl
        have HCC := Aside0.mk hc
        have hm2 : xs.length ≤ 9223372036854775807 := by omega
        cases gk with
        | zero =>
          have ht : decide (xs.length < n) = false := decide_eq_false (by have := HXL.out; omega)
          have hcut : ∀ W : World, (Instr.slice 22 (.slice (some ⟨g, 0, none⟩) xs.length cap) none (some (.int .i64 (n : Int))) none).run Try.prog W = .ok (.slice (some ⟨g, 0, none⟩) n cap) W := cut_mark 22 Try.underlying22 info5 _ cap xs hc n (by omega)
          have hstr := HO.out.string Try.underlying22 Try.underlying5 Try.underlying9 n (by omega) g cap rfl
          have hfin : List.take n xs = List.take n (bytesOf a0 ++ List.replicate (n - a0.size) 0) := by rw [HX.out]; simp
          have HF := Aside0.mk hfin
          clear hg hc hm hgl hxl hfin
          go_wp2
          go_ret2
          exact ⟨by rw [HF.out]; rfl, HB.out⟩
        | succ k1 =>
          have ht : decide (xs.length < n) = true := decide_eq_true (by have := HXL.out; have := HG.out; omega)
          have hbs : w.heap.size ≤ wr.heap.size := HB.out.size
          have HBS := Aside0.mk hbs
          clear hg hc hm hgl hxl hbs
          go_wp2_with (first | ((with_reducible refine gate_builtin (b := .append) (xs := #[.tmp 15, .tmp 16]) rfl ?_); at_builtin; refine wpList_append_mark w.heap.size rfl (.tmp 15) (.tmp 16) 22 rfl Try.underlying22 info5 _ xs 0 rfl rfl HO.out HBS.out (by have := HXL.out; have := H2.out; have := HN2.out; omega) ?_; intro v1 w2 ho hb; have HO2 := Aside0.mk ho; have HB2 := Aside0.mk hb; clear ho hb))
          go_roundg k1
          case measure => omega
          case rel => exact ⟨xs ++ [0], ⟨by rw [HX.out, List.append_assoc]; congr 1; rw [← List.replicate_succ']; congr 1; have := HG.out; omega⟩, ⟨by have := HG.out; omega⟩, HO2, ⟨HB.out.trans HB2.out⟩⟩
    · rw [if_neg c2] at h; exact absurd h (by simp)

end Go.Proofs.Ytaipnchallmioaa.B
