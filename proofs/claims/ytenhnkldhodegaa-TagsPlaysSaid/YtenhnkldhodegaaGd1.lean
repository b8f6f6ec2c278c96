-- Printed for Ytenhnkldhodegaa by hprint.py, a program of this session over the kit's print.py, some functions taken from texts by hand.
import Derived.Test.YtenhnkldhodegaaGd0
namespace Go.Proofs.Ytenhnkldhodegaa.R
open Go.RowKit Go.Proofs.YtenhnkldhodegaaW.PrintWords Go.Proofs.YtenhnkldhodegaaW.PrintLast Go.Proofs.YtenhnkldhodegaaW.PrintMore
attribute [local go_sem] max2_int min2_int max_two min_two max_three min_three max_four min_four   -- for this text's walks alone
set_option linter.unusedVariables false
set_option linter.unusedSimpArgs false

abbrev bN := @blk_drewN
abbrev bD := @blk_drew
abbrev bA := @blk_alloc
abbrev bF := @cell_far
abbrev bS := @below_set
abbrev bC := @blk_cell
abbrev bZ := @blk_frozen
abbrev bL := @List.setIfInBounds_toArray
abbrev bO := @List.set_cons_zero
abbrev bU := @List.set_cons_succ
set_option maxHeartbeats 8000000 in
set_option maxRecDepth 100000 in
theorem truchmanref17_Good.calls (k : Nat) (xU : Int) (xS : Int) (xR : Int) (xQ : Int) (xO : Int) (xN : Int) (xL : Int) (xJ : Int) (xM : Int) (xK : Int) (xH : ByteArray) (yB : Option Addr) (yA : Nat) (xP : List ByteArray) (xI : Int) (xV : Option Addr) (xW : Nat) (xT : List Int) (r1 : Int) (r2 : Int) (r3 : Int) (r4 : Int) (r5 : Int) (r6 : Int) (r7 : Int) (r8 : Int) (r9 : Int) (r10 : Int) (r11 : ByteArray) (r12 : List ByteArray) (r13 : Int) (r14 : List Int) (w : World) (hr0_11 : Kd.C Kd.string w yB xP.length xP) (hc0_11 : xP.length ≤ yA) (hr0_13 : Kd.C (Kd.int .u8) w xV xT.length xT) (hc0_13 : xT.length ≤ xW) (h : truchmanref17_Good.f k xU xS xR xQ xO xN xL xJ xM xK xH xP xI xT = some (r1, r2, r3, r4, r5, r6, r7, r8, r9, r10, r11, r12, r13, r14)) :
  Calls Try.prog 12 #[.agg #[.int .i64 xU, .int .i64 xS, .int .i64 xR, .int .i64 xQ, .int .i64 xO, .int .i64 xN, .int .i64 xL, .int .i64 xJ, .int .i64 xM, .int .i64 xK, .string xH, .slice yB xP.length yA, .int .i64 xI, .slice xV xT.length xW]] w fun e w' => ∃ v11_ v13_ : Value, e = .returned (.agg #[.int .i64 r1, .int .i64 r2, .int .i64 r3, .int .i64 r4, .int .i64 r5, .int .i64 r6, .int .i64 r7, .int .i64 r8, .int .i64 r9, .int .i64 r10, .string r11, v11_, .int .i64 r13, v13_]) ∧ Kd.R Kd.string 9 w' w.heap.size (fun _ => True) v11_ r12 ∧ Kd.R (Kd.int .u8) 5 w' w.heap.size (fun _ => True) v13_ r14 ∧ Below w.heap.size w w' := by
 have hu32 := Try.underlying32
 have HR0_11 := Aside0.mk hr0_11
 have HC0_11 := Aside0.mk hc0_11
 clear hr0_11 hc0_11
 have HR0_13 := Aside0.mk hr0_13
 have HC0_13 := Aside0.mk hc0_13
 clear hr0_13 hc0_13
 have HB := Aside0.mk (Below.refl w.heap.size w)
 have H : ((truchmanref17_Kind.f xU).bind fun yE => ((truchmanref01_Around.f xS 65536).bind fun yF => ((truchmanref17_low.f xR).bind fun yI => ((truchmanref17_low.f xQ).bind fun yK => ((truchmanref01_Around.f xO 65536).bind fun yL => ((truchmanref17_low.f xN).bind fun yN => ((truchmanref01_Around.f xL 256).bind fun yP => ((truchmanref17_low.f xJ).bind fun yQ => ((truchmanref01_Around.f xM 4611686018427387905).bind fun yX => ((truchmanref17_low.f xK).bind fun yY => ((truchmanref17_low.f xI).bind fun yZ => ((truchmanref01_Short.f xH 40).bind fun zA => (truchmanref17_Good.l0 k 0 xU xS xR xQ xO xN xL xJ xM xK xH xP xI xT yE yF yI yK yL yN yP yQ yX yY zA ([] : List ByteArray) (wrap64 (yZ - 1))))))))))))))) = some (r1, r2, r3, r4, r5, r6, r7, r8, r9, r10, r11, r12, r13, r14) := h
 clear h
 replace H := Option.bind_eq_some_iff.mp H
 obtain ⟨yE, A20, H⟩ := H
 replace H : ((truchmanref01_Around.f xS 65536).bind fun yF => ((truchmanref17_low.f xR).bind fun yI => ((truchmanref17_low.f xQ).bind fun yK => ((truchmanref01_Around.f xO 65536).bind fun yL => ((truchmanref17_low.f xN).bind fun yN => ((truchmanref01_Around.f xL 256).bind fun yP => ((truchmanref17_low.f xJ).bind fun yQ => ((truchmanref01_Around.f xM 4611686018427387905).bind fun yX => ((truchmanref17_low.f xK).bind fun yY => ((truchmanref17_low.f xI).bind fun yZ => ((truchmanref01_Short.f xH 40).bind fun zA => (truchmanref17_Good.l0 k 0 xU xS xR xQ xO xN xL xJ xM xK xH xP xI xT yE yF yI yK yL yN yP yQ yX yY zA ([] : List ByteArray) (wrap64 (yZ - 1)))))))))))))) = some (r1, r2, r3, r4, r5, r6, r7, r8, r9, r10, r11, r12, r13, r14) := H
 have A2 := Aside0.mk A20
 clear A20
 replace H := Option.bind_eq_some_iff.mp H
 obtain ⟨yF, A30, H⟩ := H
 replace H : ((truchmanref17_low.f xR).bind fun yI => ((truchmanref17_low.f xQ).bind fun yK => ((truchmanref01_Around.f xO 65536).bind fun yL => ((truchmanref17_low.f xN).bind fun yN => ((truchmanref01_Around.f xL 256).bind fun yP => ((truchmanref17_low.f xJ).bind fun yQ => ((truchmanref01_Around.f xM 4611686018427387905).bind fun yX => ((truchmanref17_low.f xK).bind fun yY => ((truchmanref17_low.f xI).bind fun yZ => ((truchmanref01_Short.f xH 40).bind fun zA => (truchmanref17_Good.l0 k 0 xU xS xR xQ xO xN xL xJ xM xK xH xP xI xT yE yF yI yK yL yN yP yQ yX yY zA ([] : List ByteArray) (wrap64 (yZ - 1))))))))))))) = some (r1, r2, r3, r4, r5, r6, r7, r8, r9, r10, r11, r12, r13, r14) := H
 have A3 := Aside0.mk A30
 clear A30
 replace H := Option.bind_eq_some_iff.mp H
 obtain ⟨yI, A40, H⟩ := H
 replace H : ((truchmanref17_low.f xQ).bind fun yK => ((truchmanref01_Around.f xO 65536).bind fun yL => ((truchmanref17_low.f xN).bind fun yN => ((truchmanref01_Around.f xL 256).bind fun yP => ((truchmanref17_low.f xJ).bind fun yQ => ((truchmanref01_Around.f xM 4611686018427387905).bind fun yX => ((truchmanref17_low.f xK).bind fun yY => ((truchmanref17_low.f xI).bind fun yZ => ((truchmanref01_Short.f xH 40).bind fun zA => (truchmanref17_Good.l0 k 0 xU xS xR xQ xO xN xL xJ xM xK xH xP xI xT yE yF yI yK yL yN yP yQ yX yY zA ([] : List ByteArray) (wrap64 (yZ - 1)))))))))))) = some (r1, r2, r3, r4, r5, r6, r7, r8, r9, r10, r11, r12, r13, r14) := H
 have A4 := Aside0.mk A40
 clear A40
 replace H := Option.bind_eq_some_iff.mp H
 obtain ⟨yK, A50, H⟩ := H
 replace H : ((truchmanref01_Around.f xO 65536).bind fun yL => ((truchmanref17_low.f xN).bind fun yN => ((truchmanref01_Around.f xL 256).bind fun yP => ((truchmanref17_low.f xJ).bind fun yQ => ((truchmanref01_Around.f xM 4611686018427387905).bind fun yX => ((truchmanref17_low.f xK).bind fun yY => ((truchmanref17_low.f xI).bind fun yZ => ((truchmanref01_Short.f xH 40).bind fun zA => (truchmanref17_Good.l0 k 0 xU xS xR xQ xO xN xL xJ xM xK xH xP xI xT yE yF yI yK yL yN yP yQ yX yY zA ([] : List ByteArray) (wrap64 (yZ - 1))))))))))) = some (r1, r2, r3, r4, r5, r6, r7, r8, r9, r10, r11, r12, r13, r14) := H
 have A5 := Aside0.mk A50
 clear A50
 replace H := Option.bind_eq_some_iff.mp H
 obtain ⟨yL, A60, H⟩ := H
 replace H : ((truchmanref17_low.f xN).bind fun yN => ((truchmanref01_Around.f xL 256).bind fun yP => ((truchmanref17_low.f xJ).bind fun yQ => ((truchmanref01_Around.f xM 4611686018427387905).bind fun yX => ((truchmanref17_low.f xK).bind fun yY => ((truchmanref17_low.f xI).bind fun yZ => ((truchmanref01_Short.f xH 40).bind fun zA => (truchmanref17_Good.l0 k 0 xU xS xR xQ xO xN xL xJ xM xK xH xP xI xT yE yF yI yK yL yN yP yQ yX yY zA ([] : List ByteArray) (wrap64 (yZ - 1)))))))))) = some (r1, r2, r3, r4, r5, r6, r7, r8, r9, r10, r11, r12, r13, r14) := H
 have A6 := Aside0.mk A60
 clear A60
 replace H := Option.bind_eq_some_iff.mp H
 obtain ⟨yN, A70, H⟩ := H
 replace H : ((truchmanref01_Around.f xL 256).bind fun yP => ((truchmanref17_low.f xJ).bind fun yQ => ((truchmanref01_Around.f xM 4611686018427387905).bind fun yX => ((truchmanref17_low.f xK).bind fun yY => ((truchmanref17_low.f xI).bind fun yZ => ((truchmanref01_Short.f xH 40).bind fun zA => (truchmanref17_Good.l0 k 0 xU xS xR xQ xO xN xL xJ xM xK xH xP xI xT yE yF yI yK yL yN yP yQ yX yY zA ([] : List ByteArray) (wrap64 (yZ - 1))))))))) = some (r1, r2, r3, r4, r5, r6, r7, r8, r9, r10, r11, r12, r13, r14) := H
 have A7 := Aside0.mk A70
 clear A70
 replace H := Option.bind_eq_some_iff.mp H
 obtain ⟨yP, A80, H⟩ := H
 replace H : ((truchmanref17_low.f xJ).bind fun yQ => ((truchmanref01_Around.f xM 4611686018427387905).bind fun yX => ((truchmanref17_low.f xK).bind fun yY => ((truchmanref17_low.f xI).bind fun yZ => ((truchmanref01_Short.f xH 40).bind fun zA => (truchmanref17_Good.l0 k 0 xU xS xR xQ xO xN xL xJ xM xK xH xP xI xT yE yF yI yK yL yN yP yQ yX yY zA ([] : List ByteArray) (wrap64 (yZ - 1)))))))) = some (r1, r2, r3, r4, r5, r6, r7, r8, r9, r10, r11, r12, r13, r14) := H
 have A8 := Aside0.mk A80
 clear A80
 replace H := Option.bind_eq_some_iff.mp H
 obtain ⟨yQ, A90, H⟩ := H
 replace H : ((truchmanref01_Around.f xM 4611686018427387905).bind fun yX => ((truchmanref17_low.f xK).bind fun yY => ((truchmanref17_low.f xI).bind fun yZ => ((truchmanref01_Short.f xH 40).bind fun zA => (truchmanref17_Good.l0 k 0 xU xS xR xQ xO xN xL xJ xM xK xH xP xI xT yE yF yI yK yL yN yP yQ yX yY zA ([] : List ByteArray) (wrap64 (yZ - 1))))))) = some (r1, r2, r3, r4, r5, r6, r7, r8, r9, r10, r11, r12, r13, r14) := H
 have A9 := Aside0.mk A90
 clear A90
 replace H := Option.bind_eq_some_iff.mp H
 obtain ⟨yX, A100, H⟩ := H
 replace H : ((truchmanref17_low.f xK).bind fun yY => ((truchmanref17_low.f xI).bind fun yZ => ((truchmanref01_Short.f xH 40).bind fun zA => (truchmanref17_Good.l0 k 0 xU xS xR xQ xO xN xL xJ xM xK xH xP xI xT yE yF yI yK yL yN yP yQ yX yY zA ([] : List ByteArray) (wrap64 (yZ - 1)))))) = some (r1, r2, r3, r4, r5, r6, r7, r8, r9, r10, r11, r12, r13, r14) := H
 have A10 := Aside0.mk A100
 clear A100
 replace H := Option.bind_eq_some_iff.mp H
 obtain ⟨yY, A110, H⟩ := H
 replace H : ((truchmanref17_low.f xI).bind fun yZ => ((truchmanref01_Short.f xH 40).bind fun zA => (truchmanref17_Good.l0 k 0 xU xS xR xQ xO xN xL xJ xM xK xH xP xI xT yE yF yI yK yL yN yP yQ yX yY zA ([] : List ByteArray) (wrap64 (yZ - 1))))) = some (r1, r2, r3, r4, r5, r6, r7, r8, r9, r10, r11, r12, r13, r14) := H
 have A11 := Aside0.mk A110
 clear A110
 replace H := Option.bind_eq_some_iff.mp H
 obtain ⟨yZ, A120, H⟩ := H
 replace H : ((truchmanref01_Short.f xH 40).bind fun zA => (truchmanref17_Good.l0 k 0 xU xS xR xQ xO xN xL xJ xM xK xH xP xI xT yE yF yI yK yL yN yP yQ yX yY zA ([] : List ByteArray) (wrap64 (yZ - 1)))) = some (r1, r2, r3, r4, r5, r6, r7, r8, r9, r10, r11, r12, r13, r14) := H
 have A12 := Aside0.mk A120
 clear A120
 replace H := Option.bind_eq_some_iff.mp H
 obtain ⟨zA, A130, H⟩ := H
 replace H : (truchmanref17_Good.l0 k 0 xU xS xR xQ xO xN xL xJ xM xK xH xP xI xT yE yF yI yK yL yN yP yQ yX yY zA ([] : List ByteArray) (wrap64 (yZ - 1))) = some (r1, r2, r3, r4, r5, r6, r7, r8, r9, r10, r11, r12, r13, r14) := H
 have A13 := Aside0.mk A130
 clear A130
 have H' := Aside0.mk H
 clear H
 go_enter Try.func12, Try.ntmps12
 try go_wp2_with (first | ((with_reducible refine gate_dst (N := 1) rfl ?_); refine box_event ?hg (N := 1) ?hd (cs := #[.int .i64 xU, .int .i64 xS, .int .i64 xR, .int .i64 xQ, .int .i64 xO, .int .i64 xN, .int .i64 xL, .int .i64 xJ, .int .i64 xM, .int .i64 xK, .string xH, .slice yB xP.length yA, .int .i64 xI, .slice xV xT.length xW]) (t := 32) ?hr ?_; (case hd => rfl); (case hg => rfl); (case hr => first | (go_simp; done) | (go_simp; rfl)); intro xA hg w14 hbox hb; have xX := Aside0.mk (below_step (by repeat (first | (with_reducible first | exact HB.out | apply below_alloc | apply pw_below_drewN | apply below_drew1) | exact HB.out)) hb); have xY := Aside0.mk (hbox); have xZ := Aside0.mk ((by rw [hg]; exact (below_size (by repeat (first | (with_reducible first | exact HB.out | apply below_alloc | apply pw_below_drewN | apply below_drew1) | exact HB.out))) : w.heap.size ≤ xA)); have yC := Aside0.mk ((by rw [hg]; exact (below_size (by repeat (first | (with_reducible first | exact HB.out | apply below_alloc | apply pw_below_drewN | apply below_drew1) | exact HB.out))) : w.heap.size ≤ xA)); clear HB; have HB := xX; have xB := xY; have GW139 := xZ; have yJ := yC; clear xX xY xZ yC; clear hb hbox hg) | ((with_reducible refine gate_dst (N := 2) rfl ?_); refine box_event ?hg (N := 2) ?hd (cs := #[.int .i64 0, .int .i64 0, .int .i64 0, .int .i64 0, .int .i64 0, .int .i64 0, .int .i64 0, .int .i64 0, .int .i64 0, .int .i64 0, .string ⟨#[]⟩, .slice none 0 0, .int .i64 0, .slice none 0 0]) (t := 32) ?hr ?_; (case hd => rfl); (case hg => rfl); (case hr => first | (go_simp; done) | (go_simp; rfl)); intro xF hg w15 hbox hb; have xX := Aside0.mk (blk_below (g := xA) (o := .cells #[.int .i64 xU, .int .i64 xS, .int .i64 xR, .int .i64 xQ, .int .i64 xO, .int .i64 xN, .int .i64 xL, .int .i64 xJ, .int .i64 xM, .int .i64 xK, .string xH, .slice yB xP.length yA, .int .i64 xI, .slice xV xT.length xW] 32 (0, 0)) (by (with_reducible repeat (first | refine bN ?_ _ | refine bD ?_ | refine bA ?_ _)); exact xB.out) hb); have xY := Aside0.mk (below_step (by repeat (first | (with_reducible first | exact HB.out | apply below_alloc | apply pw_below_drewN | apply below_drew1 | refine bS ?_ yJ.out) | exact HB.out)) hb); have xZ := Aside0.mk (hbox); have yC := Aside0.mk ((by rw [hg]; exact (below_size (by repeat (first | (with_reducible first | exact HB.out | apply below_alloc | apply pw_below_drewN | apply below_drew1 | refine bS ?_ yJ.out) | exact HB.out))) : w.heap.size ≤ xF)); have yD := Aside0.mk ((by rw [hg]; exact (below_size (by repeat (first | (with_reducible first | exact HB.out | apply below_alloc | apply pw_below_drewN | apply below_drew1 | refine bS ?_ yJ.out) | exact HB.out))) : w.heap.size ≤ xF)); have yG := Aside0.mk ((by rw [hg]; exact Nat.ne_of_lt (blk_lt (g := xA) (o := .cells #[.int .i64 xU, .int .i64 xS, .int .i64 xR, .int .i64 xQ, .int .i64 xO, .int .i64 xN, .int .i64 xL, .int .i64 xJ, .int .i64 xM, .int .i64 xK, .string xH, .slice yB xP.length yA, .int .i64 xI, .slice xV xT.length xW] 32 (0, 0)) (by (with_reducible repeat (first | refine bN ?_ _ | refine bD ?_ | refine bA ?_ _)); exact xB.out)) : xA ≠ xF)); have yR := Aside0.mk ((by rw [hg]; exact Nat.ne_of_gt (blk_lt (g := xA) (o := .cells #[.int .i64 xU, .int .i64 xS, .int .i64 xR, .int .i64 xQ, .int .i64 xO, .int .i64 xN, .int .i64 xL, .int .i64 xJ, .int .i64 xM, .int .i64 xK, .string xH, .slice yB xP.length yA, .int .i64 xI, .slice xV xT.length xW] 32 (0, 0)) (by (with_reducible repeat (first | refine bN ?_ _ | refine bD ?_ | refine bA ?_ _)); exact xB.out)) : xF ≠ xA)); clear xB; clear HB; have xB := xX; have HB := xY; have xG := xZ; have GW140 := yC; have yM := yD; have NB139_140 := yG; have NB140_139 := yR; clear xX xY xZ yC yD yG yR; clear hb hbox hg))
 have xX := Aside0.mk (bD xB.out)
 have xY := Aside0.mk (bD xG.out)
 have xZ := Aside0.mk (below_drew1 HB.out)
 clear xB
 clear xG
 clear HB
 have xB := xX
 have xG := xY
 have HB := xZ
 clear xX xY xZ
 refine start_ (n := 27) (S := fun w' => w'.cell? ⟨xA, 0, none⟩ = some (.int .i64 xU) ∧ w'.cell? ⟨xA, 1, none⟩ = some (.int .i64 xS) ∧ w'.cell? ⟨xA, 2, none⟩ = some (.int .i64 xR) ∧ w'.cell? ⟨xA, 3, none⟩ = some (.int .i64 xQ) ∧ w'.cell? ⟨xA, 4, none⟩ = some (.int .i64 xO) ∧ w'.cell? ⟨xA, 5, none⟩ = some (.int .i64 xN) ∧ w'.cell? ⟨xA, 6, none⟩ = some (.int .i64 xL) ∧ w'.cell? ⟨xA, 7, none⟩ = some (.int .i64 xJ) ∧ w'.cell? ⟨xA, 8, none⟩ = some (.int .i64 xM) ∧ w'.cell? ⟨xA, 9, none⟩ = some (.int .i64 xK) ∧ w'.cell? ⟨xA, 10, none⟩ = some (.string xH) ∧ w'.cell? ⟨xA, 11, none⟩ = some (.slice yB xP.length yA) ∧ w'.cell? ⟨xA, 12, none⟩ = some (.int .i64 xI) ∧ w'.cell? ⟨xA, 13, none⟩ = some (.slice xV xT.length xW)) (ds := []) #[false, false, false, false, false, false, false, false, false, false, false, false, false, false, false, false, false, false, false, false, false, false, false, false, false, false, false] (by kernel_rfl) rfl rfl ⟨(bC xB.out 0).trans rfl, (bC xB.out 1).trans rfl, (bC xB.out 2).trans rfl, (bC xB.out 3).trans rfl, (bC xB.out 4).trans rfl, (bC xB.out 5).trans rfl, (bC xB.out 6).trans rfl, (bC xB.out 7).trans rfl, (bC xB.out 8).trans rfl, (bC xB.out 9).trans rfl, (bC xB.out 10).trans rfl, (bC xB.out 11).trans rfl, (bC xB.out 12).trans rfl, (bC xB.out 13).trans rfl⟩ (fun hHeld => ?_); refine with_tabW truchmanref17_Good.tab1 truchmanref17_Good.bits1 (fun HT_ HW_ => ?_)
 generalize w15.drew = w16 at xB xG HB hHeld ⊢
 refine pure_ (i := 0) (N := some 5) (v := ?_) (a' := ?_) #[true, false, false, false, false, false, false, false, false, false, false, false, false, false, false, false, false, false, false, false, false, false, false, false, false, false, false] rfl rfl (any_of HT_.out (by kernel_rfl)) (fun _ _ _ h => h) (Or.inl ⟨by rfl, ?_⟩) ?_ ?_
 rotate_left
 ·intro w'
  go_simp
  with_reducible rfl
 rotate_left
 ·simp only [Act.put, bL, bO, bU, i64_w, i32_w]
  rfl
 refine pure_ (i := 3) (N := some 8) (v := ?_) (a' := ?_) #[true, false, false, true, false, false, false, false, false, false, false, false, false, false, false, false, false, false, false, false, false, false, false, false, false, false, false] rfl rfl (any_of HT_.out (by kernel_rfl)) (fun _ _ _ h => h) (Or.inl ⟨by rfl, ?_⟩) ?_ ?_
 rotate_left
 ·intro w'
  go_simp
  with_reducible rfl
 rotate_left
 ·simp only [Act.put, bL, bO, bU, i64_w, i32_w]
  rfl
 refine pure_ (i := 6) (N := some 11) (v := ?_) (a' := ?_) #[true, false, false, true, false, false, true, false, false, false, false, false, false, false, false, false, false, false, false, false, false, false, false, false, false, false, false] rfl rfl (any_of HT_.out (by kernel_rfl)) (fun _ _ _ h => h) (Or.inl ⟨by rfl, ?_⟩) ?_ ?_
 rotate_left
 ·intro w'
  go_simp
  with_reducible rfl
 rotate_left
 ·simp only [Act.put, bL, bO, bU, i64_w, i32_w]
  rfl
 refine pure_ (i := 9) (N := some 14) (v := ?_) (a' := ?_) #[true, false, false, true, false, false, true, false, false, true, false, false, false, false, false, false, false, false, false, false, false, false, false, false, false, false, false] rfl rfl (any_of HT_.out (by kernel_rfl)) (fun _ _ _ h => h) (Or.inl ⟨by rfl, ?_⟩) ?_ ?_
 rotate_left
 ·intro w'
  go_simp
  with_reducible rfl
 rotate_left
 ·simp only [Act.put, bL, bO, bU, i64_w, i32_w]
  rfl
 refine pure_ (i := 12) (N := some 17) (v := ?_) (a' := ?_) #[true, false, false, true, false, false, true, false, false, true, false, false, true, false, false, false, false, false, false, false, false, false, false, false, false, false, false] rfl rfl (any_of HT_.out (by kernel_rfl)) (fun _ _ _ h => h) (Or.inl ⟨by rfl, ?_⟩) ?_ ?_
 rotate_left
 ·intro w'
  go_simp
  with_reducible rfl
 rotate_left
 ·simp only [Act.put, bL, bO, bU, i64_w, i32_w]
  rfl
 refine pure_ (i := 15) (N := some 20) (v := ?_) (a' := ?_) #[true, false, false, true, false, false, true, false, false, true, false, false, true, false, false, true, false, false, false, false, false, false, false, false, false, false, false] rfl rfl (any_of HT_.out (by kernel_rfl)) (fun _ _ _ h => h) (Or.inl ⟨by rfl, ?_⟩) ?_ ?_
 rotate_left
 ·intro w'
  go_simp
  with_reducible rfl
 rotate_left
 ·simp only [Act.put, bL, bO, bU, i64_w, i32_w]
  rfl
 refine pure_ (i := 18) (N := some 23) (v := ?_) (a' := ?_) #[true, false, false, true, false, false, true, false, false, true, false, false, true, false, false, true, false, false, true, false, false, false, false, false, false, false, false] rfl rfl (any_of HT_.out (by kernel_rfl)) (fun _ _ _ h => h) (Or.inl ⟨by rfl, ?_⟩) ?_ ?_
 rotate_left
 ·intro w'
  go_simp
  with_reducible rfl
 rotate_left
 ·simp only [Act.put, bL, bO, bU, i64_w, i32_w]
  rfl
 refine pure_ (i := 21) (N := some 26) (v := ?_) (a' := ?_) #[true, false, false, true, false, false, true, false, false, true, false, false, true, false, false, true, false, false, true, false, false, true, false, false, false, false, false] rfl rfl (any_of HT_.out (by kernel_rfl)) (fun _ _ _ h => h) (Or.inl ⟨by rfl, ?_⟩) ?_ ?_
 rotate_left
 ·intro w'
  go_simp
  with_reducible rfl
 rotate_left
 ·simp only [Act.put, bL, bO, bU, i64_w, i32_w]
  rfl
 refine take_ (i := 1) (N := some 6) (v := ?_) (a' := ?_) #[true, true, false, true, false, false, true, false, false, true, false, false, true, false, false, true, false, false, true, false, false, true, false, false, false, false, false] rfl rfl (take_ofW HT_.out HW_.out (by kernel_rfl)) (fun _ _ _ h => h) (Or.inl ⟨by rfl, ?_⟩) hHeld ?_ ?_
 rotate_left
 ·rintro w' ⟨s0, s1, s2, s3, s4, s5, s6, s7, s8, s9, s10, s11, s12, s13⟩
  go_simp
  with_reducible rfl
 rotate_left
 ·simp only [Act.put, bL, bO, bU, i64_w, i32_w]
  rfl
 refine take_ (i := 4) (N := some 9) (v := ?_) (a' := ?_) #[true, true, false, true, true, false, true, false, false, true, false, false, true, false, false, true, false, false, true, false, false, true, false, false, false, false, false] rfl rfl (take_ofW HT_.out HW_.out (by kernel_rfl)) (fun _ _ _ h => h) (Or.inl ⟨by rfl, ?_⟩) hHeld ?_ ?_
 rotate_left
 ·rintro w' ⟨s0, s1, s2, s3, s4, s5, s6, s7, s8, s9, s10, s11, s12, s13⟩
  go_simp
  with_reducible rfl
 rotate_left
 ·simp only [Act.put, bL, bO, bU, i64_w, i32_w]
  rfl
 refine take_ (i := 7) (N := some 12) (v := ?_) (a' := ?_) #[true, true, false, true, true, false, true, true, false, true, false, false, true, false, false, true, false, false, true, false, false, true, false, false, false, false, false] rfl rfl (take_ofW HT_.out HW_.out (by kernel_rfl)) (fun _ _ _ h => h) (Or.inl ⟨by rfl, ?_⟩) hHeld ?_ ?_
 rotate_left
 ·rintro w' ⟨s0, s1, s2, s3, s4, s5, s6, s7, s8, s9, s10, s11, s12, s13⟩
  go_simp
  with_reducible rfl
 rotate_left
 ·simp only [Act.put, bL, bO, bU, i64_w, i32_w]
  rfl
 refine take_ (i := 10) (N := some 15) (v := ?_) (a' := ?_) #[true, true, false, true, true, false, true, true, false, true, true, false, true, false, false, true, false, false, true, false, false, true, false, false, false, false, false] rfl rfl (take_ofW HT_.out HW_.out (by kernel_rfl)) (fun _ _ _ h => h) (Or.inl ⟨by rfl, ?_⟩) hHeld ?_ ?_
 rotate_left
 ·rintro w' ⟨s0, s1, s2, s3, s4, s5, s6, s7, s8, s9, s10, s11, s12, s13⟩
  go_simp
  with_reducible rfl
 rotate_left
 ·simp only [Act.put, bL, bO, bU, i64_w, i32_w]
  rfl
 refine take_ (i := 13) (N := some 18) (v := ?_) (a' := ?_) #[true, true, false, true, true, false, true, true, false, true, true, false, true, true, false, true, false, false, true, false, false, true, false, false, false, false, false] rfl rfl (take_ofW HT_.out HW_.out (by kernel_rfl)) (fun _ _ _ h => h) (Or.inl ⟨by rfl, ?_⟩) hHeld ?_ ?_
 rotate_left
 ·rintro w' ⟨s0, s1, s2, s3, s4, s5, s6, s7, s8, s9, s10, s11, s12, s13⟩
  go_simp
  with_reducible rfl
 rotate_left
 ·simp only [Act.put, bL, bO, bU, i64_w, i32_w]
  rfl
 refine take_ (i := 16) (N := some 21) (v := ?_) (a' := ?_) #[true, true, false, true, true, false, true, true, false, true, true, false, true, true, false, true, true, false, true, false, false, true, false, false, false, false, false] rfl rfl (take_ofW HT_.out HW_.out (by kernel_rfl)) (fun _ _ _ h => h) (Or.inl ⟨by rfl, ?_⟩) hHeld ?_ ?_
 rotate_left
 ·rintro w' ⟨s0, s1, s2, s3, s4, s5, s6, s7, s8, s9, s10, s11, s12, s13⟩
  go_simp
  with_reducible rfl
 rotate_left
 ·simp only [Act.put, bL, bO, bU, i64_w, i32_w]
  rfl
 refine take_ (i := 19) (N := some 24) (v := ?_) (a' := ?_) #[true, true, false, true, true, false, true, true, false, true, true, false, true, true, false, true, true, false, true, true, false, true, false, false, false, false, false] rfl rfl (take_ofW HT_.out HW_.out (by kernel_rfl)) (fun _ _ _ h => h) (Or.inl ⟨by rfl, ?_⟩) hHeld ?_ ?_
 rotate_left
 ·rintro w' ⟨s0, s1, s2, s3, s4, s5, s6, s7, s8, s9, s10, s11, s12, s13⟩
  go_simp
  with_reducible rfl
 rotate_left
 ·simp only [Act.put, bL, bO, bU, i64_w, i32_w]
  rfl
 refine take_ (i := 22) (N := some 27) (v := ?_) (a' := ?_) #[true, true, false, true, true, false, true, true, false, true, true, false, true, true, false, true, true, false, true, true, false, true, true, false, false, false, false] rfl rfl (take_ofW HT_.out HW_.out (by kernel_rfl)) (fun _ _ _ h => h) (Or.inl ⟨by rfl, ?_⟩) hHeld ?_ ?_
 rotate_left
 ·rintro w' ⟨s0, s1, s2, s3, s4, s5, s6, s7, s8, s9, s10, s11, s12, s13⟩
  go_simp
  with_reducible rfl
 rotate_left
 ·simp only [Act.put, bL, bO, bU, i64_w, i32_w]
  rfl
 refine join_ (σ := Nat) 1 #[true, true, true, true, true, true, true, true, true, true, true, true, true, true, true, true, true, true, true, true, true, true, true, true, true, true, false] (fun s_ => [(7, .int .i64 yE), (10, .int .i64 yF), (13, .int .i64 yI), (16, .int .i64 yK), (19, .int .i64 yL), (22, .int .i64 yN), (25, .int .i64 yP), (28, .int .i64 yQ), (3, .pointer (some ⟨s_, 0, none⟩)), (29, .agg #[.int .i64 yE, .int .i64 yF, .int .i64 yI, .int .i64 yK, .int .i64 yL, .int .i64 yN, .int .i64 yP, .int .i64 yQ, .int .i64 0, .int .i64 0, .string ⟨#[]⟩, .slice none 0 0, .int .i64 0, .slice none 0 0])]) (fun s_ w' => (w'.cell? ⟨xA, 0, none⟩ = some (.int .i64 xU) ∧ w'.cell? ⟨xA, 1, none⟩ = some (.int .i64 xS) ∧ w'.cell? ⟨xA, 2, none⟩ = some (.int .i64 xR) ∧ w'.cell? ⟨xA, 3, none⟩ = some (.int .i64 xQ) ∧ w'.cell? ⟨xA, 4, none⟩ = some (.int .i64 xO) ∧ w'.cell? ⟨xA, 5, none⟩ = some (.int .i64 xN) ∧ w'.cell? ⟨xA, 6, none⟩ = some (.int .i64 xL) ∧ w'.cell? ⟨xA, 7, none⟩ = some (.int .i64 xJ) ∧ w'.cell? ⟨xA, 8, none⟩ = some (.int .i64 xM) ∧ w'.cell? ⟨xA, 9, none⟩ = some (.int .i64 xK) ∧ w'.cell? ⟨xA, 10, none⟩ = some (.string xH) ∧ w'.cell? ⟨xA, 11, none⟩ = some (.slice yB xP.length yA) ∧ w'.cell? ⟨xA, 12, none⟩ = some (.int .i64 xI) ∧ w'.cell? ⟨xA, 13, none⟩ = some (.slice xV xT.length xW)) ∧ (w'.heap[xA]? = some (.cells #[.int .i64 xU, .int .i64 xS, .int .i64 xR, .int .i64 xQ, .int .i64 xO, .int .i64 xN, .int .i64 xL, .int .i64 xJ, .int .i64 xM, .int .i64 xK, .string xH, .slice yB xP.length yA, .int .i64 xI, .slice xV xT.length xW] 32 (0, 0))) ∧ (w'.heap[xF]? = some (.cells #[.int .i64 0, .int .i64 0, .int .i64 0, .int .i64 0, .int .i64 0, .int .i64 0, .int .i64 0, .int .i64 0, .int .i64 0, .int .i64 0, .string ⟨#[]⟩, .slice none 0 0, .int .i64 0, .slice none 0 0] 32 (0, 0))) ∧ (w'.heap[s_]? = some (.cells #[.int .i64 0, .int .i64 0, .int .i64 0, .int .i64 0, .int .i64 0, .int .i64 0, .int .i64 0, .int .i64 0, .int .i64 0, .int .i64 0, .string ⟨#[]⟩, .slice none 0 0, .int .i64 0, .slice none 0 0] 32 (0, 0))) ∧ (w.heap.size ≤ s_) ∧ (w.heap.size ≤ s_) ∧ (xA ≠ s_) ∧ (s_ ≠ xA) ∧ (xF ≠ s_) ∧ (s_ ≠ xF) ∧ (Below w.heap.size w w')) ?_ ?_
 rotate_left
 ·intro hJ2_5_8_11_14_17_20_23_25
  refine join_ (σ := Unit) 2 #[true, true, true, true, true, true, true, true, true, true, true, true, true, true, true, true, true, true, true, true, true, true, true, true, true, false, false] (fun s_ => [(7, .int .i64 yE), (10, .int .i64 yF), (13, .int .i64 yI), (16, .int .i64 yK), (19, .int .i64 yL), (22, .int .i64 yN), (25, .int .i64 yP), (28, .int .i64 yQ), (29, .agg #[.int .i64 yE, .int .i64 yF, .int .i64 yI, .int .i64 yK, .int .i64 yL, .int .i64 yN, .int .i64 yP, .int .i64 yQ, .int .i64 0, .int .i64 0, .string ⟨#[]⟩, .slice none 0 0, .int .i64 0, .slice none 0 0])]) (fun s_ w' => (w'.cell? ⟨xA, 0, none⟩ = some (.int .i64 xU) ∧ w'.cell? ⟨xA, 1, none⟩ = some (.int .i64 xS) ∧ w'.cell? ⟨xA, 2, none⟩ = some (.int .i64 xR) ∧ w'.cell? ⟨xA, 3, none⟩ = some (.int .i64 xQ) ∧ w'.cell? ⟨xA, 4, none⟩ = some (.int .i64 xO) ∧ w'.cell? ⟨xA, 5, none⟩ = some (.int .i64 xN) ∧ w'.cell? ⟨xA, 6, none⟩ = some (.int .i64 xL) ∧ w'.cell? ⟨xA, 7, none⟩ = some (.int .i64 xJ) ∧ w'.cell? ⟨xA, 8, none⟩ = some (.int .i64 xM) ∧ w'.cell? ⟨xA, 9, none⟩ = some (.int .i64 xK) ∧ w'.cell? ⟨xA, 10, none⟩ = some (.string xH) ∧ w'.cell? ⟨xA, 11, none⟩ = some (.slice yB xP.length yA) ∧ w'.cell? ⟨xA, 12, none⟩ = some (.int .i64 xI) ∧ w'.cell? ⟨xA, 13, none⟩ = some (.slice xV xT.length xW)) ∧ (w'.heap[xA]? = some (.cells #[.int .i64 xU, .int .i64 xS, .int .i64 xR, .int .i64 xQ, .int .i64 xO, .int .i64 xN, .int .i64 xL, .int .i64 xJ, .int .i64 xM, .int .i64 xK, .string xH, .slice yB xP.length yA, .int .i64 xI, .slice xV xT.length xW] 32 (0, 0))) ∧ (w'.heap[xF]? = some (.cells #[.int .i64 0, .int .i64 0, .int .i64 0, .int .i64 0, .int .i64 0, .int .i64 0, .int .i64 0, .int .i64 0, .int .i64 0, .int .i64 0, .string ⟨#[]⟩, .slice none 0 0, .int .i64 0, .slice none 0 0] 32 (0, 0))) ∧ (Below w.heap.size w w')) ?_ ?_
  rotate_left
  ·intro hJ2_5_8_11_14_17_20_23
   refine join_ (σ := Nat) 3 #[true, true, true, true, true, true, true, true, true, true, true, true, true, true, true, true, true, true, true, true, true, true, true, false, false, true, false] (fun s_ => [(7, .int .i64 yE), (10, .int .i64 yF), (13, .int .i64 yI), (16, .int .i64 yK), (19, .int .i64 yL), (22, .int .i64 yN), (25, .int .i64 yP), (3, .pointer (some ⟨s_, 0, none⟩))]) (fun s_ w' => (w'.cell? ⟨xA, 0, none⟩ = some (.int .i64 xU) ∧ w'.cell? ⟨xA, 1, none⟩ = some (.int .i64 xS) ∧ w'.cell? ⟨xA, 2, none⟩ = some (.int .i64 xR) ∧ w'.cell? ⟨xA, 3, none⟩ = some (.int .i64 xQ) ∧ w'.cell? ⟨xA, 4, none⟩ = some (.int .i64 xO) ∧ w'.cell? ⟨xA, 5, none⟩ = some (.int .i64 xN) ∧ w'.cell? ⟨xA, 6, none⟩ = some (.int .i64 xL) ∧ w'.cell? ⟨xA, 7, none⟩ = some (.int .i64 xJ) ∧ w'.cell? ⟨xA, 8, none⟩ = some (.int .i64 xM) ∧ w'.cell? ⟨xA, 9, none⟩ = some (.int .i64 xK) ∧ w'.cell? ⟨xA, 10, none⟩ = some (.string xH) ∧ w'.cell? ⟨xA, 11, none⟩ = some (.slice yB xP.length yA) ∧ w'.cell? ⟨xA, 12, none⟩ = some (.int .i64 xI) ∧ w'.cell? ⟨xA, 13, none⟩ = some (.slice xV xT.length xW)) ∧ (w'.heap[xA]? = some (.cells #[.int .i64 xU, .int .i64 xS, .int .i64 xR, .int .i64 xQ, .int .i64 xO, .int .i64 xN, .int .i64 xL, .int .i64 xJ, .int .i64 xM, .int .i64 xK, .string xH, .slice yB xP.length yA, .int .i64 xI, .slice xV xT.length xW] 32 (0, 0))) ∧ (w'.heap[xF]? = some (.cells #[.int .i64 0, .int .i64 0, .int .i64 0, .int .i64 0, .int .i64 0, .int .i64 0, .int .i64 0, .int .i64 0, .int .i64 0, .int .i64 0, .string ⟨#[]⟩, .slice none 0 0, .int .i64 0, .slice none 0 0] 32 (0, 0))) ∧ (w'.heap[s_]? = some (.cells #[.int .i64 0, .int .i64 0, .int .i64 0, .int .i64 0, .int .i64 0, .int .i64 0, .int .i64 0, .int .i64 0, .int .i64 0, .int .i64 0, .string ⟨#[]⟩, .slice none 0 0, .int .i64 0, .slice none 0 0] 32 (0, 0))) ∧ (w.heap.size ≤ s_) ∧ (w.heap.size ≤ s_) ∧ (xA ≠ s_) ∧ (s_ ≠ xA) ∧ (xF ≠ s_) ∧ (s_ ≠ xF) ∧ (Below w.heap.size w w')) ?_ ?_
   rotate_left
   ·intro hJ2_5_8_11_14_17_20_25
    refine join_ (σ := Unit) 4 #[true, true, true, true, true, true, true, true, true, true, true, true, true, true, true, true, true, true, true, true, true, true, true, false, false, false, false] (fun s_ => [(7, .int .i64 yE), (10, .int .i64 yF), (13, .int .i64 yI), (16, .int .i64 yK), (19, .int .i64 yL), (22, .int .i64 yN), (25, .int .i64 yP)]) (fun s_ w' => (w'.cell? ⟨xA, 0, none⟩ = some (.int .i64 xU) ∧ w'.cell? ⟨xA, 1, none⟩ = some (.int .i64 xS) ∧ w'.cell? ⟨xA, 2, none⟩ = some (.int .i64 xR) ∧ w'.cell? ⟨xA, 3, none⟩ = some (.int .i64 xQ) ∧ w'.cell? ⟨xA, 4, none⟩ = some (.int .i64 xO) ∧ w'.cell? ⟨xA, 5, none⟩ = some (.int .i64 xN) ∧ w'.cell? ⟨xA, 6, none⟩ = some (.int .i64 xL) ∧ w'.cell? ⟨xA, 7, none⟩ = some (.int .i64 xJ) ∧ w'.cell? ⟨xA, 8, none⟩ = some (.int .i64 xM) ∧ w'.cell? ⟨xA, 9, none⟩ = some (.int .i64 xK) ∧ w'.cell? ⟨xA, 10, none⟩ = some (.string xH) ∧ w'.cell? ⟨xA, 11, none⟩ = some (.slice yB xP.length yA) ∧ w'.cell? ⟨xA, 12, none⟩ = some (.int .i64 xI) ∧ w'.cell? ⟨xA, 13, none⟩ = some (.slice xV xT.length xW)) ∧ (w'.heap[xA]? = some (.cells #[.int .i64 xU, .int .i64 xS, .int .i64 xR, .int .i64 xQ, .int .i64 xO, .int .i64 xN, .int .i64 xL, .int .i64 xJ, .int .i64 xM, .int .i64 xK, .string xH, .slice yB xP.length yA, .int .i64 xI, .slice xV xT.length xW] 32 (0, 0))) ∧ (w'.heap[xF]? = some (.cells #[.int .i64 0, .int .i64 0, .int .i64 0, .int .i64 0, .int .i64 0, .int .i64 0, .int .i64 0, .int .i64 0, .int .i64 0, .int .i64 0, .string ⟨#[]⟩, .slice none 0 0, .int .i64 0, .slice none 0 0] 32 (0, 0))) ∧ (Below w.heap.size w w')) ?_ ?_
    rotate_left
    ·intro hJ2_5_8_11_14_17_20
     refine join_ (σ := Nat) 4 #[true, true, true, true, true, true, true, true, true, true, true, true, true, true, true, true, true, true, true, true, false, true, true, false, false, true, false] (fun s_ => [(7, .int .i64 yE), (10, .int .i64 yF), (13, .int .i64 yI), (16, .int .i64 yK), (19, .int .i64 yL), (22, .int .i64 yN), (3, .pointer (some ⟨s_, 0, none⟩))]) (fun s_ w' => (w'.cell? ⟨xA, 0, none⟩ = some (.int .i64 xU) ∧ w'.cell? ⟨xA, 1, none⟩ = some (.int .i64 xS) ∧ w'.cell? ⟨xA, 2, none⟩ = some (.int .i64 xR) ∧ w'.cell? ⟨xA, 3, none⟩ = some (.int .i64 xQ) ∧ w'.cell? ⟨xA, 4, none⟩ = some (.int .i64 xO) ∧ w'.cell? ⟨xA, 5, none⟩ = some (.int .i64 xN) ∧ w'.cell? ⟨xA, 6, none⟩ = some (.int .i64 xL) ∧ w'.cell? ⟨xA, 7, none⟩ = some (.int .i64 xJ) ∧ w'.cell? ⟨xA, 8, none⟩ = some (.int .i64 xM) ∧ w'.cell? ⟨xA, 9, none⟩ = some (.int .i64 xK) ∧ w'.cell? ⟨xA, 10, none⟩ = some (.string xH) ∧ w'.cell? ⟨xA, 11, none⟩ = some (.slice yB xP.length yA) ∧ w'.cell? ⟨xA, 12, none⟩ = some (.int .i64 xI) ∧ w'.cell? ⟨xA, 13, none⟩ = some (.slice xV xT.length xW)) ∧ (w'.heap[xA]? = some (.cells #[.int .i64 xU, .int .i64 xS, .int .i64 xR, .int .i64 xQ, .int .i64 xO, .int .i64 xN, .int .i64 xL, .int .i64 xJ, .int .i64 xM, .int .i64 xK, .string xH, .slice yB xP.length yA, .int .i64 xI, .slice xV xT.length xW] 32 (0, 0))) ∧ (w'.heap[xF]? = some (.cells #[.int .i64 0, .int .i64 0, .int .i64 0, .int .i64 0, .int .i64 0, .int .i64 0, .int .i64 0, .int .i64 0, .int .i64 0, .int .i64 0, .string ⟨#[]⟩, .slice none 0 0, .int .i64 0, .slice none 0 0] 32 (0, 0))) ∧ (w'.heap[s_]? = some (.cells #[.int .i64 0, .int .i64 0, .int .i64 0, .int .i64 0, .int .i64 0, .int .i64 0, .int .i64 0, .int .i64 0, .int .i64 0, .int .i64 0, .string ⟨#[]⟩, .slice none 0 0, .int .i64 0, .slice none 0 0] 32 (0, 0))) ∧ (w.heap.size ≤ s_) ∧ (w.heap.size ≤ s_) ∧ (xA ≠ s_) ∧ (s_ ≠ xA) ∧ (xF ≠ s_) ∧ (s_ ≠ xF) ∧ (Below w.heap.size w w')) ?_ ?_
     rotate_left
     ·intro hJ2_5_8_11_14_17_25
      refine join_ (σ := Unit) 5 #[true, true, true, true, true, true, true, true, true, true, true, true, true, true, true, true, true, true, true, true, false, true, true, false, false, false, false] (fun s_ => [(7, .int .i64 yE), (10, .int .i64 yF), (13, .int .i64 yI), (16, .int .i64 yK), (19, .int .i64 yL), (22, .int .i64 yN)]) (fun s_ w' => (w'.cell? ⟨xA, 0, none⟩ = some (.int .i64 xU) ∧ w'.cell? ⟨xA, 1, none⟩ = some (.int .i64 xS) ∧ w'.cell? ⟨xA, 2, none⟩ = some (.int .i64 xR) ∧ w'.cell? ⟨xA, 3, none⟩ = some (.int .i64 xQ) ∧ w'.cell? ⟨xA, 4, none⟩ = some (.int .i64 xO) ∧ w'.cell? ⟨xA, 5, none⟩ = some (.int .i64 xN) ∧ w'.cell? ⟨xA, 6, none⟩ = some (.int .i64 xL) ∧ w'.cell? ⟨xA, 7, none⟩ = some (.int .i64 xJ) ∧ w'.cell? ⟨xA, 8, none⟩ = some (.int .i64 xM) ∧ w'.cell? ⟨xA, 9, none⟩ = some (.int .i64 xK) ∧ w'.cell? ⟨xA, 10, none⟩ = some (.string xH) ∧ w'.cell? ⟨xA, 11, none⟩ = some (.slice yB xP.length yA) ∧ w'.cell? ⟨xA, 12, none⟩ = some (.int .i64 xI) ∧ w'.cell? ⟨xA, 13, none⟩ = some (.slice xV xT.length xW)) ∧ (w'.heap[xA]? = some (.cells #[.int .i64 xU, .int .i64 xS, .int .i64 xR, .int .i64 xQ, .int .i64 xO, .int .i64 xN, .int .i64 xL, .int .i64 xJ, .int .i64 xM, .int .i64 xK, .string xH, .slice yB xP.length yA, .int .i64 xI, .slice xV xT.length xW] 32 (0, 0))) ∧ (w'.heap[xF]? = some (.cells #[.int .i64 0, .int .i64 0, .int .i64 0, .int .i64 0, .int .i64 0, .int .i64 0, .int .i64 0, .int .i64 0, .int .i64 0, .int .i64 0, .string ⟨#[]⟩, .slice none 0 0, .int .i64 0, .slice none 0 0] 32 (0, 0))) ∧ (Below w.heap.size w w')) ?_ ?_
      rotate_left
      ·intro hJ2_5_8_11_14_17
       refine join_ (σ := Nat) 5 #[true, true, true, true, true, true, true, true, true, true, true, true, true, true, true, true, true, false, true, true, false, true, true, false, false, true, false] (fun s_ => [(7, .int .i64 yE), (10, .int .i64 yF), (13, .int .i64 yI), (16, .int .i64 yK), (19, .int .i64 yL), (3, .pointer (some ⟨s_, 0, none⟩))]) (fun s_ w' => (w'.cell? ⟨xA, 0, none⟩ = some (.int .i64 xU) ∧ w'.cell? ⟨xA, 1, none⟩ = some (.int .i64 xS) ∧ w'.cell? ⟨xA, 2, none⟩ = some (.int .i64 xR) ∧ w'.cell? ⟨xA, 3, none⟩ = some (.int .i64 xQ) ∧ w'.cell? ⟨xA, 4, none⟩ = some (.int .i64 xO) ∧ w'.cell? ⟨xA, 5, none⟩ = some (.int .i64 xN) ∧ w'.cell? ⟨xA, 6, none⟩ = some (.int .i64 xL) ∧ w'.cell? ⟨xA, 7, none⟩ = some (.int .i64 xJ) ∧ w'.cell? ⟨xA, 8, none⟩ = some (.int .i64 xM) ∧ w'.cell? ⟨xA, 9, none⟩ = some (.int .i64 xK) ∧ w'.cell? ⟨xA, 10, none⟩ = some (.string xH) ∧ w'.cell? ⟨xA, 11, none⟩ = some (.slice yB xP.length yA) ∧ w'.cell? ⟨xA, 12, none⟩ = some (.int .i64 xI) ∧ w'.cell? ⟨xA, 13, none⟩ = some (.slice xV xT.length xW)) ∧ (w'.heap[xA]? = some (.cells #[.int .i64 xU, .int .i64 xS, .int .i64 xR, .int .i64 xQ, .int .i64 xO, .int .i64 xN, .int .i64 xL, .int .i64 xJ, .int .i64 xM, .int .i64 xK, .string xH, .slice yB xP.length yA, .int .i64 xI, .slice xV xT.length xW] 32 (0, 0))) ∧ (w'.heap[xF]? = some (.cells #[.int .i64 0, .int .i64 0, .int .i64 0, .int .i64 0, .int .i64 0, .int .i64 0, .int .i64 0, .int .i64 0, .int .i64 0, .int .i64 0, .string ⟨#[]⟩, .slice none 0 0, .int .i64 0, .slice none 0 0] 32 (0, 0))) ∧ (w'.heap[s_]? = some (.cells #[.int .i64 0, .int .i64 0, .int .i64 0, .int .i64 0, .int .i64 0, .int .i64 0, .int .i64 0, .int .i64 0, .int .i64 0, .int .i64 0, .string ⟨#[]⟩, .slice none 0 0, .int .i64 0, .slice none 0 0] 32 (0, 0))) ∧ (w.heap.size ≤ s_) ∧ (w.heap.size ≤ s_) ∧ (xA ≠ s_) ∧ (s_ ≠ xA) ∧ (xF ≠ s_) ∧ (s_ ≠ xF) ∧ (Below w.heap.size w w')) ?_ ?_
       rotate_left
       ·intro hJ2_5_8_11_14_25
        refine join_ (σ := Unit) 6 #[true, true, true, true, true, true, true, true, true, true, true, true, true, true, true, true, true, false, true, true, false, true, true, false, false, false, false] (fun s_ => [(7, .int .i64 yE), (10, .int .i64 yF), (13, .int .i64 yI), (16, .int .i64 yK), (19, .int .i64 yL)]) (fun s_ w' => (w'.cell? ⟨xA, 0, none⟩ = some (.int .i64 xU) ∧ w'.cell? ⟨xA, 1, none⟩ = some (.int .i64 xS) ∧ w'.cell? ⟨xA, 2, none⟩ = some (.int .i64 xR) ∧ w'.cell? ⟨xA, 3, none⟩ = some (.int .i64 xQ) ∧ w'.cell? ⟨xA, 4, none⟩ = some (.int .i64 xO) ∧ w'.cell? ⟨xA, 5, none⟩ = some (.int .i64 xN) ∧ w'.cell? ⟨xA, 6, none⟩ = some (.int .i64 xL) ∧ w'.cell? ⟨xA, 7, none⟩ = some (.int .i64 xJ) ∧ w'.cell? ⟨xA, 8, none⟩ = some (.int .i64 xM) ∧ w'.cell? ⟨xA, 9, none⟩ = some (.int .i64 xK) ∧ w'.cell? ⟨xA, 10, none⟩ = some (.string xH) ∧ w'.cell? ⟨xA, 11, none⟩ = some (.slice yB xP.length yA) ∧ w'.cell? ⟨xA, 12, none⟩ = some (.int .i64 xI) ∧ w'.cell? ⟨xA, 13, none⟩ = some (.slice xV xT.length xW)) ∧ (w'.heap[xA]? = some (.cells #[.int .i64 xU, .int .i64 xS, .int .i64 xR, .int .i64 xQ, .int .i64 xO, .int .i64 xN, .int .i64 xL, .int .i64 xJ, .int .i64 xM, .int .i64 xK, .string xH, .slice yB xP.length yA, .int .i64 xI, .slice xV xT.length xW] 32 (0, 0))) ∧ (w'.heap[xF]? = some (.cells #[.int .i64 0, .int .i64 0, .int .i64 0, .int .i64 0, .int .i64 0, .int .i64 0, .int .i64 0, .int .i64 0, .int .i64 0, .int .i64 0, .string ⟨#[]⟩, .slice none 0 0, .int .i64 0, .slice none 0 0] 32 (0, 0))) ∧ (Below w.heap.size w w')) ?_ ?_
        rotate_left
        ·intro hJ2_5_8_11_14
         refine join_ (σ := Nat) 6 #[true, true, true, true, true, true, true, true, true, true, true, true, true, true, false, true, true, false, true, true, false, true, true, false, false, true, false] (fun s_ => [(7, .int .i64 yE), (10, .int .i64 yF), (13, .int .i64 yI), (16, .int .i64 yK), (3, .pointer (some ⟨s_, 0, none⟩))]) (fun s_ w' => (w'.cell? ⟨xA, 0, none⟩ = some (.int .i64 xU) ∧ w'.cell? ⟨xA, 1, none⟩ = some (.int .i64 xS) ∧ w'.cell? ⟨xA, 2, none⟩ = some (.int .i64 xR) ∧ w'.cell? ⟨xA, 3, none⟩ = some (.int .i64 xQ) ∧ w'.cell? ⟨xA, 4, none⟩ = some (.int .i64 xO) ∧ w'.cell? ⟨xA, 5, none⟩ = some (.int .i64 xN) ∧ w'.cell? ⟨xA, 6, none⟩ = some (.int .i64 xL) ∧ w'.cell? ⟨xA, 7, none⟩ = some (.int .i64 xJ) ∧ w'.cell? ⟨xA, 8, none⟩ = some (.int .i64 xM) ∧ w'.cell? ⟨xA, 9, none⟩ = some (.int .i64 xK) ∧ w'.cell? ⟨xA, 10, none⟩ = some (.string xH) ∧ w'.cell? ⟨xA, 11, none⟩ = some (.slice yB xP.length yA) ∧ w'.cell? ⟨xA, 12, none⟩ = some (.int .i64 xI) ∧ w'.cell? ⟨xA, 13, none⟩ = some (.slice xV xT.length xW)) ∧ (w'.heap[xA]? = some (.cells #[.int .i64 xU, .int .i64 xS, .int .i64 xR, .int .i64 xQ, .int .i64 xO, .int .i64 xN, .int .i64 xL, .int .i64 xJ, .int .i64 xM, .int .i64 xK, .string xH, .slice yB xP.length yA, .int .i64 xI, .slice xV xT.length xW] 32 (0, 0))) ∧ (w'.heap[xF]? = some (.cells #[.int .i64 0, .int .i64 0, .int .i64 0, .int .i64 0, .int .i64 0, .int .i64 0, .int .i64 0, .int .i64 0, .int .i64 0, .int .i64 0, .string ⟨#[]⟩, .slice none 0 0, .int .i64 0, .slice none 0 0] 32 (0, 0))) ∧ (w'.heap[s_]? = some (.cells #[.int .i64 0, .int .i64 0, .int .i64 0, .int .i64 0, .int .i64 0, .int .i64 0, .int .i64 0, .int .i64 0, .int .i64 0, .int .i64 0, .string ⟨#[]⟩, .slice none 0 0, .int .i64 0, .slice none 0 0] 32 (0, 0))) ∧ (w.heap.size ≤ s_) ∧ (w.heap.size ≤ s_) ∧ (xA ≠ s_) ∧ (s_ ≠ xA) ∧ (xF ≠ s_) ∧ (s_ ≠ xF) ∧ (Below w.heap.size w w')) ?_ ?_
         rotate_left
         ·intro hJ2_5_8_11_25
          refine join_ (σ := Unit) 7 #[true, true, true, true, true, true, true, true, true, true, true, true, true, true, false, true, true, false, true, true, false, true, true, false, false, false, false] (fun s_ => [(7, .int .i64 yE), (10, .int .i64 yF), (13, .int .i64 yI), (16, .int .i64 yK)]) (fun s_ w' => (w'.cell? ⟨xA, 0, none⟩ = some (.int .i64 xU) ∧ w'.cell? ⟨xA, 1, none⟩ = some (.int .i64 xS) ∧ w'.cell? ⟨xA, 2, none⟩ = some (.int .i64 xR) ∧ w'.cell? ⟨xA, 3, none⟩ = some (.int .i64 xQ) ∧ w'.cell? ⟨xA, 4, none⟩ = some (.int .i64 xO) ∧ w'.cell? ⟨xA, 5, none⟩ = some (.int .i64 xN) ∧ w'.cell? ⟨xA, 6, none⟩ = some (.int .i64 xL) ∧ w'.cell? ⟨xA, 7, none⟩ = some (.int .i64 xJ) ∧ w'.cell? ⟨xA, 8, none⟩ = some (.int .i64 xM) ∧ w'.cell? ⟨xA, 9, none⟩ = some (.int .i64 xK) ∧ w'.cell? ⟨xA, 10, none⟩ = some (.string xH) ∧ w'.cell? ⟨xA, 11, none⟩ = some (.slice yB xP.length yA) ∧ w'.cell? ⟨xA, 12, none⟩ = some (.int .i64 xI) ∧ w'.cell? ⟨xA, 13, none⟩ = some (.slice xV xT.length xW)) ∧ (w'.heap[xA]? = some (.cells #[.int .i64 xU, .int .i64 xS, .int .i64 xR, .int .i64 xQ, .int .i64 xO, .int .i64 xN, .int .i64 xL, .int .i64 xJ, .int .i64 xM, .int .i64 xK, .string xH, .slice yB xP.length yA, .int .i64 xI, .slice xV xT.length xW] 32 (0, 0))) ∧ (w'.heap[xF]? = some (.cells #[.int .i64 0, .int .i64 0, .int .i64 0, .int .i64 0, .int .i64 0, .int .i64 0, .int .i64 0, .int .i64 0, .int .i64 0, .int .i64 0, .string ⟨#[]⟩, .slice none 0 0, .int .i64 0, .slice none 0 0] 32 (0, 0))) ∧ (Below w.heap.size w w')) ?_ ?_
          rotate_left
          ·intro hJ2_5_8_11
           refine join_ (σ := Nat) 7 #[true, true, true, true, true, true, true, true, true, true, true, false, true, true, false, true, true, false, true, true, false, true, true, false, false, true, false] (fun s_ => [(7, .int .i64 yE), (10, .int .i64 yF), (13, .int .i64 yI), (3, .pointer (some ⟨s_, 0, none⟩))]) (fun s_ w' => (w'.cell? ⟨xA, 0, none⟩ = some (.int .i64 xU) ∧ w'.cell? ⟨xA, 1, none⟩ = some (.int .i64 xS) ∧ w'.cell? ⟨xA, 2, none⟩ = some (.int .i64 xR) ∧ w'.cell? ⟨xA, 3, none⟩ = some (.int .i64 xQ) ∧ w'.cell? ⟨xA, 4, none⟩ = some (.int .i64 xO) ∧ w'.cell? ⟨xA, 5, none⟩ = some (.int .i64 xN) ∧ w'.cell? ⟨xA, 6, none⟩ = some (.int .i64 xL) ∧ w'.cell? ⟨xA, 7, none⟩ = some (.int .i64 xJ) ∧ w'.cell? ⟨xA, 8, none⟩ = some (.int .i64 xM) ∧ w'.cell? ⟨xA, 9, none⟩ = some (.int .i64 xK) ∧ w'.cell? ⟨xA, 10, none⟩ = some (.string xH) ∧ w'.cell? ⟨xA, 11, none⟩ = some (.slice yB xP.length yA) ∧ w'.cell? ⟨xA, 12, none⟩ = some (.int .i64 xI) ∧ w'.cell? ⟨xA, 13, none⟩ = some (.slice xV xT.length xW)) ∧ (w'.heap[xA]? = some (.cells #[.int .i64 xU, .int .i64 xS, .int .i64 xR, .int .i64 xQ, .int .i64 xO, .int .i64 xN, .int .i64 xL, .int .i64 xJ, .int .i64 xM, .int .i64 xK, .string xH, .slice yB xP.length yA, .int .i64 xI, .slice xV xT.length xW] 32 (0, 0))) ∧ (w'.heap[xF]? = some (.cells #[.int .i64 0, .int .i64 0, .int .i64 0, .int .i64 0, .int .i64 0, .int .i64 0, .int .i64 0, .int .i64 0, .int .i64 0, .int .i64 0, .string ⟨#[]⟩, .slice none 0 0, .int .i64 0, .slice none 0 0] 32 (0, 0))) ∧ (w'.heap[s_]? = some (.cells #[.int .i64 0, .int .i64 0, .int .i64 0, .int .i64 0, .int .i64 0, .int .i64 0, .int .i64 0, .int .i64 0, .int .i64 0, .int .i64 0, .string ⟨#[]⟩, .slice none 0 0, .int .i64 0, .slice none 0 0] 32 (0, 0))) ∧ (w.heap.size ≤ s_) ∧ (w.heap.size ≤ s_) ∧ (xA ≠ s_) ∧ (s_ ≠ xA) ∧ (xF ≠ s_) ∧ (s_ ≠ xF) ∧ (Below w.heap.size w w')) ?_ ?_
           rotate_left
           ·intro hJ2_5_8_25
            refine join_ (σ := Unit) 8 #[true, true, true, true, true, true, true, true, true, true, true, false, true, true, false, true, true, false, true, true, false, true, true, false, false, false, false] (fun s_ => [(7, .int .i64 yE), (10, .int .i64 yF), (13, .int .i64 yI)]) (fun s_ w' => (w'.cell? ⟨xA, 0, none⟩ = some (.int .i64 xU) ∧ w'.cell? ⟨xA, 1, none⟩ = some (.int .i64 xS) ∧ w'.cell? ⟨xA, 2, none⟩ = some (.int .i64 xR) ∧ w'.cell? ⟨xA, 3, none⟩ = some (.int .i64 xQ) ∧ w'.cell? ⟨xA, 4, none⟩ = some (.int .i64 xO) ∧ w'.cell? ⟨xA, 5, none⟩ = some (.int .i64 xN) ∧ w'.cell? ⟨xA, 6, none⟩ = some (.int .i64 xL) ∧ w'.cell? ⟨xA, 7, none⟩ = some (.int .i64 xJ) ∧ w'.cell? ⟨xA, 8, none⟩ = some (.int .i64 xM) ∧ w'.cell? ⟨xA, 9, none⟩ = some (.int .i64 xK) ∧ w'.cell? ⟨xA, 10, none⟩ = some (.string xH) ∧ w'.cell? ⟨xA, 11, none⟩ = some (.slice yB xP.length yA) ∧ w'.cell? ⟨xA, 12, none⟩ = some (.int .i64 xI) ∧ w'.cell? ⟨xA, 13, none⟩ = some (.slice xV xT.length xW)) ∧ (w'.heap[xA]? = some (.cells #[.int .i64 xU, .int .i64 xS, .int .i64 xR, .int .i64 xQ, .int .i64 xO, .int .i64 xN, .int .i64 xL, .int .i64 xJ, .int .i64 xM, .int .i64 xK, .string xH, .slice yB xP.length yA, .int .i64 xI, .slice xV xT.length xW] 32 (0, 0))) ∧ (w'.heap[xF]? = some (.cells #[.int .i64 0, .int .i64 0, .int .i64 0, .int .i64 0, .int .i64 0, .int .i64 0, .int .i64 0, .int .i64 0, .int .i64 0, .int .i64 0, .string ⟨#[]⟩, .slice none 0 0, .int .i64 0, .slice none 0 0] 32 (0, 0))) ∧ (Below w.heap.size w w')) ?_ ?_
            rotate_left
            ·intro hJ2_5_8
             refine join_ (σ := Nat) 8 #[true, true, true, true, true, true, true, true, false, true, true, false, true, true, false, true, true, false, true, true, false, true, true, false, false, true, false] (fun s_ => [(7, .int .i64 yE), (10, .int .i64 yF), (3, .pointer (some ⟨s_, 0, none⟩))]) (fun s_ w' => (w'.cell? ⟨xA, 0, none⟩ = some (.int .i64 xU) ∧ w'.cell? ⟨xA, 1, none⟩ = some (.int .i64 xS) ∧ w'.cell? ⟨xA, 2, none⟩ = some (.int .i64 xR) ∧ w'.cell? ⟨xA, 3, none⟩ = some (.int .i64 xQ) ∧ w'.cell? ⟨xA, 4, none⟩ = some (.int .i64 xO) ∧ w'.cell? ⟨xA, 5, none⟩ = some (.int .i64 xN) ∧ w'.cell? ⟨xA, 6, none⟩ = some (.int .i64 xL) ∧ w'.cell? ⟨xA, 7, none⟩ = some (.int .i64 xJ) ∧ w'.cell? ⟨xA, 8, none⟩ = some (.int .i64 xM) ∧ w'.cell? ⟨xA, 9, none⟩ = some (.int .i64 xK) ∧ w'.cell? ⟨xA, 10, none⟩ = some (.string xH) ∧ w'.cell? ⟨xA, 11, none⟩ = some (.slice yB xP.length yA) ∧ w'.cell? ⟨xA, 12, none⟩ = some (.int .i64 xI) ∧ w'.cell? ⟨xA, 13, none⟩ = some (.slice xV xT.length xW)) ∧ (w'.heap[xA]? = some (.cells #[.int .i64 xU, .int .i64 xS, .int .i64 xR, .int .i64 xQ, .int .i64 xO, .int .i64 xN, .int .i64 xL, .int .i64 xJ, .int .i64 xM, .int .i64 xK, .string xH, .slice yB xP.length yA, .int .i64 xI, .slice xV xT.length xW] 32 (0, 0))) ∧ (w'.heap[xF]? = some (.cells #[.int .i64 0, .int .i64 0, .int .i64 0, .int .i64 0, .int .i64 0, .int .i64 0, .int .i64 0, .int .i64 0, .int .i64 0, .int .i64 0, .string ⟨#[]⟩, .slice none 0 0, .int .i64 0, .slice none 0 0] 32 (0, 0))) ∧ (w'.heap[s_]? = some (.cells #[.int .i64 0, .int .i64 0, .int .i64 0, .int .i64 0, .int .i64 0, .int .i64 0, .int .i64 0, .int .i64 0, .int .i64 0, .int .i64 0, .string ⟨#[]⟩, .slice none 0 0, .int .i64 0, .slice none 0 0] 32 (0, 0))) ∧ (w.heap.size ≤ s_) ∧ (w.heap.size ≤ s_) ∧ (xA ≠ s_) ∧ (s_ ≠ xA) ∧ (xF ≠ s_) ∧ (s_ ≠ xF) ∧ (Below w.heap.size w w')) ?_ ?_
             rotate_left
             ·intro hJ2_5_25
              refine join_ (σ := Unit) 9 #[true, true, true, true, true, true, true, true, false, true, true, false, true, true, false, true, true, false, true, true, false, true, true, false, false, false, false] (fun s_ => [(7, .int .i64 yE), (10, .int .i64 yF)]) (fun s_ w' => (w'.cell? ⟨xA, 0, none⟩ = some (.int .i64 xU) ∧ w'.cell? ⟨xA, 1, none⟩ = some (.int .i64 xS) ∧ w'.cell? ⟨xA, 2, none⟩ = some (.int .i64 xR) ∧ w'.cell? ⟨xA, 3, none⟩ = some (.int .i64 xQ) ∧ w'.cell? ⟨xA, 4, none⟩ = some (.int .i64 xO) ∧ w'.cell? ⟨xA, 5, none⟩ = some (.int .i64 xN) ∧ w'.cell? ⟨xA, 6, none⟩ = some (.int .i64 xL) ∧ w'.cell? ⟨xA, 7, none⟩ = some (.int .i64 xJ) ∧ w'.cell? ⟨xA, 8, none⟩ = some (.int .i64 xM) ∧ w'.cell? ⟨xA, 9, none⟩ = some (.int .i64 xK) ∧ w'.cell? ⟨xA, 10, none⟩ = some (.string xH) ∧ w'.cell? ⟨xA, 11, none⟩ = some (.slice yB xP.length yA) ∧ w'.cell? ⟨xA, 12, none⟩ = some (.int .i64 xI) ∧ w'.cell? ⟨xA, 13, none⟩ = some (.slice xV xT.length xW)) ∧ (w'.heap[xA]? = some (.cells #[.int .i64 xU, .int .i64 xS, .int .i64 xR, .int .i64 xQ, .int .i64 xO, .int .i64 xN, .int .i64 xL, .int .i64 xJ, .int .i64 xM, .int .i64 xK, .string xH, .slice yB xP.length yA, .int .i64 xI, .slice xV xT.length xW] 32 (0, 0))) ∧ (w'.heap[xF]? = some (.cells #[.int .i64 0, .int .i64 0, .int .i64 0, .int .i64 0, .int .i64 0, .int .i64 0, .int .i64 0, .int .i64 0, .int .i64 0, .int .i64 0, .string ⟨#[]⟩, .slice none 0 0, .int .i64 0, .slice none 0 0] 32 (0, 0))) ∧ (Below w.heap.size w w')) ?_ ?_
              rotate_left
              ·intro hJ2_5
               refine join_ (σ := Nat) 9 #[true, true, true, true, true, false, true, true, false, true, true, false, true, true, false, true, true, false, true, true, false, true, true, false, false, true, false] (fun s_ => [(7, .int .i64 yE), (3, .pointer (some ⟨s_, 0, none⟩))]) (fun s_ w' => (w'.cell? ⟨xA, 0, none⟩ = some (.int .i64 xU) ∧ w'.cell? ⟨xA, 1, none⟩ = some (.int .i64 xS) ∧ w'.cell? ⟨xA, 2, none⟩ = some (.int .i64 xR) ∧ w'.cell? ⟨xA, 3, none⟩ = some (.int .i64 xQ) ∧ w'.cell? ⟨xA, 4, none⟩ = some (.int .i64 xO) ∧ w'.cell? ⟨xA, 5, none⟩ = some (.int .i64 xN) ∧ w'.cell? ⟨xA, 6, none⟩ = some (.int .i64 xL) ∧ w'.cell? ⟨xA, 7, none⟩ = some (.int .i64 xJ) ∧ w'.cell? ⟨xA, 8, none⟩ = some (.int .i64 xM) ∧ w'.cell? ⟨xA, 9, none⟩ = some (.int .i64 xK) ∧ w'.cell? ⟨xA, 10, none⟩ = some (.string xH) ∧ w'.cell? ⟨xA, 11, none⟩ = some (.slice yB xP.length yA) ∧ w'.cell? ⟨xA, 12, none⟩ = some (.int .i64 xI) ∧ w'.cell? ⟨xA, 13, none⟩ = some (.slice xV xT.length xW)) ∧ (w'.heap[xA]? = some (.cells #[.int .i64 xU, .int .i64 xS, .int .i64 xR, .int .i64 xQ, .int .i64 xO, .int .i64 xN, .int .i64 xL, .int .i64 xJ, .int .i64 xM, .int .i64 xK, .string xH, .slice yB xP.length yA, .int .i64 xI, .slice xV xT.length xW] 32 (0, 0))) ∧ (w'.heap[xF]? = some (.cells #[.int .i64 0, .int .i64 0, .int .i64 0, .int .i64 0, .int .i64 0, .int .i64 0, .int .i64 0, .int .i64 0, .int .i64 0, .int .i64 0, .string ⟨#[]⟩, .slice none 0 0, .int .i64 0, .slice none 0 0] 32 (0, 0))) ∧ (w'.heap[s_]? = some (.cells #[.int .i64 0, .int .i64 0, .int .i64 0, .int .i64 0, .int .i64 0, .int .i64 0, .int .i64 0, .int .i64 0, .int .i64 0, .int .i64 0, .string ⟨#[]⟩, .slice none 0 0, .int .i64 0, .slice none 0 0] 32 (0, 0))) ∧ (w.heap.size ≤ s_) ∧ (w.heap.size ≤ s_) ∧ (xA ≠ s_) ∧ (s_ ≠ xA) ∧ (xF ≠ s_) ∧ (s_ ≠ xF) ∧ (Below w.heap.size w w')) ?_ ?_
               rotate_left
               ·intro hJ2_25
                refine join_ (σ := Unit) 10 #[true, true, true, true, true, false, true, true, false, true, true, false, true, true, false, true, true, false, true, true, false, true, true, false, false, false, false] (fun s_ => [(7, .int .i64 yE)]) (fun s_ w' => (w'.cell? ⟨xA, 0, none⟩ = some (.int .i64 xU) ∧ w'.cell? ⟨xA, 1, none⟩ = some (.int .i64 xS) ∧ w'.cell? ⟨xA, 2, none⟩ = some (.int .i64 xR) ∧ w'.cell? ⟨xA, 3, none⟩ = some (.int .i64 xQ) ∧ w'.cell? ⟨xA, 4, none⟩ = some (.int .i64 xO) ∧ w'.cell? ⟨xA, 5, none⟩ = some (.int .i64 xN) ∧ w'.cell? ⟨xA, 6, none⟩ = some (.int .i64 xL) ∧ w'.cell? ⟨xA, 7, none⟩ = some (.int .i64 xJ) ∧ w'.cell? ⟨xA, 8, none⟩ = some (.int .i64 xM) ∧ w'.cell? ⟨xA, 9, none⟩ = some (.int .i64 xK) ∧ w'.cell? ⟨xA, 10, none⟩ = some (.string xH) ∧ w'.cell? ⟨xA, 11, none⟩ = some (.slice yB xP.length yA) ∧ w'.cell? ⟨xA, 12, none⟩ = some (.int .i64 xI) ∧ w'.cell? ⟨xA, 13, none⟩ = some (.slice xV xT.length xW)) ∧ (w'.heap[xA]? = some (.cells #[.int .i64 xU, .int .i64 xS, .int .i64 xR, .int .i64 xQ, .int .i64 xO, .int .i64 xN, .int .i64 xL, .int .i64 xJ, .int .i64 xM, .int .i64 xK, .string xH, .slice yB xP.length yA, .int .i64 xI, .slice xV xT.length xW] 32 (0, 0))) ∧ (w'.heap[xF]? = some (.cells #[.int .i64 0, .int .i64 0, .int .i64 0, .int .i64 0, .int .i64 0, .int .i64 0, .int .i64 0, .int .i64 0, .int .i64 0, .int .i64 0, .string ⟨#[]⟩, .slice none 0 0, .int .i64 0, .slice none 0 0] 32 (0, 0))) ∧ (Below w.heap.size w w')) ?_ ?_
                rotate_left
                ·intro hJ2
                 refine join_ (σ := Nat) 10 #[true, true, false, true, true, false, true, true, false, true, true, false, true, true, false, true, true, false, true, true, false, true, true, false, false, true, false] (fun s_ => [(3, .pointer (some ⟨s_, 0, none⟩))]) (fun s_ w' => (w'.cell? ⟨xA, 0, none⟩ = some (.int .i64 xU) ∧ w'.cell? ⟨xA, 1, none⟩ = some (.int .i64 xS) ∧ w'.cell? ⟨xA, 2, none⟩ = some (.int .i64 xR) ∧ w'.cell? ⟨xA, 3, none⟩ = some (.int .i64 xQ) ∧ w'.cell? ⟨xA, 4, none⟩ = some (.int .i64 xO) ∧ w'.cell? ⟨xA, 5, none⟩ = some (.int .i64 xN) ∧ w'.cell? ⟨xA, 6, none⟩ = some (.int .i64 xL) ∧ w'.cell? ⟨xA, 7, none⟩ = some (.int .i64 xJ) ∧ w'.cell? ⟨xA, 8, none⟩ = some (.int .i64 xM) ∧ w'.cell? ⟨xA, 9, none⟩ = some (.int .i64 xK) ∧ w'.cell? ⟨xA, 10, none⟩ = some (.string xH) ∧ w'.cell? ⟨xA, 11, none⟩ = some (.slice yB xP.length yA) ∧ w'.cell? ⟨xA, 12, none⟩ = some (.int .i64 xI) ∧ w'.cell? ⟨xA, 13, none⟩ = some (.slice xV xT.length xW)) ∧ (w'.heap[xA]? = some (.cells #[.int .i64 xU, .int .i64 xS, .int .i64 xR, .int .i64 xQ, .int .i64 xO, .int .i64 xN, .int .i64 xL, .int .i64 xJ, .int .i64 xM, .int .i64 xK, .string xH, .slice yB xP.length yA, .int .i64 xI, .slice xV xT.length xW] 32 (0, 0))) ∧ (w'.heap[xF]? = some (.cells #[.int .i64 0, .int .i64 0, .int .i64 0, .int .i64 0, .int .i64 0, .int .i64 0, .int .i64 0, .int .i64 0, .int .i64 0, .int .i64 0, .string ⟨#[]⟩, .slice none 0 0, .int .i64 0, .slice none 0 0] 32 (0, 0))) ∧ (w'.heap[s_]? = some (.cells #[.int .i64 0, .int .i64 0, .int .i64 0, .int .i64 0, .int .i64 0, .int .i64 0, .int .i64 0, .int .i64 0, .int .i64 0, .int .i64 0, .string ⟨#[]⟩, .slice none 0 0, .int .i64 0, .slice none 0 0] 32 (0, 0))) ∧ (w.heap.size ≤ s_) ∧ (w.heap.size ≤ s_) ∧ (xA ≠ s_) ∧ (s_ ≠ xA) ∧ (xF ≠ s_) ∧ (s_ ≠ xF) ∧ (Below w.heap.size w w')) ?_ ?_
                 rotate_left
                 ·intro hJ25
                  refine two_ (i := 2) (j := 25) (Ni := some 7) (Nj := some 3) #[true, true, true, true, true, false, true, true, false, true, true, false, true, true, false, true, true, false, true, true, false, true, true, false, false, false, false] #[true, true, false, true, true, false, true, true, false, true, true, false, true, true, false, true, true, false, true, true, false, true, true, false, false, true, false] rfl rfl rfl rfl (two_of HT_.out (by kernel_rfl)) (by decide) (by decide) (fun K hK => ?_) (fun K hK => ?_)
                  ·skip
                   refine goes_ Try.func25 (by kernel_rfl) rfl #[.int .i64 xU] (by rfl) rfl rfl (by (try simp only [List.map_toArray, List.map_cons, List.map_nil]); first | done | rfl | (simp only [List.length_drop, List.length_take]; rfl)) ?_
                   with_reducible refine (truchmanref17_Kind.calls xU yE _ A2.out).mono ?_
                   rintro e w17 ⟨rfl, hb⟩
                   refine ⟨_, rfl, ?_⟩
                   have xX := Aside0.mk (blk_below (g := xA) (o := .cells #[.int .i64 xU, .int .i64 xS, .int .i64 xR, .int .i64 xQ, .int .i64 xO, .int .i64 xN, .int .i64 xL, .int .i64 xJ, .int .i64 xM, .int .i64 xK, .string xH, .slice yB xP.length yA, .int .i64 xI, .slice xV xT.length xW] 32 (0, 0)) (by (with_reducible repeat (first | refine bN ?_ _ | refine bD ?_ | refine bA ?_ _)); exact xB.out) hb)
                   have xY := Aside0.mk (blk_below (g := xF) (o := .cells #[.int .i64 0, .int .i64 0, .int .i64 0, .int .i64 0, .int .i64 0, .int .i64 0, .int .i64 0, .int .i64 0, .int .i64 0, .int .i64 0, .string ⟨#[]⟩, .slice none 0 0, .int .i64 0, .slice none 0 0] 32 (0, 0)) (by (with_reducible repeat (first | refine bN ?_ _ | refine bD ?_ | refine bA ?_ _)); exact xG.out) hb)
                   have xZ := Aside0.mk (below_step (by repeat (first | (with_reducible first | exact HB.out | apply below_alloc | apply pw_below_drewN | apply below_drew1 | refine bS ?_ yJ.out | refine bS ?_ yM.out) | exact HB.out)) hb)
                   clear xB
                   clear xG
                   clear HB
                   have xB := xX
                   have xG := xY
                   have HB := xZ
                   clear xX xY xZ
                   (try clear hb)
                   (try clear hb2)
                   (try clear hk)
                   (try clear hi)
                   refine hK.out _ _ ⟨(bC xB.out 0).trans rfl, (bC xB.out 1).trans rfl, (bC xB.out 2).trans rfl, (bC xB.out 3).trans rfl, (bC xB.out 4).trans rfl, (bC xB.out 5).trans rfl, (bC xB.out 6).trans rfl, (bC xB.out 7).trans rfl, (bC xB.out 8).trans rfl, (bC xB.out 9).trans rfl, (bC xB.out 10).trans rfl, (bC xB.out 11).trans rfl, (bC xB.out 12).trans rfl, (bC xB.out 13).trans rfl⟩ (fun hHeld => ?_)
                   clear hK K
                   refine norm_ (a' := ?_) ?_ ?_
                   rotate_left
                   ·show Act.put _ (some 7) _ = _
                    simp only [Act.put, bL, bO, bU, i64_w, i32_w]
                    rfl
                   exact norm_ (by first | (simp only [putAll, Act.put, bL, bO, bU]; done) | (simp only [putAll, Act.put, bL, bO, bU]; rfl)) (hJ2 () _ ⟨hHeld, (by (with_reducible repeat (first | refine bN ?_ _ | refine bD ?_ | refine bA ?_ _)); exact xB.out), (by (with_reducible repeat (first | refine bN ?_ _ | refine bD ?_ | refine bA ?_ _)); exact xG.out), (by repeat (first | (with_reducible first | exact HB.out | apply below_alloc | apply pw_below_drewN | apply below_drew1 | refine bS ?_ yJ.out | refine bS ?_ yM.out) | exact HB.out))⟩)
                  ·skip
                   refine box_step ?hg (N := 3) ?hd (cs := #[.int .i64 0, .int .i64 0, .int .i64 0, .int .i64 0, .int .i64 0, .int .i64 0, .int .i64 0, .int .i64 0, .int .i64 0, .int .i64 0, .string ⟨#[]⟩, .slice none 0 0, .int .i64 0, .slice none 0 0]) (t := 32) ?hr ?_; (case hd => rfl); (case hg => rfl); (case hr => first | (go_simp; done) | (go_simp; rfl))
                   intro xC hg w17 hbox hb
                   have xX := Aside0.mk (blk_below (g := xA) (o := .cells #[.int .i64 xU, .int .i64 xS, .int .i64 xR, .int .i64 xQ, .int .i64 xO, .int .i64 xN, .int .i64 xL, .int .i64 xJ, .int .i64 xM, .int .i64 xK, .string xH, .slice yB xP.length yA, .int .i64 xI, .slice xV xT.length xW] 32 (0, 0)) (by (with_reducible repeat (first | refine bN ?_ _ | refine bD ?_ | refine bA ?_ _)); exact xB.out) hb)
                   have xY := Aside0.mk (blk_below (g := xF) (o := .cells #[.int .i64 0, .int .i64 0, .int .i64 0, .int .i64 0, .int .i64 0, .int .i64 0, .int .i64 0, .int .i64 0, .int .i64 0, .int .i64 0, .string ⟨#[]⟩, .slice none 0 0, .int .i64 0, .slice none 0 0] 32 (0, 0)) (by (with_reducible repeat (first | refine bN ?_ _ | refine bD ?_ | refine bA ?_ _)); exact xG.out) hb)
                   have xZ := Aside0.mk (below_step (by repeat (first | (with_reducible first | exact HB.out | apply below_alloc | apply pw_below_drewN | apply below_drew1 | refine bS ?_ yJ.out | refine bS ?_ yM.out) | exact HB.out)) hb)
                   have yC := Aside0.mk (hbox)
                   have yD := Aside0.mk ((by rw [hg]; exact (below_size (by repeat (first | (with_reducible first | exact HB.out | apply below_alloc | apply pw_below_drewN | apply below_drew1 | refine bS ?_ yJ.out | refine bS ?_ yM.out) | exact HB.out))) : w.heap.size ≤ xC))
                   have yG := Aside0.mk ((by rw [hg]; exact (below_size (by repeat (first | (with_reducible first | exact HB.out | apply below_alloc | apply pw_below_drewN | apply below_drew1 | refine bS ?_ yJ.out | refine bS ?_ yM.out) | exact HB.out))) : w.heap.size ≤ xC))
                   have yR := Aside0.mk ((by rw [hg]; exact Nat.ne_of_lt (blk_lt (g := xA) (o := .cells #[.int .i64 xU, .int .i64 xS, .int .i64 xR, .int .i64 xQ, .int .i64 xO, .int .i64 xN, .int .i64 xL, .int .i64 xJ, .int .i64 xM, .int .i64 xK, .string xH, .slice yB xP.length yA, .int .i64 xI, .slice xV xT.length xW] 32 (0, 0)) (by (with_reducible repeat (first | refine bN ?_ _ | refine bD ?_ | refine bA ?_ _)); exact xB.out)) : xA ≠ xC))
                   have yS := Aside0.mk ((by rw [hg]; exact Nat.ne_of_gt (blk_lt (g := xA) (o := .cells #[.int .i64 xU, .int .i64 xS, .int .i64 xR, .int .i64 xQ, .int .i64 xO, .int .i64 xN, .int .i64 xL, .int .i64 xJ, .int .i64 xM, .int .i64 xK, .string xH, .slice yB xP.length yA, .int .i64 xI, .slice xV xT.length xW] 32 (0, 0)) (by (with_reducible repeat (first | refine bN ?_ _ | refine bD ?_ | refine bA ?_ _)); exact xB.out)) : xC ≠ xA))
                   have yT := Aside0.mk ((by rw [hg]; exact Nat.ne_of_lt (blk_lt (g := xF) (o := .cells #[.int .i64 0, .int .i64 0, .int .i64 0, .int .i64 0, .int .i64 0, .int .i64 0, .int .i64 0, .int .i64 0, .int .i64 0, .int .i64 0, .string ⟨#[]⟩, .slice none 0 0, .int .i64 0, .slice none 0 0] 32 (0, 0)) (by (with_reducible repeat (first | refine bN ?_ _ | refine bD ?_ | refine bA ?_ _)); exact xG.out)) : xF ≠ xC))
                   have yU := Aside0.mk ((by rw [hg]; exact Nat.ne_of_gt (blk_lt (g := xF) (o := .cells #[.int .i64 0, .int .i64 0, .int .i64 0, .int .i64 0, .int .i64 0, .int .i64 0, .int .i64 0, .int .i64 0, .int .i64 0, .int .i64 0, .string ⟨#[]⟩, .slice none 0 0, .int .i64 0, .slice none 0 0] 32 (0, 0)) (by (with_reducible repeat (first | refine bN ?_ _ | refine bD ?_ | refine bA ?_ _)); exact xG.out)) : xC ≠ xF))
                   clear xB
                   clear xG
                   clear HB
                   have xB := xX
                   have xG := xY
                   have HB := xZ
                   have xD := yC
                   have GW149 := yD
                   have yO := yG
                   have xE := yR
                   have yV := yS
                   have yH := yT
                   have yW := yU
                   clear xX xY xZ yC yD yG yR yS yT yU
                   clear hb hbox hg
                   refine hK.out _ _ ⟨(bC xB.out 0).trans rfl, (bC xB.out 1).trans rfl, (bC xB.out 2).trans rfl, (bC xB.out 3).trans rfl, (bC xB.out 4).trans rfl, (bC xB.out 5).trans rfl, (bC xB.out 6).trans rfl, (bC xB.out 7).trans rfl, (bC xB.out 8).trans rfl, (bC xB.out 9).trans rfl, (bC xB.out 10).trans rfl, (bC xB.out 11).trans rfl, (bC xB.out 12).trans rfl, (bC xB.out 13).trans rfl⟩ (fun hHeld => ?_)
                   clear hK K
                   refine norm_ (a' := ?_) ?_ ?_
                   rotate_left
                   ·show Act.put _ (some 3) _ = _
                    simp only [Act.put, bL, bO, bU, i64_w, i32_w]
                    rfl
                   exact norm_ (by first | (simp only [putAll, Act.put, bL, bO, bU]; done) | (simp only [putAll, Act.put, bL, bO, bU]; rfl)) (hJ25 (xC) _ ⟨hHeld, (by (with_reducible repeat (first | refine bN ?_ _ | refine bD ?_ | refine bA ?_ _)); exact xB.out), (by (with_reducible repeat (first | refine bN ?_ _ | refine bD ?_ | refine bA ?_ _)); exact xG.out), (by (with_reducible repeat (first | refine bN ?_ _ | refine bD ?_ | refine bA ?_ _)); exact xD.out), GW149.out, yO.out, xE.out, yV.out, yH.out, yW.out, (by repeat (first | (with_reducible first | exact HB.out | apply below_alloc | apply pw_below_drewN | apply below_drew1 | refine bS ?_ yJ.out | refine bS ?_ yM.out | refine bS ?_ yO.out) | exact HB.out))⟩)
                 ·skip
                  rintro xC w18 ⟨hS_, h0_, h1_, h2_, h3_, h4_, h5_, h6_, h7_, h8_, h9_⟩
                  have xX : Aside0 (w18.heap[xA]? = some (.cells #[.int .i64 xU, .int .i64 xS, .int .i64 xR, .int .i64 xQ, .int .i64 xO, .int .i64 xN, .int .i64 xL, .int .i64 xJ, .int .i64 xM, .int .i64 xK, .string xH, .slice yB xP.length yA, .int .i64 xI, .slice xV xT.length xW] 32 (0, 0))) := ⟨h0_⟩
                  have xY : Aside0 (w18.heap[xF]? = some (.cells #[.int .i64 0, .int .i64 0, .int .i64 0, .int .i64 0, .int .i64 0, .int .i64 0, .int .i64 0, .int .i64 0, .int .i64 0, .int .i64 0, .string ⟨#[]⟩, .slice none 0 0, .int .i64 0, .slice none 0 0] 32 (0, 0))) := ⟨h1_⟩
                  have xZ : Aside0 (w18.heap[xC]? = some (.cells #[.int .i64 0, .int .i64 0, .int .i64 0, .int .i64 0, .int .i64 0, .int .i64 0, .int .i64 0, .int .i64 0, .int .i64 0, .int .i64 0, .string ⟨#[]⟩, .slice none 0 0, .int .i64 0, .slice none 0 0] 32 (0, 0))) := ⟨h2_⟩
                  have yC : Aside0 (w.heap.size ≤ xC) := ⟨h3_⟩
                  have yD : Aside0 (w.heap.size ≤ xC) := ⟨h4_⟩
                  have yG : Aside0 (xA ≠ xC) := ⟨h5_⟩
                  have yR : Aside0 (xC ≠ xA) := ⟨h6_⟩
                  have yS : Aside0 (xF ≠ xC) := ⟨h7_⟩
                  have yT : Aside0 (xC ≠ xF) := ⟨h8_⟩
                  have yU : Aside0 (Below w.heap.size w w18) := ⟨h9_⟩
                  clear xB
                  clear xG
                  clear HB
                  clear h0_ h1_ h2_ h3_ h4_ h5_ h6_ h7_ h8_ h9_
                  have xB := xX
                  have xG := xY
                  have xD := xZ
                  have GW149 := yC
                  have yO := yD
                  have xE := yG
                  have yV := yR
                  have yH := yS
                  have yW := yT
                  have HB := yU
                  clear xX xY xZ yC yD yG yR yS yT yU
                  have hHeld : w18.cell? ⟨xA, 0, none⟩ = some (.int .i64 xU) ∧ w18.cell? ⟨xA, 1, none⟩ = some (.int .i64 xS) ∧ w18.cell? ⟨xA, 2, none⟩ = some (.int .i64 xR) ∧ w18.cell? ⟨xA, 3, none⟩ = some (.int .i64 xQ) ∧ w18.cell? ⟨xA, 4, none⟩ = some (.int .i64 xO) ∧ w18.cell? ⟨xA, 5, none⟩ = some (.int .i64 xN) ∧ w18.cell? ⟨xA, 6, none⟩ = some (.int .i64 xL) ∧ w18.cell? ⟨xA, 7, none⟩ = some (.int .i64 xJ) ∧ w18.cell? ⟨xA, 8, none⟩ = some (.int .i64 xM) ∧ w18.cell? ⟨xA, 9, none⟩ = some (.int .i64 xK) ∧ w18.cell? ⟨xA, 10, none⟩ = some (.string xH) ∧ w18.cell? ⟨xA, 11, none⟩ = some (.slice yB xP.length yA) ∧ w18.cell? ⟨xA, 12, none⟩ = some (.int .i64 xI) ∧ w18.cell? ⟨xA, 13, none⟩ = some (.slice xV xT.length xW) := hS_
                  refine norm_ (a' := ?_) ?_ ?_
                  rotate_left
                  ·simp only [putAll, Act.put, bL, bO, bU]
                   rfl
                  refine one_ (i := 2) (N := some 7) #[true, true, true, true, true, false, true, true, false, true, true, false, true, true, false, true, true, false, true, true, false, true, true, false, false, true, false] rfl rfl (one_of HT_.out (by kernel_rfl)) (by decide) (fun K hK => ?_)
                  refine goes_ Try.func25 (by kernel_rfl) rfl #[.int .i64 xU] (by rfl) rfl rfl (by (try simp only [List.map_toArray, List.map_cons, List.map_nil]); first | done | rfl | (simp only [List.length_drop, List.length_take]; rfl)) ?_
                  with_reducible refine (truchmanref17_Kind.calls xU yE _ A2.out).mono ?_
                  rintro e w19 ⟨rfl, hb⟩
                  refine ⟨_, rfl, ?_⟩
                  have xX := Aside0.mk (blk_below (g := xA) (o := .cells #[.int .i64 xU, .int .i64 xS, .int .i64 xR, .int .i64 xQ, .int .i64 xO, .int .i64 xN, .int .i64 xL, .int .i64 xJ, .int .i64 xM, .int .i64 xK, .string xH, .slice yB xP.length yA, .int .i64 xI, .slice xV xT.length xW] 32 (0, 0)) (by (with_reducible repeat (first | refine bN ?_ _ | refine bD ?_ | refine bA ?_ _)); exact xB.out) hb)
                  have xY := Aside0.mk (blk_below (g := xF) (o := .cells #[.int .i64 0, .int .i64 0, .int .i64 0, .int .i64 0, .int .i64 0, .int .i64 0, .int .i64 0, .int .i64 0, .int .i64 0, .int .i64 0, .string ⟨#[]⟩, .slice none 0 0, .int .i64 0, .slice none 0 0] 32 (0, 0)) (by (with_reducible repeat (first | refine bN ?_ _ | refine bD ?_ | refine bA ?_ _)); exact xG.out) hb)
                  have xZ := Aside0.mk (blk_below (g := xC) (o := .cells #[.int .i64 0, .int .i64 0, .int .i64 0, .int .i64 0, .int .i64 0, .int .i64 0, .int .i64 0, .int .i64 0, .int .i64 0, .int .i64 0, .string ⟨#[]⟩, .slice none 0 0, .int .i64 0, .slice none 0 0] 32 (0, 0)) (by (with_reducible repeat (first | refine bN ?_ _ | refine bD ?_ | refine bA ?_ _)); exact xD.out) hb)
                  have yC := Aside0.mk (below_step (by repeat (first | (with_reducible first | exact HB.out | apply below_alloc | apply pw_below_drewN | apply below_drew1 | refine bS ?_ yJ.out | refine bS ?_ yM.out | refine bS ?_ yO.out) | exact HB.out)) hb)
                  clear xB
                  clear xG
                  clear xD
                  clear HB
                  have xB := xX
                  have xG := xY
                  have xD := xZ
                  have HB := yC
                  clear xX xY xZ yC
                  (try clear hb)
                  (try clear hb2)
                  (try clear hk)
                  (try clear hi)
                  refine hK.out _ _ ⟨(bC xB.out 0).trans rfl, (bC xB.out 1).trans rfl, (bC xB.out 2).trans rfl, (bC xB.out 3).trans rfl, (bC xB.out 4).trans rfl, (bC xB.out 5).trans rfl, (bC xB.out 6).trans rfl, (bC xB.out 7).trans rfl, (bC xB.out 8).trans rfl, (bC xB.out 9).trans rfl, (bC xB.out 10).trans rfl, (bC xB.out 11).trans rfl, (bC xB.out 12).trans rfl, (bC xB.out 13).trans rfl⟩ (fun hHeld => ?_)
                  clear hK K
                  refine norm_ (a' := ?_) ?_ ?_
                  rotate_left
                  ·show Act.put _ (some 7) _ = _
                   simp only [Act.put, bL, bO, bU, i64_w, i32_w]
                   rfl
                  exact norm_ (by first | (simp only [putAll, Act.put, bL, bO, bU]; done) | (simp only [putAll, Act.put, bL, bO, bU]; rfl)) (hJ2_25 (xC) _ ⟨hHeld, (by (with_reducible repeat (first | refine bN ?_ _ | refine bD ?_ | refine bA ?_ _)); exact xB.out), (by (with_reducible repeat (first | refine bN ?_ _ | refine bD ?_ | refine bA ?_ _)); exact xG.out), (by (with_reducible repeat (first | refine bN ?_ _ | refine bD ?_ | refine bA ?_ _)); exact xD.out), GW149.out, yO.out, xE.out, yV.out, yH.out, yW.out, (by repeat (first | (with_reducible first | exact HB.out | apply below_alloc | apply pw_below_drewN | apply below_drew1 | refine bS ?_ yJ.out | refine bS ?_ yM.out | refine bS ?_ yO.out) | exact HB.out))⟩)
                ·skip
                 rintro _ w18 ⟨hS_, h0_, h1_, h2_⟩
                 have xX : Aside0 (w18.heap[xA]? = some (.cells #[.int .i64 xU, .int .i64 xS, .int .i64 xR, .int .i64 xQ, .int .i64 xO, .int .i64 xN, .int .i64 xL, .int .i64 xJ, .int .i64 xM, .int .i64 xK, .string xH, .slice yB xP.length yA, .int .i64 xI, .slice xV xT.length xW] 32 (0, 0))) := ⟨h0_⟩
                 have xY : Aside0 (w18.heap[xF]? = some (.cells #[.int .i64 0, .int .i64 0, .int .i64 0, .int .i64 0, .int .i64 0, .int .i64 0, .int .i64 0, .int .i64 0, .int .i64 0, .int .i64 0, .string ⟨#[]⟩, .slice none 0 0, .int .i64 0, .slice none 0 0] 32 (0, 0))) := ⟨h1_⟩
                 have xZ : Aside0 (Below w.heap.size w w18) := ⟨h2_⟩
                 clear xB
                 clear xG
                 clear HB
                 clear h0_ h1_ h2_
                 have xB := xX
                 have xG := xY
                 have HB := xZ
                 clear xX xY xZ
                 have hHeld : w18.cell? ⟨xA, 0, none⟩ = some (.int .i64 xU) ∧ w18.cell? ⟨xA, 1, none⟩ = some (.int .i64 xS) ∧ w18.cell? ⟨xA, 2, none⟩ = some (.int .i64 xR) ∧ w18.cell? ⟨xA, 3, none⟩ = some (.int .i64 xQ) ∧ w18.cell? ⟨xA, 4, none⟩ = some (.int .i64 xO) ∧ w18.cell? ⟨xA, 5, none⟩ = some (.int .i64 xN) ∧ w18.cell? ⟨xA, 6, none⟩ = some (.int .i64 xL) ∧ w18.cell? ⟨xA, 7, none⟩ = some (.int .i64 xJ) ∧ w18.cell? ⟨xA, 8, none⟩ = some (.int .i64 xM) ∧ w18.cell? ⟨xA, 9, none⟩ = some (.int .i64 xK) ∧ w18.cell? ⟨xA, 10, none⟩ = some (.string xH) ∧ w18.cell? ⟨xA, 11, none⟩ = some (.slice yB xP.length yA) ∧ w18.cell? ⟨xA, 12, none⟩ = some (.int .i64 xI) ∧ w18.cell? ⟨xA, 13, none⟩ = some (.slice xV xT.length xW) := hS_
                 refine norm_ (a' := ?_) ?_ ?_
                 rotate_left
                 ·simp only [putAll, Act.put, bL, bO, bU]
                  rfl
                 refine two_ (i := 5) (j := 25) (Ni := some 10) (Nj := some 3) #[true, true, true, true, true, true, true, true, false, true, true, false, true, true, false, true, true, false, true, true, false, true, true, false, false, false, false] #[true, true, true, true, true, false, true, true, false, true, true, false, true, true, false, true, true, false, true, true, false, true, true, false, false, true, false] rfl rfl rfl rfl (two_of HT_.out (by kernel_rfl)) (by decide) (by decide) (fun K hK => ?_) (fun K hK => ?_)
                 ·skip
                  refine goes_ Try.func8 (by kernel_rfl) rfl #[.int .i64 xS, .int .i64 65536] (by rfl) rfl rfl (by (try simp only [List.map_toArray, List.map_cons, List.map_nil]); first | done | rfl | (simp only [List.length_drop, List.length_take]; rfl)) ?_
                  with_reducible refine (truchmanref01_Around.calls xS 65536 yF _ A3.out).mono ?_
                  rintro e w' ⟨rfl, ⟨nd, rfl⟩⟩
                  refine ⟨_, rfl, ?_⟩
                  refine hK.out _ _ ⟨(bC xB.out 0).trans rfl, (bC xB.out 1).trans rfl, (bC xB.out 2).trans rfl, (bC xB.out 3).trans rfl, (bC xB.out 4).trans rfl, (bC xB.out 5).trans rfl, (bC xB.out 6).trans rfl, (bC xB.out 7).trans rfl, (bC xB.out 8).trans rfl, (bC xB.out 9).trans rfl, (bC xB.out 10).trans rfl, (bC xB.out 11).trans rfl, (bC xB.out 12).trans rfl, (bC xB.out 13).trans rfl⟩ (fun hHeld => ?_)
                  clear hK K
                  refine norm_ (a' := ?_) ?_ ?_
                  rotate_left
                  ·show Act.put _ (some 10) _ = _
                   simp only [Act.put, bL, bO, bU, i64_w, i32_w]
                   rfl
                  exact norm_ (by first | (simp only [putAll, Act.put, bL, bO, bU]; done) | (simp only [putAll, Act.put, bL, bO, bU]; rfl)) (hJ2_5 () _ ⟨hHeld, (by (with_reducible repeat (first | refine bN ?_ _ | refine bD ?_ | refine bA ?_ _)); exact xB.out), (by (with_reducible repeat (first | refine bN ?_ _ | refine bD ?_ | refine bA ?_ _)); exact xG.out), (by repeat (first | (with_reducible first | exact HB.out | apply below_alloc | apply pw_below_drewN | apply below_drew1 | refine bS ?_ yJ.out | refine bS ?_ yM.out) | exact HB.out))⟩)
                 ·skip
                  refine box_step ?hg (N := 3) ?hd (cs := #[.int .i64 0, .int .i64 0, .int .i64 0, .int .i64 0, .int .i64 0, .int .i64 0, .int .i64 0, .int .i64 0, .int .i64 0, .int .i64 0, .string ⟨#[]⟩, .slice none 0 0, .int .i64 0, .slice none 0 0]) (t := 32) ?hr ?_; (case hd => rfl); (case hg => rfl); (case hr => first | (go_simp; done) | (go_simp; rfl))
                  intro xC hg w19 hbox hb
                  have xX := Aside0.mk (blk_below (g := xA) (o := .cells #[.int .i64 xU, .int .i64 xS, .int .i64 xR, .int .i64 xQ, .int .i64 xO, .int .i64 xN, .int .i64 xL, .int .i64 xJ, .int .i64 xM, .int .i64 xK, .string xH, .slice yB xP.length yA, .int .i64 xI, .slice xV xT.length xW] 32 (0, 0)) (by (with_reducible repeat (first | refine bN ?_ _ | refine bD ?_ | refine bA ?_ _)); exact xB.out) hb)
                  have xY := Aside0.mk (blk_below (g := xF) (o := .cells #[.int .i64 0, .int .i64 0, .int .i64 0, .int .i64 0, .int .i64 0, .int .i64 0, .int .i64 0, .int .i64 0, .int .i64 0, .int .i64 0, .string ⟨#[]⟩, .slice none 0 0, .int .i64 0, .slice none 0 0] 32 (0, 0)) (by (with_reducible repeat (first | refine bN ?_ _ | refine bD ?_ | refine bA ?_ _)); exact xG.out) hb)
                  have xZ := Aside0.mk (below_step (by repeat (first | (with_reducible first | exact HB.out | apply below_alloc | apply pw_below_drewN | apply below_drew1 | refine bS ?_ yJ.out | refine bS ?_ yM.out) | exact HB.out)) hb)
                  have yC := Aside0.mk (hbox)
                  have yD := Aside0.mk ((by rw [hg]; exact (below_size (by repeat (first | (with_reducible first | exact HB.out | apply below_alloc | apply pw_below_drewN | apply below_drew1 | refine bS ?_ yJ.out | refine bS ?_ yM.out) | exact HB.out))) : w.heap.size ≤ xC))
                  have yG := Aside0.mk ((by rw [hg]; exact (below_size (by repeat (first | (with_reducible first | exact HB.out | apply below_alloc | apply pw_below_drewN | apply below_drew1 | refine bS ?_ yJ.out | refine bS ?_ yM.out) | exact HB.out))) : w.heap.size ≤ xC))
                  have yR := Aside0.mk ((by rw [hg]; exact Nat.ne_of_lt (blk_lt (g := xA) (o := .cells #[.int .i64 xU, .int .i64 xS, .int .i64 xR, .int .i64 xQ, .int .i64 xO, .int .i64 xN, .int .i64 xL, .int .i64 xJ, .int .i64 xM, .int .i64 xK, .string xH, .slice yB xP.length yA, .int .i64 xI, .slice xV xT.length xW] 32 (0, 0)) (by (with_reducible repeat (first | refine bN ?_ _ | refine bD ?_ | refine bA ?_ _)); exact xB.out)) : xA ≠ xC))
                  have yS := Aside0.mk ((by rw [hg]; exact Nat.ne_of_gt (blk_lt (g := xA) (o := .cells #[.int .i64 xU, .int .i64 xS, .int .i64 xR, .int .i64 xQ, .int .i64 xO, .int .i64 xN, .int .i64 xL, .int .i64 xJ, .int .i64 xM, .int .i64 xK, .string xH, .slice yB xP.length yA, .int .i64 xI, .slice xV xT.length xW] 32 (0, 0)) (by (with_reducible repeat (first | refine bN ?_ _ | refine bD ?_ | refine bA ?_ _)); exact xB.out)) : xC ≠ xA))
                  have yT := Aside0.mk ((by rw [hg]; exact Nat.ne_of_lt (blk_lt (g := xF) (o := .cells #[.int .i64 0, .int .i64 0, .int .i64 0, .int .i64 0, .int .i64 0, .int .i64 0, .int .i64 0, .int .i64 0, .int .i64 0, .int .i64 0, .string ⟨#[]⟩, .slice none 0 0, .int .i64 0, .slice none 0 0] 32 (0, 0)) (by (with_reducible repeat (first | refine bN ?_ _ | refine bD ?_ | refine bA ?_ _)); exact xG.out)) : xF ≠ xC))
                  have yU := Aside0.mk ((by rw [hg]; exact Nat.ne_of_gt (blk_lt (g := xF) (o := .cells #[.int .i64 0, .int .i64 0, .int .i64 0, .int .i64 0, .int .i64 0, .int .i64 0, .int .i64 0, .int .i64 0, .int .i64 0, .int .i64 0, .string ⟨#[]⟩, .slice none 0 0, .int .i64 0, .slice none 0 0] 32 (0, 0)) (by (with_reducible repeat (first | refine bN ?_ _ | refine bD ?_ | refine bA ?_ _)); exact xG.out)) : xC ≠ xF))
                  clear xB
                  clear xG
                  clear HB
                  have xB := xX
                  have xG := xY
                  have HB := xZ
                  have xD := yC
                  have GW149 := yD
                  have yO := yG
                  have xE := yR
                  have yV := yS
                  have yH := yT
                  have yW := yU
                  clear xX xY xZ yC yD yG yR yS yT yU
                  clear hb hbox hg
                  refine hK.out _ _ ⟨(bC xB.out 0).trans rfl, (bC xB.out 1).trans rfl, (bC xB.out 2).trans rfl, (bC xB.out 3).trans rfl, (bC xB.out 4).trans rfl, (bC xB.out 5).trans rfl, (bC xB.out 6).trans rfl, (bC xB.out 7).trans rfl, (bC xB.out 8).trans rfl, (bC xB.out 9).trans rfl, (bC xB.out 10).trans rfl, (bC xB.out 11).trans rfl, (bC xB.out 12).trans rfl, (bC xB.out 13).trans rfl⟩ (fun hHeld => ?_)
                  clear hK K
                  refine norm_ (a' := ?_) ?_ ?_
                  rotate_left
                  ·show Act.put _ (some 3) _ = _
                   simp only [Act.put, bL, bO, bU, i64_w, i32_w]
                   rfl
                  exact norm_ (by first | (simp only [putAll, Act.put, bL, bO, bU]; done) | (simp only [putAll, Act.put, bL, bO, bU]; rfl)) (hJ2_25 (xC) _ ⟨hHeld, (by (with_reducible repeat (first | refine bN ?_ _ | refine bD ?_ | refine bA ?_ _)); exact xB.out), (by (with_reducible repeat (first | refine bN ?_ _ | refine bD ?_ | refine bA ?_ _)); exact xG.out), (by (with_reducible repeat (first | refine bN ?_ _ | refine bD ?_ | refine bA ?_ _)); exact xD.out), GW149.out, yO.out, xE.out, yV.out, yH.out, yW.out, (by repeat (first | (with_reducible first | exact HB.out | apply below_alloc | apply pw_below_drewN | apply below_drew1 | refine bS ?_ yJ.out | refine bS ?_ yM.out | refine bS ?_ yO.out) | exact HB.out))⟩)
               ·skip
                rintro xC w19 ⟨hS_, h0_, h1_, h2_, h3_, h4_, h5_, h6_, h7_, h8_, h9_⟩
                have xX : Aside0 (w19.heap[xA]? = some (.cells #[.int .i64 xU, .int .i64 xS, .int .i64 xR, .int .i64 xQ, .int .i64 xO, .int .i64 xN, .int .i64 xL, .int .i64 xJ, .int .i64 xM, .int .i64 xK, .string xH, .slice yB xP.length yA, .int .i64 xI, .slice xV xT.length xW] 32 (0, 0))) := ⟨h0_⟩
                have xY : Aside0 (w19.heap[xF]? = some (.cells #[.int .i64 0, .int .i64 0, .int .i64 0, .int .i64 0, .int .i64 0, .int .i64 0, .int .i64 0, .int .i64 0, .int .i64 0, .int .i64 0, .string ⟨#[]⟩, .slice none 0 0, .int .i64 0, .slice none 0 0] 32 (0, 0))) := ⟨h1_⟩
                have xZ : Aside0 (w19.heap[xC]? = some (.cells #[.int .i64 0, .int .i64 0, .int .i64 0, .int .i64 0, .int .i64 0, .int .i64 0, .int .i64 0, .int .i64 0, .int .i64 0, .int .i64 0, .string ⟨#[]⟩, .slice none 0 0, .int .i64 0, .slice none 0 0] 32 (0, 0))) := ⟨h2_⟩
                have yC : Aside0 (w.heap.size ≤ xC) := ⟨h3_⟩
                have yD : Aside0 (w.heap.size ≤ xC) := ⟨h4_⟩
                have yG : Aside0 (xA ≠ xC) := ⟨h5_⟩
                have yR : Aside0 (xC ≠ xA) := ⟨h6_⟩
                have yS : Aside0 (xF ≠ xC) := ⟨h7_⟩
                have yT : Aside0 (xC ≠ xF) := ⟨h8_⟩
                have yU : Aside0 (Below w.heap.size w w19) := ⟨h9_⟩
                clear xB
                clear xG
                clear HB
                clear h0_ h1_ h2_ h3_ h4_ h5_ h6_ h7_ h8_ h9_
                have xB := xX
                have xG := xY
                have xD := xZ
                have GW149 := yC
                have yO := yD
                have xE := yG
                have yV := yR
                have yH := yS
                have yW := yT
                have HB := yU
                clear xX xY xZ yC yD yG yR yS yT yU
                have hHeld : w19.cell? ⟨xA, 0, none⟩ = some (.int .i64 xU) ∧ w19.cell? ⟨xA, 1, none⟩ = some (.int .i64 xS) ∧ w19.cell? ⟨xA, 2, none⟩ = some (.int .i64 xR) ∧ w19.cell? ⟨xA, 3, none⟩ = some (.int .i64 xQ) ∧ w19.cell? ⟨xA, 4, none⟩ = some (.int .i64 xO) ∧ w19.cell? ⟨xA, 5, none⟩ = some (.int .i64 xN) ∧ w19.cell? ⟨xA, 6, none⟩ = some (.int .i64 xL) ∧ w19.cell? ⟨xA, 7, none⟩ = some (.int .i64 xJ) ∧ w19.cell? ⟨xA, 8, none⟩ = some (.int .i64 xM) ∧ w19.cell? ⟨xA, 9, none⟩ = some (.int .i64 xK) ∧ w19.cell? ⟨xA, 10, none⟩ = some (.string xH) ∧ w19.cell? ⟨xA, 11, none⟩ = some (.slice yB xP.length yA) ∧ w19.cell? ⟨xA, 12, none⟩ = some (.int .i64 xI) ∧ w19.cell? ⟨xA, 13, none⟩ = some (.slice xV xT.length xW) := hS_
                refine norm_ (a' := ?_) ?_ ?_
                rotate_left
                ·simp only [putAll, Act.put, bL, bO, bU]
                 rfl
                refine one_ (i := 5) (N := some 10) #[true, true, true, true, true, true, true, true, false, true, true, false, true, true, false, true, true, false, true, true, false, true, true, false, false, true, false] rfl rfl (one_of HT_.out (by kernel_rfl)) (by decide) (fun K hK => ?_)
                refine goes_ Try.func8 (by kernel_rfl) rfl #[.int .i64 xS, .int .i64 65536] (by rfl) rfl rfl (by (try simp only [List.map_toArray, List.map_cons, List.map_nil]); first | done | rfl | (simp only [List.length_drop, List.length_take]; rfl)) ?_
                with_reducible refine (truchmanref01_Around.calls xS 65536 yF _ A3.out).mono ?_
                rintro e w' ⟨rfl, ⟨nd, rfl⟩⟩
                refine ⟨_, rfl, ?_⟩
                refine hK.out _ _ ⟨(bC xB.out 0).trans rfl, (bC xB.out 1).trans rfl, (bC xB.out 2).trans rfl, (bC xB.out 3).trans rfl, (bC xB.out 4).trans rfl, (bC xB.out 5).trans rfl, (bC xB.out 6).trans rfl, (bC xB.out 7).trans rfl, (bC xB.out 8).trans rfl, (bC xB.out 9).trans rfl, (bC xB.out 10).trans rfl, (bC xB.out 11).trans rfl, (bC xB.out 12).trans rfl, (bC xB.out 13).trans rfl⟩ (fun hHeld => ?_)
                clear hK K
                refine norm_ (a' := ?_) ?_ ?_
                rotate_left
                ·show Act.put _ (some 10) _ = _
                 simp only [Act.put, bL, bO, bU, i64_w, i32_w]
                 rfl
                exact norm_ (by first | (simp only [putAll, Act.put, bL, bO, bU]; done) | (simp only [putAll, Act.put, bL, bO, bU]; rfl)) (hJ2_5_25 (xC) _ ⟨hHeld, (by (with_reducible repeat (first | refine bN ?_ _ | refine bD ?_ | refine bA ?_ _)); exact xB.out), (by (with_reducible repeat (first | refine bN ?_ _ | refine bD ?_ | refine bA ?_ _)); exact xG.out), (by (with_reducible repeat (first | refine bN ?_ _ | refine bD ?_ | refine bA ?_ _)); exact xD.out), GW149.out, yO.out, xE.out, yV.out, yH.out, yW.out, (by repeat (first | (with_reducible first | exact HB.out | apply below_alloc | apply pw_below_drewN | apply below_drew1 | refine bS ?_ yJ.out | refine bS ?_ yM.out | refine bS ?_ yO.out) | exact HB.out))⟩)
              ·skip
               rintro _ w18 ⟨hS_, h0_, h1_, h2_⟩
               have xX : Aside0 (w18.heap[xA]? = some (.cells #[.int .i64 xU, .int .i64 xS, .int .i64 xR, .int .i64 xQ, .int .i64 xO, .int .i64 xN, .int .i64 xL, .int .i64 xJ, .int .i64 xM, .int .i64 xK, .string xH, .slice yB xP.length yA, .int .i64 xI, .slice xV xT.length xW] 32 (0, 0))) := ⟨h0_⟩
               have xY : Aside0 (w18.heap[xF]? = some (.cells #[.int .i64 0, .int .i64 0, .int .i64 0, .int .i64 0, .int .i64 0, .int .i64 0, .int .i64 0, .int .i64 0, .int .i64 0, .int .i64 0, .string ⟨#[]⟩, .slice none 0 0, .int .i64 0, .slice none 0 0] 32 (0, 0))) := ⟨h1_⟩
               have xZ : Aside0 (Below w.heap.size w w18) := ⟨h2_⟩
               clear xB
               clear xG
               clear HB
               clear h0_ h1_ h2_
               have xB := xX
               have xG := xY
               have HB := xZ
               clear xX xY xZ
               have hHeld : w18.cell? ⟨xA, 0, none⟩ = some (.int .i64 xU) ∧ w18.cell? ⟨xA, 1, none⟩ = some (.int .i64 xS) ∧ w18.cell? ⟨xA, 2, none⟩ = some (.int .i64 xR) ∧ w18.cell? ⟨xA, 3, none⟩ = some (.int .i64 xQ) ∧ w18.cell? ⟨xA, 4, none⟩ = some (.int .i64 xO) ∧ w18.cell? ⟨xA, 5, none⟩ = some (.int .i64 xN) ∧ w18.cell? ⟨xA, 6, none⟩ = some (.int .i64 xL) ∧ w18.cell? ⟨xA, 7, none⟩ = some (.int .i64 xJ) ∧ w18.cell? ⟨xA, 8, none⟩ = some (.int .i64 xM) ∧ w18.cell? ⟨xA, 9, none⟩ = some (.int .i64 xK) ∧ w18.cell? ⟨xA, 10, none⟩ = some (.string xH) ∧ w18.cell? ⟨xA, 11, none⟩ = some (.slice yB xP.length yA) ∧ w18.cell? ⟨xA, 12, none⟩ = some (.int .i64 xI) ∧ w18.cell? ⟨xA, 13, none⟩ = some (.slice xV xT.length xW) := hS_
               refine norm_ (a' := ?_) ?_ ?_
               rotate_left
               ·simp only [putAll, Act.put, bL, bO, bU]
                rfl
               refine two_ (i := 8) (j := 25) (Ni := some 13) (Nj := some 3) #[true, true, true, true, true, true, true, true, true, true, true, false, true, true, false, true, true, false, true, true, false, true, true, false, false, false, false] #[true, true, true, true, true, true, true, true, false, true, true, false, true, true, false, true, true, false, true, true, false, true, true, false, false, true, false] rfl rfl rfl rfl (two_of HT_.out (by kernel_rfl)) (by decide) (by decide) (fun K hK => ?_) (fun K hK => ?_)
               ·skip
                refine goes_ Try.func26 (by kernel_rfl) rfl #[.int .i64 xR] (by rfl) rfl rfl (by (try simp only [List.map_toArray, List.map_cons, List.map_nil]); first | done | rfl | (simp only [List.length_drop, List.length_take]; rfl)) ?_
                with_reducible refine (truchmanref17_low.calls xR yI _ A4.out).mono ?_
                rintro e w' ⟨rfl, ⟨nd, rfl⟩⟩
                refine ⟨_, rfl, ?_⟩
                refine hK.out _ _ ⟨(bC xB.out 0).trans rfl, (bC xB.out 1).trans rfl, (bC xB.out 2).trans rfl, (bC xB.out 3).trans rfl, (bC xB.out 4).trans rfl, (bC xB.out 5).trans rfl, (bC xB.out 6).trans rfl, (bC xB.out 7).trans rfl, (bC xB.out 8).trans rfl, (bC xB.out 9).trans rfl, (bC xB.out 10).trans rfl, (bC xB.out 11).trans rfl, (bC xB.out 12).trans rfl, (bC xB.out 13).trans rfl⟩ (fun hHeld => ?_)
                clear hK K
                refine norm_ (a' := ?_) ?_ ?_
                rotate_left
                ·show Act.put _ (some 13) _ = _
                 simp only [Act.put, bL, bO, bU, i64_w, i32_w]
                 rfl
                exact norm_ (by first | (simp only [putAll, Act.put, bL, bO, bU]; done) | (simp only [putAll, Act.put, bL, bO, bU]; rfl)) (hJ2_5_8 () _ ⟨hHeld, (by (with_reducible repeat (first | refine bN ?_ _ | refine bD ?_ | refine bA ?_ _)); exact xB.out), (by (with_reducible repeat (first | refine bN ?_ _ | refine bD ?_ | refine bA ?_ _)); exact xG.out), (by repeat (first | (with_reducible first | exact HB.out | apply below_alloc | apply pw_below_drewN | apply below_drew1 | refine bS ?_ yJ.out | refine bS ?_ yM.out) | exact HB.out))⟩)
               ·skip
                refine box_step ?hg (N := 3) ?hd (cs := #[.int .i64 0, .int .i64 0, .int .i64 0, .int .i64 0, .int .i64 0, .int .i64 0, .int .i64 0, .int .i64 0, .int .i64 0, .int .i64 0, .string ⟨#[]⟩, .slice none 0 0, .int .i64 0, .slice none 0 0]) (t := 32) ?hr ?_; (case hd => rfl); (case hg => rfl); (case hr => first | (go_simp; done) | (go_simp; rfl))
                intro xC hg w19 hbox hb
                have xX := Aside0.mk (blk_below (g := xA) (o := .cells #[.int .i64 xU, .int .i64 xS, .int .i64 xR, .int .i64 xQ, .int .i64 xO, .int .i64 xN, .int .i64 xL, .int .i64 xJ, .int .i64 xM, .int .i64 xK, .string xH, .slice yB xP.length yA, .int .i64 xI, .slice xV xT.length xW] 32 (0, 0)) (by (with_reducible repeat (first | refine bN ?_ _ | refine bD ?_ | refine bA ?_ _)); exact xB.out) hb)
                have xY := Aside0.mk (blk_below (g := xF) (o := .cells #[.int .i64 0, .int .i64 0, .int .i64 0, .int .i64 0, .int .i64 0, .int .i64 0, .int .i64 0, .int .i64 0, .int .i64 0, .int .i64 0, .string ⟨#[]⟩, .slice none 0 0, .int .i64 0, .slice none 0 0] 32 (0, 0)) (by (with_reducible repeat (first | refine bN ?_ _ | refine bD ?_ | refine bA ?_ _)); exact xG.out) hb)
                have xZ := Aside0.mk (below_step (by repeat (first | (with_reducible first | exact HB.out | apply below_alloc | apply pw_below_drewN | apply below_drew1 | refine bS ?_ yJ.out | refine bS ?_ yM.out) | exact HB.out)) hb)
                have yC := Aside0.mk (hbox)
                have yD := Aside0.mk ((by rw [hg]; exact (below_size (by repeat (first | (with_reducible first | exact HB.out | apply below_alloc | apply pw_below_drewN | apply below_drew1 | refine bS ?_ yJ.out | refine bS ?_ yM.out) | exact HB.out))) : w.heap.size ≤ xC))
                have yG := Aside0.mk ((by rw [hg]; exact (below_size (by repeat (first | (with_reducible first | exact HB.out | apply below_alloc | apply pw_below_drewN | apply below_drew1 | refine bS ?_ yJ.out | refine bS ?_ yM.out) | exact HB.out))) : w.heap.size ≤ xC))
                have yR := Aside0.mk ((by rw [hg]; exact Nat.ne_of_lt (blk_lt (g := xA) (o := .cells #[.int .i64 xU, .int .i64 xS, .int .i64 xR, .int .i64 xQ, .int .i64 xO, .int .i64 xN, .int .i64 xL, .int .i64 xJ, .int .i64 xM, .int .i64 xK, .string xH, .slice yB xP.length yA, .int .i64 xI, .slice xV xT.length xW] 32 (0, 0)) (by (with_reducible repeat (first | refine bN ?_ _ | refine bD ?_ | refine bA ?_ _)); exact xB.out)) : xA ≠ xC))
                have yS := Aside0.mk ((by rw [hg]; exact Nat.ne_of_gt (blk_lt (g := xA) (o := .cells #[.int .i64 xU, .int .i64 xS, .int .i64 xR, .int .i64 xQ, .int .i64 xO, .int .i64 xN, .int .i64 xL, .int .i64 xJ, .int .i64 xM, .int .i64 xK, .string xH, .slice yB xP.length yA, .int .i64 xI, .slice xV xT.length xW] 32 (0, 0)) (by (with_reducible repeat (first | refine bN ?_ _ | refine bD ?_ | refine bA ?_ _)); exact xB.out)) : xC ≠ xA))
                have yT := Aside0.mk ((by rw [hg]; exact Nat.ne_of_lt (blk_lt (g := xF) (o := .cells #[.int .i64 0, .int .i64 0, .int .i64 0, .int .i64 0, .int .i64 0, .int .i64 0, .int .i64 0, .int .i64 0, .int .i64 0, .int .i64 0, .string ⟨#[]⟩, .slice none 0 0, .int .i64 0, .slice none 0 0] 32 (0, 0)) (by (with_reducible repeat (first | refine bN ?_ _ | refine bD ?_ | refine bA ?_ _)); exact xG.out)) : xF ≠ xC))
                have yU := Aside0.mk ((by rw [hg]; exact Nat.ne_of_gt (blk_lt (g := xF) (o := .cells #[.int .i64 0, .int .i64 0, .int .i64 0, .int .i64 0, .int .i64 0, .int .i64 0, .int .i64 0, .int .i64 0, .int .i64 0, .int .i64 0, .string ⟨#[]⟩, .slice none 0 0, .int .i64 0, .slice none 0 0] 32 (0, 0)) (by (with_reducible repeat (first | refine bN ?_ _ | refine bD ?_ | refine bA ?_ _)); exact xG.out)) : xC ≠ xF))
                clear xB
                clear xG
                clear HB
                have xB := xX
                have xG := xY
                have HB := xZ
                have xD := yC
                have GW149 := yD
                have yO := yG
                have xE := yR
                have yV := yS
                have yH := yT
                have yW := yU
                clear xX xY xZ yC yD yG yR yS yT yU
                clear hb hbox hg
                refine hK.out _ _ ⟨(bC xB.out 0).trans rfl, (bC xB.out 1).trans rfl, (bC xB.out 2).trans rfl, (bC xB.out 3).trans rfl, (bC xB.out 4).trans rfl, (bC xB.out 5).trans rfl, (bC xB.out 6).trans rfl, (bC xB.out 7).trans rfl, (bC xB.out 8).trans rfl, (bC xB.out 9).trans rfl, (bC xB.out 10).trans rfl, (bC xB.out 11).trans rfl, (bC xB.out 12).trans rfl, (bC xB.out 13).trans rfl⟩ (fun hHeld => ?_)
                clear hK K
                refine norm_ (a' := ?_) ?_ ?_
                rotate_left
                ·show Act.put _ (some 3) _ = _
                 simp only [Act.put, bL, bO, bU, i64_w, i32_w]
                 rfl
                exact norm_ (by first | (simp only [putAll, Act.put, bL, bO, bU]; done) | (simp only [putAll, Act.put, bL, bO, bU]; rfl)) (hJ2_5_25 (xC) _ ⟨hHeld, (by (with_reducible repeat (first | refine bN ?_ _ | refine bD ?_ | refine bA ?_ _)); exact xB.out), (by (with_reducible repeat (first | refine bN ?_ _ | refine bD ?_ | refine bA ?_ _)); exact xG.out), (by (with_reducible repeat (first | refine bN ?_ _ | refine bD ?_ | refine bA ?_ _)); exact xD.out), GW149.out, yO.out, xE.out, yV.out, yH.out, yW.out, (by repeat (first | (with_reducible first | exact HB.out | apply below_alloc | apply pw_below_drewN | apply below_drew1 | refine bS ?_ yJ.out | refine bS ?_ yM.out | refine bS ?_ yO.out) | exact HB.out))⟩)
             ·skip
              rintro xC w19 ⟨hS_, h0_, h1_, h2_, h3_, h4_, h5_, h6_, h7_, h8_, h9_⟩
              have xX : Aside0 (w19.heap[xA]? = some (.cells #[.int .i64 xU, .int .i64 xS, .int .i64 xR, .int .i64 xQ, .int .i64 xO, .int .i64 xN, .int .i64 xL, .int .i64 xJ, .int .i64 xM, .int .i64 xK, .string xH, .slice yB xP.length yA, .int .i64 xI, .slice xV xT.length xW] 32 (0, 0))) := ⟨h0_⟩
              have xY : Aside0 (w19.heap[xF]? = some (.cells #[.int .i64 0, .int .i64 0, .int .i64 0, .int .i64 0, .int .i64 0, .int .i64 0, .int .i64 0, .int .i64 0, .int .i64 0, .int .i64 0, .string ⟨#[]⟩, .slice none 0 0, .int .i64 0, .slice none 0 0] 32 (0, 0))) := ⟨h1_⟩
              have xZ : Aside0 (w19.heap[xC]? = some (.cells #[.int .i64 0, .int .i64 0, .int .i64 0, .int .i64 0, .int .i64 0, .int .i64 0, .int .i64 0, .int .i64 0, .int .i64 0, .int .i64 0, .string ⟨#[]⟩, .slice none 0 0, .int .i64 0, .slice none 0 0] 32 (0, 0))) := ⟨h2_⟩
              have yC : Aside0 (w.heap.size ≤ xC) := ⟨h3_⟩
              have yD : Aside0 (w.heap.size ≤ xC) := ⟨h4_⟩
              have yG : Aside0 (xA ≠ xC) := ⟨h5_⟩
              have yR : Aside0 (xC ≠ xA) := ⟨h6_⟩
              have yS : Aside0 (xF ≠ xC) := ⟨h7_⟩
              have yT : Aside0 (xC ≠ xF) := ⟨h8_⟩
              have yU : Aside0 (Below w.heap.size w w19) := ⟨h9_⟩
              clear xB
              clear xG
              clear HB
              clear h0_ h1_ h2_ h3_ h4_ h5_ h6_ h7_ h8_ h9_
              have xB := xX
              have xG := xY
              have xD := xZ
              have GW149 := yC
              have yO := yD
              have xE := yG
              have yV := yR
              have yH := yS
              have yW := yT
              have HB := yU
              clear xX xY xZ yC yD yG yR yS yT yU
              have hHeld : w19.cell? ⟨xA, 0, none⟩ = some (.int .i64 xU) ∧ w19.cell? ⟨xA, 1, none⟩ = some (.int .i64 xS) ∧ w19.cell? ⟨xA, 2, none⟩ = some (.int .i64 xR) ∧ w19.cell? ⟨xA, 3, none⟩ = some (.int .i64 xQ) ∧ w19.cell? ⟨xA, 4, none⟩ = some (.int .i64 xO) ∧ w19.cell? ⟨xA, 5, none⟩ = some (.int .i64 xN) ∧ w19.cell? ⟨xA, 6, none⟩ = some (.int .i64 xL) ∧ w19.cell? ⟨xA, 7, none⟩ = some (.int .i64 xJ) ∧ w19.cell? ⟨xA, 8, none⟩ = some (.int .i64 xM) ∧ w19.cell? ⟨xA, 9, none⟩ = some (.int .i64 xK) ∧ w19.cell? ⟨xA, 10, none⟩ = some (.string xH) ∧ w19.cell? ⟨xA, 11, none⟩ = some (.slice yB xP.length yA) ∧ w19.cell? ⟨xA, 12, none⟩ = some (.int .i64 xI) ∧ w19.cell? ⟨xA, 13, none⟩ = some (.slice xV xT.length xW) := hS_
              refine norm_ (a' := ?_) ?_ ?_
              rotate_left
              ·simp only [putAll, Act.put, bL, bO, bU]
               rfl
              refine one_ (i := 8) (N := some 13) #[true, true, true, true, true, true, true, true, true, true, true, false, true, true, false, true, true, false, true, true, false, true, true, false, false, true, false] rfl rfl (one_of HT_.out (by kernel_rfl)) (by decide) (fun K hK => ?_)
              refine goes_ Try.func26 (by kernel_rfl) rfl #[.int .i64 xR] (by rfl) rfl rfl (by (try simp only [List.map_toArray, List.map_cons, List.map_nil]); first | done | rfl | (simp only [List.length_drop, List.length_take]; rfl)) ?_
              with_reducible refine (truchmanref17_low.calls xR yI _ A4.out).mono ?_
              rintro e w' ⟨rfl, ⟨nd, rfl⟩⟩
              refine ⟨_, rfl, ?_⟩
              refine hK.out _ _ ⟨(bC xB.out 0).trans rfl, (bC xB.out 1).trans rfl, (bC xB.out 2).trans rfl, (bC xB.out 3).trans rfl, (bC xB.out 4).trans rfl, (bC xB.out 5).trans rfl, (bC xB.out 6).trans rfl, (bC xB.out 7).trans rfl, (bC xB.out 8).trans rfl, (bC xB.out 9).trans rfl, (bC xB.out 10).trans rfl, (bC xB.out 11).trans rfl, (bC xB.out 12).trans rfl, (bC xB.out 13).trans rfl⟩ (fun hHeld => ?_)
              clear hK K
              refine norm_ (a' := ?_) ?_ ?_
              rotate_left
              ·show Act.put _ (some 13) _ = _
               simp only [Act.put, bL, bO, bU, i64_w, i32_w]
               rfl
              exact norm_ (by first | (simp only [putAll, Act.put, bL, bO, bU]; done) | (simp only [putAll, Act.put, bL, bO, bU]; rfl)) (hJ2_5_8_25 (xC) _ ⟨hHeld, (by (with_reducible repeat (first | refine bN ?_ _ | refine bD ?_ | refine bA ?_ _)); exact xB.out), (by (with_reducible repeat (first | refine bN ?_ _ | refine bD ?_ | refine bA ?_ _)); exact xG.out), (by (with_reducible repeat (first | refine bN ?_ _ | refine bD ?_ | refine bA ?_ _)); exact xD.out), GW149.out, yO.out, xE.out, yV.out, yH.out, yW.out, (by repeat (first | (with_reducible first | exact HB.out | apply below_alloc | apply pw_below_drewN | apply below_drew1 | refine bS ?_ yJ.out | refine bS ?_ yM.out | refine bS ?_ yO.out) | exact HB.out))⟩)
            ·skip
             rintro _ w18 ⟨hS_, h0_, h1_, h2_⟩
             have xX : Aside0 (w18.heap[xA]? = some (.cells #[.int .i64 xU, .int .i64 xS, .int .i64 xR, .int .i64 xQ, .int .i64 xO, .int .i64 xN, .int .i64 xL, .int .i64 xJ, .int .i64 xM, .int .i64 xK, .string xH, .slice yB xP.length yA, .int .i64 xI, .slice xV xT.length xW] 32 (0, 0))) := ⟨h0_⟩
             have xY : Aside0 (w18.heap[xF]? = some (.cells #[.int .i64 0, .int .i64 0, .int .i64 0, .int .i64 0, .int .i64 0, .int .i64 0, .int .i64 0, .int .i64 0, .int .i64 0, .int .i64 0, .string ⟨#[]⟩, .slice none 0 0, .int .i64 0, .slice none 0 0] 32 (0, 0))) := ⟨h1_⟩
             have xZ : Aside0 (Below w.heap.size w w18) := ⟨h2_⟩
             clear xB
             clear xG
             clear HB
             clear h0_ h1_ h2_
             have xB := xX
             have xG := xY
             have HB := xZ
             clear xX xY xZ
             have hHeld : w18.cell? ⟨xA, 0, none⟩ = some (.int .i64 xU) ∧ w18.cell? ⟨xA, 1, none⟩ = some (.int .i64 xS) ∧ w18.cell? ⟨xA, 2, none⟩ = some (.int .i64 xR) ∧ w18.cell? ⟨xA, 3, none⟩ = some (.int .i64 xQ) ∧ w18.cell? ⟨xA, 4, none⟩ = some (.int .i64 xO) ∧ w18.cell? ⟨xA, 5, none⟩ = some (.int .i64 xN) ∧ w18.cell? ⟨xA, 6, none⟩ = some (.int .i64 xL) ∧ w18.cell? ⟨xA, 7, none⟩ = some (.int .i64 xJ) ∧ w18.cell? ⟨xA, 8, none⟩ = some (.int .i64 xM) ∧ w18.cell? ⟨xA, 9, none⟩ = some (.int .i64 xK) ∧ w18.cell? ⟨xA, 10, none⟩ = some (.string xH) ∧ w18.cell? ⟨xA, 11, none⟩ = some (.slice yB xP.length yA) ∧ w18.cell? ⟨xA, 12, none⟩ = some (.int .i64 xI) ∧ w18.cell? ⟨xA, 13, none⟩ = some (.slice xV xT.length xW) := hS_
             refine norm_ (a' := ?_) ?_ ?_
             rotate_left
             ·simp only [putAll, Act.put, bL, bO, bU]
              rfl
             refine two_ (i := 11) (j := 25) (Ni := some 16) (Nj := some 3) #[true, true, true, true, true, true, true, true, true, true, true, true, true, true, false, true, true, false, true, true, false, true, true, false, false, false, false] #[true, true, true, true, true, true, true, true, true, true, true, false, true, true, false, true, true, false, true, true, false, true, true, false, false, true, false] rfl rfl rfl rfl (two_of HT_.out (by kernel_rfl)) (by decide) (by decide) (fun K hK => ?_) (fun K hK => ?_)
             ·skip
              refine goes_ Try.func26 (by kernel_rfl) rfl #[.int .i64 xQ] (by rfl) rfl rfl (by (try simp only [List.map_toArray, List.map_cons, List.map_nil]); first | done | rfl | (simp only [List.length_drop, List.length_take]; rfl)) ?_
              with_reducible refine (truchmanref17_low.calls xQ yK _ A5.out).mono ?_
              rintro e w' ⟨rfl, ⟨nd, rfl⟩⟩
              refine ⟨_, rfl, ?_⟩
              refine hK.out _ _ ⟨(bC xB.out 0).trans rfl, (bC xB.out 1).trans rfl, (bC xB.out 2).trans rfl, (bC xB.out 3).trans rfl, (bC xB.out 4).trans rfl, (bC xB.out 5).trans rfl, (bC xB.out 6).trans rfl, (bC xB.out 7).trans rfl, (bC xB.out 8).trans rfl, (bC xB.out 9).trans rfl, (bC xB.out 10).trans rfl, (bC xB.out 11).trans rfl, (bC xB.out 12).trans rfl, (bC xB.out 13).trans rfl⟩ (fun hHeld => ?_)
              clear hK K
              refine norm_ (a' := ?_) ?_ ?_
              rotate_left
              ·show Act.put _ (some 16) _ = _
               simp only [Act.put, bL, bO, bU, i64_w, i32_w]
               rfl
              exact norm_ (by first | (simp only [putAll, Act.put, bL, bO, bU]; done) | (simp only [putAll, Act.put, bL, bO, bU]; rfl)) (hJ2_5_8_11 () _ ⟨hHeld, (by (with_reducible repeat (first | refine bN ?_ _ | refine bD ?_ | refine bA ?_ _)); exact xB.out), (by (with_reducible repeat (first | refine bN ?_ _ | refine bD ?_ | refine bA ?_ _)); exact xG.out), (by repeat (first | (with_reducible first | exact HB.out | apply below_alloc | apply pw_below_drewN | apply below_drew1 | refine bS ?_ yJ.out | refine bS ?_ yM.out) | exact HB.out))⟩)
             ·skip
              refine box_step ?hg (N := 3) ?hd (cs := #[.int .i64 0, .int .i64 0, .int .i64 0, .int .i64 0, .int .i64 0, .int .i64 0, .int .i64 0, .int .i64 0, .int .i64 0, .int .i64 0, .string ⟨#[]⟩, .slice none 0 0, .int .i64 0, .slice none 0 0]) (t := 32) ?hr ?_; (case hd => rfl); (case hg => rfl); (case hr => first | (go_simp; done) | (go_simp; rfl))
              intro xC hg w19 hbox hb
              have xX := Aside0.mk (blk_below (g := xA) (o := .cells #[.int .i64 xU, .int .i64 xS, .int .i64 xR, .int .i64 xQ, .int .i64 xO, .int .i64 xN, .int .i64 xL, .int .i64 xJ, .int .i64 xM, .int .i64 xK, .string xH, .slice yB xP.length yA, .int .i64 xI, .slice xV xT.length xW] 32 (0, 0)) (by (with_reducible repeat (first | refine bN ?_ _ | refine bD ?_ | refine bA ?_ _)); exact xB.out) hb)
              have xY := Aside0.mk (blk_below (g := xF) (o := .cells #[.int .i64 0, .int .i64 0, .int .i64 0, .int .i64 0, .int .i64 0, .int .i64 0, .int .i64 0, .int .i64 0, .int .i64 0, .int .i64 0, .string ⟨#[]⟩, .slice none 0 0, .int .i64 0, .slice none 0 0] 32 (0, 0)) (by (with_reducible repeat (first | refine bN ?_ _ | refine bD ?_ | refine bA ?_ _)); exact xG.out) hb)
              have xZ := Aside0.mk (below_step (by repeat (first | (with_reducible first | exact HB.out | apply below_alloc | apply pw_below_drewN | apply below_drew1 | refine bS ?_ yJ.out | refine bS ?_ yM.out) | exact HB.out)) hb)
              have yC := Aside0.mk (hbox)
              have yD := Aside0.mk ((by rw [hg]; exact (below_size (by repeat (first | (with_reducible first | exact HB.out | apply below_alloc | apply pw_below_drewN | apply below_drew1 | refine bS ?_ yJ.out | refine bS ?_ yM.out) | exact HB.out))) : w.heap.size ≤ xC))
              have yG := Aside0.mk ((by rw [hg]; exact (below_size (by repeat (first | (with_reducible first | exact HB.out | apply below_alloc | apply pw_below_drewN | apply below_drew1 | refine bS ?_ yJ.out | refine bS ?_ yM.out) | exact HB.out))) : w.heap.size ≤ xC))
              have yR := Aside0.mk ((by rw [hg]; exact Nat.ne_of_lt (blk_lt (g := xA) (o := .cells #[.int .i64 xU, .int .i64 xS, .int .i64 xR, .int .i64 xQ, .int .i64 xO, .int .i64 xN, .int .i64 xL, .int .i64 xJ, .int .i64 xM, .int .i64 xK, .string xH, .slice yB xP.length yA, .int .i64 xI, .slice xV xT.length xW] 32 (0, 0)) (by (with_reducible repeat (first | refine bN ?_ _ | refine bD ?_ | refine bA ?_ _)); exact xB.out)) : xA ≠ xC))
              have yS := Aside0.mk ((by rw [hg]; exact Nat.ne_of_gt (blk_lt (g := xA) (o := .cells #[.int .i64 xU, .int .i64 xS, .int .i64 xR, .int .i64 xQ, .int .i64 xO, .int .i64 xN, .int .i64 xL, .int .i64 xJ, .int .i64 xM, .int .i64 xK, .string xH, .slice yB xP.length yA, .int .i64 xI, .slice xV xT.length xW] 32 (0, 0)) (by (with_reducible repeat (first | refine bN ?_ _ | refine bD ?_ | refine bA ?_ _)); exact xB.out)) : xC ≠ xA))
              have yT := Aside0.mk ((by rw [hg]; exact Nat.ne_of_lt (blk_lt (g := xF) (o := .cells #[.int .i64 0, .int .i64 0, .int .i64 0, .int .i64 0, .int .i64 0, .int .i64 0, .int .i64 0, .int .i64 0, .int .i64 0, .int .i64 0, .string ⟨#[]⟩, .slice none 0 0, .int .i64 0, .slice none 0 0] 32 (0, 0)) (by (with_reducible repeat (first | refine bN ?_ _ | refine bD ?_ | refine bA ?_ _)); exact xG.out)) : xF ≠ xC))
              have yU := Aside0.mk ((by rw [hg]; exact Nat.ne_of_gt (blk_lt (g := xF) (o := .cells #[.int .i64 0, .int .i64 0, .int .i64 0, .int .i64 0, .int .i64 0, .int .i64 0, .int .i64 0, .int .i64 0, .int .i64 0, .int .i64 0, .string ⟨#[]⟩, .slice none 0 0, .int .i64 0, .slice none 0 0] 32 (0, 0)) (by (with_reducible repeat (first | refine bN ?_ _ | refine bD ?_ | refine bA ?_ _)); exact xG.out)) : xC ≠ xF))
              clear xB
              clear xG
              clear HB
              have xB := xX
              have xG := xY
              have HB := xZ
              have xD := yC
              have GW149 := yD
              have yO := yG
              have xE := yR
              have yV := yS
              have yH := yT
              have yW := yU
              clear xX xY xZ yC yD yG yR yS yT yU
              clear hb hbox hg
              refine hK.out _ _ ⟨(bC xB.out 0).trans rfl, (bC xB.out 1).trans rfl, (bC xB.out 2).trans rfl, (bC xB.out 3).trans rfl, (bC xB.out 4).trans rfl, (bC xB.out 5).trans rfl, (bC xB.out 6).trans rfl, (bC xB.out 7).trans rfl, (bC xB.out 8).trans rfl, (bC xB.out 9).trans rfl, (bC xB.out 10).trans rfl, (bC xB.out 11).trans rfl, (bC xB.out 12).trans rfl, (bC xB.out 13).trans rfl⟩ (fun hHeld => ?_)
              clear hK K
              refine norm_ (a' := ?_) ?_ ?_
              rotate_left
              ·show Act.put _ (some 3) _ = _
               simp only [Act.put, bL, bO, bU, i64_w, i32_w]
               rfl
              exact norm_ (by first | (simp only [putAll, Act.put, bL, bO, bU]; done) | (simp only [putAll, Act.put, bL, bO, bU]; rfl)) (hJ2_5_8_25 (xC) _ ⟨hHeld, (by (with_reducible repeat (first | refine bN ?_ _ | refine bD ?_ | refine bA ?_ _)); exact xB.out), (by (with_reducible repeat (first | refine bN ?_ _ | refine bD ?_ | refine bA ?_ _)); exact xG.out), (by (with_reducible repeat (first | refine bN ?_ _ | refine bD ?_ | refine bA ?_ _)); exact xD.out), GW149.out, yO.out, xE.out, yV.out, yH.out, yW.out, (by repeat (first | (with_reducible first | exact HB.out | apply below_alloc | apply pw_below_drewN | apply below_drew1 | refine bS ?_ yJ.out | refine bS ?_ yM.out | refine bS ?_ yO.out) | exact HB.out))⟩)
           ·skip
            rintro xC w19 ⟨hS_, h0_, h1_, h2_, h3_, h4_, h5_, h6_, h7_, h8_, h9_⟩
            have xX : Aside0 (w19.heap[xA]? = some (.cells #[.int .i64 xU, .int .i64 xS, .int .i64 xR, .int .i64 xQ, .int .i64 xO, .int .i64 xN, .int .i64 xL, .int .i64 xJ, .int .i64 xM, .int .i64 xK, .string xH, .slice yB xP.length yA, .int .i64 xI, .slice xV xT.length xW] 32 (0, 0))) := ⟨h0_⟩
            have xY : Aside0 (w19.heap[xF]? = some (.cells #[.int .i64 0, .int .i64 0, .int .i64 0, .int .i64 0, .int .i64 0, .int .i64 0, .int .i64 0, .int .i64 0, .int .i64 0, .int .i64 0, .string ⟨#[]⟩, .slice none 0 0, .int .i64 0, .slice none 0 0] 32 (0, 0))) := ⟨h1_⟩
            have xZ : Aside0 (w19.heap[xC]? = some (.cells #[.int .i64 0, .int .i64 0, .int .i64 0, .int .i64 0, .int .i64 0, .int .i64 0, .int .i64 0, .int .i64 0, .int .i64 0, .int .i64 0, .string ⟨#[]⟩, .slice none 0 0, .int .i64 0, .slice none 0 0] 32 (0, 0))) := ⟨h2_⟩
            have yC : Aside0 (w.heap.size ≤ xC) := ⟨h3_⟩
            have yD : Aside0 (w.heap.size ≤ xC) := ⟨h4_⟩
            have yG : Aside0 (xA ≠ xC) := ⟨h5_⟩
            have yR : Aside0 (xC ≠ xA) := ⟨h6_⟩
            have yS : Aside0 (xF ≠ xC) := ⟨h7_⟩
            have yT : Aside0 (xC ≠ xF) := ⟨h8_⟩
            have yU : Aside0 (Below w.heap.size w w19) := ⟨h9_⟩
            clear xB
            clear xG
            clear HB
            clear h0_ h1_ h2_ h3_ h4_ h5_ h6_ h7_ h8_ h9_
            have xB := xX
            have xG := xY
            have xD := xZ
            have GW149 := yC
            have yO := yD
            have xE := yG
            have yV := yR
            have yH := yS
            have yW := yT
            have HB := yU
            clear xX xY xZ yC yD yG yR yS yT yU
            have hHeld : w19.cell? ⟨xA, 0, none⟩ = some (.int .i64 xU) ∧ w19.cell? ⟨xA, 1, none⟩ = some (.int .i64 xS) ∧ w19.cell? ⟨xA, 2, none⟩ = some (.int .i64 xR) ∧ w19.cell? ⟨xA, 3, none⟩ = some (.int .i64 xQ) ∧ w19.cell? ⟨xA, 4, none⟩ = some (.int .i64 xO) ∧ w19.cell? ⟨xA, 5, none⟩ = some (.int .i64 xN) ∧ w19.cell? ⟨xA, 6, none⟩ = some (.int .i64 xL) ∧ w19.cell? ⟨xA, 7, none⟩ = some (.int .i64 xJ) ∧ w19.cell? ⟨xA, 8, none⟩ = some (.int .i64 xM) ∧ w19.cell? ⟨xA, 9, none⟩ = some (.int .i64 xK) ∧ w19.cell? ⟨xA, 10, none⟩ = some (.string xH) ∧ w19.cell? ⟨xA, 11, none⟩ = some (.slice yB xP.length yA) ∧ w19.cell? ⟨xA, 12, none⟩ = some (.int .i64 xI) ∧ w19.cell? ⟨xA, 13, none⟩ = some (.slice xV xT.length xW) := hS_
            refine norm_ (a' := ?_) ?_ ?_
            rotate_left
            ·simp only [putAll, Act.put, bL, bO, bU]
             rfl
            refine one_ (i := 11) (N := some 16) #[true, true, true, true, true, true, true, true, true, true, true, true, true, true, false, true, true, false, true, true, false, true, true, false, false, true, false] rfl rfl (one_of HT_.out (by kernel_rfl)) (by decide) (fun K hK => ?_)
            refine goes_ Try.func26 (by kernel_rfl) rfl #[.int .i64 xQ] (by rfl) rfl rfl (by (try simp only [List.map_toArray, List.map_cons, List.map_nil]); first | done | rfl | (simp only [List.length_drop, List.length_take]; rfl)) ?_
            with_reducible refine (truchmanref17_low.calls xQ yK _ A5.out).mono ?_
            rintro e w' ⟨rfl, ⟨nd, rfl⟩⟩
            refine ⟨_, rfl, ?_⟩
            refine hK.out _ _ ⟨(bC xB.out 0).trans rfl, (bC xB.out 1).trans rfl, (bC xB.out 2).trans rfl, (bC xB.out 3).trans rfl, (bC xB.out 4).trans rfl, (bC xB.out 5).trans rfl, (bC xB.out 6).trans rfl, (bC xB.out 7).trans rfl, (bC xB.out 8).trans rfl, (bC xB.out 9).trans rfl, (bC xB.out 10).trans rfl, (bC xB.out 11).trans rfl, (bC xB.out 12).trans rfl, (bC xB.out 13).trans rfl⟩ (fun hHeld => ?_)
            clear hK K
            refine norm_ (a' := ?_) ?_ ?_
            rotate_left
            ·show Act.put _ (some 16) _ = _
             simp only [Act.put, bL, bO, bU, i64_w, i32_w]
             rfl
            exact norm_ (by first | (simp only [putAll, Act.put, bL, bO, bU]; done) | (simp only [putAll, Act.put, bL, bO, bU]; rfl)) (hJ2_5_8_11_25 (xC) _ ⟨hHeld, (by (with_reducible repeat (first | refine bN ?_ _ | refine bD ?_ | refine bA ?_ _)); exact xB.out), (by (with_reducible repeat (first | refine bN ?_ _ | refine bD ?_ | refine bA ?_ _)); exact xG.out), (by (with_reducible repeat (first | refine bN ?_ _ | refine bD ?_ | refine bA ?_ _)); exact xD.out), GW149.out, yO.out, xE.out, yV.out, yH.out, yW.out, (by repeat (first | (with_reducible first | exact HB.out | apply below_alloc | apply pw_below_drewN | apply below_drew1 | refine bS ?_ yJ.out | refine bS ?_ yM.out | refine bS ?_ yO.out) | exact HB.out))⟩)
          ·skip
           rintro _ w18 ⟨hS_, h0_, h1_, h2_⟩
           have xX : Aside0 (w18.heap[xA]? = some (.cells #[.int .i64 xU, .int .i64 xS, .int .i64 xR, .int .i64 xQ, .int .i64 xO, .int .i64 xN, .int .i64 xL, .int .i64 xJ, .int .i64 xM, .int .i64 xK, .string xH, .slice yB xP.length yA, .int .i64 xI, .slice xV xT.length xW] 32 (0, 0))) := ⟨h0_⟩
           have xY : Aside0 (w18.heap[xF]? = some (.cells #[.int .i64 0, .int .i64 0, .int .i64 0, .int .i64 0, .int .i64 0, .int .i64 0, .int .i64 0, .int .i64 0, .int .i64 0, .int .i64 0, .string ⟨#[]⟩, .slice none 0 0, .int .i64 0, .slice none 0 0] 32 (0, 0))) := ⟨h1_⟩
           have xZ : Aside0 (Below w.heap.size w w18) := ⟨h2_⟩
           clear xB
           clear xG
           clear HB
           clear h0_ h1_ h2_
           have xB := xX
           have xG := xY
           have HB := xZ
           clear xX xY xZ
           have hHeld : w18.cell? ⟨xA, 0, none⟩ = some (.int .i64 xU) ∧ w18.cell? ⟨xA, 1, none⟩ = some (.int .i64 xS) ∧ w18.cell? ⟨xA, 2, none⟩ = some (.int .i64 xR) ∧ w18.cell? ⟨xA, 3, none⟩ = some (.int .i64 xQ) ∧ w18.cell? ⟨xA, 4, none⟩ = some (.int .i64 xO) ∧ w18.cell? ⟨xA, 5, none⟩ = some (.int .i64 xN) ∧ w18.cell? ⟨xA, 6, none⟩ = some (.int .i64 xL) ∧ w18.cell? ⟨xA, 7, none⟩ = some (.int .i64 xJ) ∧ w18.cell? ⟨xA, 8, none⟩ = some (.int .i64 xM) ∧ w18.cell? ⟨xA, 9, none⟩ = some (.int .i64 xK) ∧ w18.cell? ⟨xA, 10, none⟩ = some (.string xH) ∧ w18.cell? ⟨xA, 11, none⟩ = some (.slice yB xP.length yA) ∧ w18.cell? ⟨xA, 12, none⟩ = some (.int .i64 xI) ∧ w18.cell? ⟨xA, 13, none⟩ = some (.slice xV xT.length xW) := hS_
           refine norm_ (a' := ?_) ?_ ?_
           rotate_left
           ·simp only [putAll, Act.put, bL, bO, bU]
            rfl
           refine two_ (i := 14) (j := 25) (Ni := some 19) (Nj := some 3) #[true, true, true, true, true, true, true, true, true, true, true, true, true, true, true, true, true, false, true, true, false, true, true, false, false, false, false] #[true, true, true, true, true, true, true, true, true, true, true, true, true, true, false, true, true, false, true, true, false, true, true, false, false, true, false] rfl rfl rfl rfl (two_of HT_.out (by kernel_rfl)) (by decide) (by decide) (fun K hK => ?_) (fun K hK => ?_)
           ·skip
            refine goes_ Try.func8 (by kernel_rfl) rfl #[.int .i64 xO, .int .i64 65536] (by rfl) rfl rfl (by (try simp only [List.map_toArray, List.map_cons, List.map_nil]); first | done | rfl | (simp only [List.length_drop, List.length_take]; rfl)) ?_
            with_reducible refine (truchmanref01_Around.calls xO 65536 yL _ A6.out).mono ?_
            rintro e w' ⟨rfl, ⟨nd, rfl⟩⟩
            refine ⟨_, rfl, ?_⟩
            refine hK.out _ _ ⟨(bC xB.out 0).trans rfl, (bC xB.out 1).trans rfl, (bC xB.out 2).trans rfl, (bC xB.out 3).trans rfl, (bC xB.out 4).trans rfl, (bC xB.out 5).trans rfl, (bC xB.out 6).trans rfl, (bC xB.out 7).trans rfl, (bC xB.out 8).trans rfl, (bC xB.out 9).trans rfl, (bC xB.out 10).trans rfl, (bC xB.out 11).trans rfl, (bC xB.out 12).trans rfl, (bC xB.out 13).trans rfl⟩ (fun hHeld => ?_)
            clear hK K
            refine norm_ (a' := ?_) ?_ ?_
            rotate_left
            ·show Act.put _ (some 19) _ = _
             simp only [Act.put, bL, bO, bU, i64_w, i32_w]
             rfl
            exact norm_ (by first | (simp only [putAll, Act.put, bL, bO, bU]; done) | (simp only [putAll, Act.put, bL, bO, bU]; rfl)) (hJ2_5_8_11_14 () _ ⟨hHeld, (by (with_reducible repeat (first | refine bN ?_ _ | refine bD ?_ | refine bA ?_ _)); exact xB.out), (by (with_reducible repeat (first | refine bN ?_ _ | refine bD ?_ | refine bA ?_ _)); exact xG.out), (by repeat (first | (with_reducible first | exact HB.out | apply below_alloc | apply pw_below_drewN | apply below_drew1 | refine bS ?_ yJ.out | refine bS ?_ yM.out) | exact HB.out))⟩)
           ·skip
            refine box_step ?hg (N := 3) ?hd (cs := #[.int .i64 0, .int .i64 0, .int .i64 0, .int .i64 0, .int .i64 0, .int .i64 0, .int .i64 0, .int .i64 0, .int .i64 0, .int .i64 0, .string ⟨#[]⟩, .slice none 0 0, .int .i64 0, .slice none 0 0]) (t := 32) ?hr ?_; (case hd => rfl); (case hg => rfl); (case hr => first | (go_simp; done) | (go_simp; rfl))
            intro xC hg w19 hbox hb
            have xX := Aside0.mk (blk_below (g := xA) (o := .cells #[.int .i64 xU, .int .i64 xS, .int .i64 xR, .int .i64 xQ, .int .i64 xO, .int .i64 xN, .int .i64 xL, .int .i64 xJ, .int .i64 xM, .int .i64 xK, .string xH, .slice yB xP.length yA, .int .i64 xI, .slice xV xT.length xW] 32 (0, 0)) (by (with_reducible repeat (first | refine bN ?_ _ | refine bD ?_ | refine bA ?_ _)); exact xB.out) hb)
            have xY := Aside0.mk (blk_below (g := xF) (o := .cells #[.int .i64 0, .int .i64 0, .int .i64 0, .int .i64 0, .int .i64 0, .int .i64 0, .int .i64 0, .int .i64 0, .int .i64 0, .int .i64 0, .string ⟨#[]⟩, .slice none 0 0, .int .i64 0, .slice none 0 0] 32 (0, 0)) (by (with_reducible repeat (first | refine bN ?_ _ | refine bD ?_ | refine bA ?_ _)); exact xG.out) hb)
            have xZ := Aside0.mk (below_step (by repeat (first | (with_reducible first | exact HB.out | apply below_alloc | apply pw_below_drewN | apply below_drew1 | refine bS ?_ yJ.out | refine bS ?_ yM.out) | exact HB.out)) hb)
            have yC := Aside0.mk (hbox)
            have yD := Aside0.mk ((by rw [hg]; exact (below_size (by repeat (first | (with_reducible first | exact HB.out | apply below_alloc | apply pw_below_drewN | apply below_drew1 | refine bS ?_ yJ.out | refine bS ?_ yM.out) | exact HB.out))) : w.heap.size ≤ xC))
            have yG := Aside0.mk ((by rw [hg]; exact (below_size (by repeat (first | (with_reducible first | exact HB.out | apply below_alloc | apply pw_below_drewN | apply below_drew1 | refine bS ?_ yJ.out | refine bS ?_ yM.out) | exact HB.out))) : w.heap.size ≤ xC))
            have yR := Aside0.mk ((by rw [hg]; exact Nat.ne_of_lt (blk_lt (g := xA) (o := .cells #[.int .i64 xU, .int .i64 xS, .int .i64 xR, .int .i64 xQ, .int .i64 xO, .int .i64 xN, .int .i64 xL, .int .i64 xJ, .int .i64 xM, .int .i64 xK, .string xH, .slice yB xP.length yA, .int .i64 xI, .slice xV xT.length xW] 32 (0, 0)) (by (with_reducible repeat (first | refine bN ?_ _ | refine bD ?_ | refine bA ?_ _)); exact xB.out)) : xA ≠ xC))
            have yS := Aside0.mk ((by rw [hg]; exact Nat.ne_of_gt (blk_lt (g := xA) (o := .cells #[.int .i64 xU, .int .i64 xS, .int .i64 xR, .int .i64 xQ, .int .i64 xO, .int .i64 xN, .int .i64 xL, .int .i64 xJ, .int .i64 xM, .int .i64 xK, .string xH, .slice yB xP.length yA, .int .i64 xI, .slice xV xT.length xW] 32 (0, 0)) (by (with_reducible repeat (first | refine bN ?_ _ | refine bD ?_ | refine bA ?_ _)); exact xB.out)) : xC ≠ xA))
            have yT := Aside0.mk ((by rw [hg]; exact Nat.ne_of_lt (blk_lt (g := xF) (o := .cells #[.int .i64 0, .int .i64 0, .int .i64 0, .int .i64 0, .int .i64 0, .int .i64 0, .int .i64 0, .int .i64 0, .int .i64 0, .int .i64 0, .string ⟨#[]⟩, .slice none 0 0, .int .i64 0, .slice none 0 0] 32 (0, 0)) (by (with_reducible repeat (first | refine bN ?_ _ | refine bD ?_ | refine bA ?_ _)); exact xG.out)) : xF ≠ xC))
            have yU := Aside0.mk ((by rw [hg]; exact Nat.ne_of_gt (blk_lt (g := xF) (o := .cells #[.int .i64 0, .int .i64 0, .int .i64 0, .int .i64 0, .int .i64 0, .int .i64 0, .int .i64 0, .int .i64 0, .int .i64 0, .int .i64 0, .string ⟨#[]⟩, .slice none 0 0, .int .i64 0, .slice none 0 0] 32 (0, 0)) (by (with_reducible repeat (first | refine bN ?_ _ | refine bD ?_ | refine bA ?_ _)); exact xG.out)) : xC ≠ xF))
            clear xB
            clear xG
            clear HB
            have xB := xX
            have xG := xY
            have HB := xZ
            have xD := yC
            have GW149 := yD
            have yO := yG
            have xE := yR
            have yV := yS
            have yH := yT
            have yW := yU
            clear xX xY xZ yC yD yG yR yS yT yU
            clear hb hbox hg
            refine hK.out _ _ ⟨(bC xB.out 0).trans rfl, (bC xB.out 1).trans rfl, (bC xB.out 2).trans rfl, (bC xB.out 3).trans rfl, (bC xB.out 4).trans rfl, (bC xB.out 5).trans rfl, (bC xB.out 6).trans rfl, (bC xB.out 7).trans rfl, (bC xB.out 8).trans rfl, (bC xB.out 9).trans rfl, (bC xB.out 10).trans rfl, (bC xB.out 11).trans rfl, (bC xB.out 12).trans rfl, (bC xB.out 13).trans rfl⟩ (fun hHeld => ?_)
            clear hK K
            refine norm_ (a' := ?_) ?_ ?_
            rotate_left
            ·show Act.put _ (some 3) _ = _
             simp only [Act.put, bL, bO, bU, i64_w, i32_w]
             rfl
            exact norm_ (by first | (simp only [putAll, Act.put, bL, bO, bU]; done) | (simp only [putAll, Act.put, bL, bO, bU]; rfl)) (hJ2_5_8_11_25 (xC) _ ⟨hHeld, (by (with_reducible repeat (first | refine bN ?_ _ | refine bD ?_ | refine bA ?_ _)); exact xB.out), (by (with_reducible repeat (first | refine bN ?_ _ | refine bD ?_ | refine bA ?_ _)); exact xG.out), (by (with_reducible repeat (first | refine bN ?_ _ | refine bD ?_ | refine bA ?_ _)); exact xD.out), GW149.out, yO.out, xE.out, yV.out, yH.out, yW.out, (by repeat (first | (with_reducible first | exact HB.out | apply below_alloc | apply pw_below_drewN | apply below_drew1 | refine bS ?_ yJ.out | refine bS ?_ yM.out | refine bS ?_ yO.out) | exact HB.out))⟩)
         ·skip
          rintro xC w19 ⟨hS_, h0_, h1_, h2_, h3_, h4_, h5_, h6_, h7_, h8_, h9_⟩
          have xX : Aside0 (w19.heap[xA]? = some (.cells #[.int .i64 xU, .int .i64 xS, .int .i64 xR, .int .i64 xQ, .int .i64 xO, .int .i64 xN, .int .i64 xL, .int .i64 xJ, .int .i64 xM, .int .i64 xK, .string xH, .slice yB xP.length yA, .int .i64 xI, .slice xV xT.length xW] 32 (0, 0))) := ⟨h0_⟩
          have xY : Aside0 (w19.heap[xF]? = some (.cells #[.int .i64 0, .int .i64 0, .int .i64 0, .int .i64 0, .int .i64 0, .int .i64 0, .int .i64 0, .int .i64 0, .int .i64 0, .int .i64 0, .string ⟨#[]⟩, .slice none 0 0, .int .i64 0, .slice none 0 0] 32 (0, 0))) := ⟨h1_⟩
          have xZ : Aside0 (w19.heap[xC]? = some (.cells #[.int .i64 0, .int .i64 0, .int .i64 0, .int .i64 0, .int .i64 0, .int .i64 0, .int .i64 0, .int .i64 0, .int .i64 0, .int .i64 0, .string ⟨#[]⟩, .slice none 0 0, .int .i64 0, .slice none 0 0] 32 (0, 0))) := ⟨h2_⟩
          have yC : Aside0 (w.heap.size ≤ xC) := ⟨h3_⟩
          have yD : Aside0 (w.heap.size ≤ xC) := ⟨h4_⟩
          have yG : Aside0 (xA ≠ xC) := ⟨h5_⟩
          have yR : Aside0 (xC ≠ xA) := ⟨h6_⟩
          have yS : Aside0 (xF ≠ xC) := ⟨h7_⟩
          have yT : Aside0 (xC ≠ xF) := ⟨h8_⟩
          have yU : Aside0 (Below w.heap.size w w19) := ⟨h9_⟩
          clear xB
          clear xG
          clear HB
          clear h0_ h1_ h2_ h3_ h4_ h5_ h6_ h7_ h8_ h9_
          have xB := xX
          have xG := xY
          have xD := xZ
          have GW149 := yC
          have yO := yD
          have xE := yG
          have yV := yR
          have yH := yS
          have yW := yT
          have HB := yU
          clear xX xY xZ yC yD yG yR yS yT yU
          have hHeld : w19.cell? ⟨xA, 0, none⟩ = some (.int .i64 xU) ∧ w19.cell? ⟨xA, 1, none⟩ = some (.int .i64 xS) ∧ w19.cell? ⟨xA, 2, none⟩ = some (.int .i64 xR) ∧ w19.cell? ⟨xA, 3, none⟩ = some (.int .i64 xQ) ∧ w19.cell? ⟨xA, 4, none⟩ = some (.int .i64 xO) ∧ w19.cell? ⟨xA, 5, none⟩ = some (.int .i64 xN) ∧ w19.cell? ⟨xA, 6, none⟩ = some (.int .i64 xL) ∧ w19.cell? ⟨xA, 7, none⟩ = some (.int .i64 xJ) ∧ w19.cell? ⟨xA, 8, none⟩ = some (.int .i64 xM) ∧ w19.cell? ⟨xA, 9, none⟩ = some (.int .i64 xK) ∧ w19.cell? ⟨xA, 10, none⟩ = some (.string xH) ∧ w19.cell? ⟨xA, 11, none⟩ = some (.slice yB xP.length yA) ∧ w19.cell? ⟨xA, 12, none⟩ = some (.int .i64 xI) ∧ w19.cell? ⟨xA, 13, none⟩ = some (.slice xV xT.length xW) := hS_
          refine norm_ (a' := ?_) ?_ ?_
          rotate_left
          ·simp only [putAll, Act.put, bL, bO, bU]
           rfl
          refine one_ (i := 14) (N := some 19) #[true, true, true, true, true, true, true, true, true, true, true, true, true, true, true, true, true, false, true, true, false, true, true, false, false, true, false] rfl rfl (one_of HT_.out (by kernel_rfl)) (by decide) (fun K hK => ?_)
          refine goes_ Try.func8 (by kernel_rfl) rfl #[.int .i64 xO, .int .i64 65536] (by rfl) rfl rfl (by (try simp only [List.map_toArray, List.map_cons, List.map_nil]); first | done | rfl | (simp only [List.length_drop, List.length_take]; rfl)) ?_
          with_reducible refine (truchmanref01_Around.calls xO 65536 yL _ A6.out).mono ?_
          rintro e w' ⟨rfl, ⟨nd, rfl⟩⟩
          refine ⟨_, rfl, ?_⟩
          refine hK.out _ _ ⟨(bC xB.out 0).trans rfl, (bC xB.out 1).trans rfl, (bC xB.out 2).trans rfl, (bC xB.out 3).trans rfl, (bC xB.out 4).trans rfl, (bC xB.out 5).trans rfl, (bC xB.out 6).trans rfl, (bC xB.out 7).trans rfl, (bC xB.out 8).trans rfl, (bC xB.out 9).trans rfl, (bC xB.out 10).trans rfl, (bC xB.out 11).trans rfl, (bC xB.out 12).trans rfl, (bC xB.out 13).trans rfl⟩ (fun hHeld => ?_)
          clear hK K
          refine norm_ (a' := ?_) ?_ ?_
          rotate_left
          ·show Act.put _ (some 19) _ = _
           simp only [Act.put, bL, bO, bU, i64_w, i32_w]
           rfl
          exact norm_ (by first | (simp only [putAll, Act.put, bL, bO, bU]; done) | (simp only [putAll, Act.put, bL, bO, bU]; rfl)) (hJ2_5_8_11_14_25 (xC) _ ⟨hHeld, (by (with_reducible repeat (first | refine bN ?_ _ | refine bD ?_ | refine bA ?_ _)); exact xB.out), (by (with_reducible repeat (first | refine bN ?_ _ | refine bD ?_ | refine bA ?_ _)); exact xG.out), (by (with_reducible repeat (first | refine bN ?_ _ | refine bD ?_ | refine bA ?_ _)); exact xD.out), GW149.out, yO.out, xE.out, yV.out, yH.out, yW.out, (by repeat (first | (with_reducible first | exact HB.out | apply below_alloc | apply pw_below_drewN | apply below_drew1 | refine bS ?_ yJ.out | refine bS ?_ yM.out | refine bS ?_ yO.out) | exact HB.out))⟩)
        ·skip
         rintro _ w18 ⟨hS_, h0_, h1_, h2_⟩
         have xX : Aside0 (w18.heap[xA]? = some (.cells #[.int .i64 xU, .int .i64 xS, .int .i64 xR, .int .i64 xQ, .int .i64 xO, .int .i64 xN, .int .i64 xL, .int .i64 xJ, .int .i64 xM, .int .i64 xK, .string xH, .slice yB xP.length yA, .int .i64 xI, .slice xV xT.length xW] 32 (0, 0))) := ⟨h0_⟩
         have xY : Aside0 (w18.heap[xF]? = some (.cells #[.int .i64 0, .int .i64 0, .int .i64 0, .int .i64 0, .int .i64 0, .int .i64 0, .int .i64 0, .int .i64 0, .int .i64 0, .int .i64 0, .string ⟨#[]⟩, .slice none 0 0, .int .i64 0, .slice none 0 0] 32 (0, 0))) := ⟨h1_⟩
         have xZ : Aside0 (Below w.heap.size w w18) := ⟨h2_⟩
         clear xB
         clear xG
         clear HB
         clear h0_ h1_ h2_
         have xB := xX
         have xG := xY
         have HB := xZ
         clear xX xY xZ
         have hHeld : w18.cell? ⟨xA, 0, none⟩ = some (.int .i64 xU) ∧ w18.cell? ⟨xA, 1, none⟩ = some (.int .i64 xS) ∧ w18.cell? ⟨xA, 2, none⟩ = some (.int .i64 xR) ∧ w18.cell? ⟨xA, 3, none⟩ = some (.int .i64 xQ) ∧ w18.cell? ⟨xA, 4, none⟩ = some (.int .i64 xO) ∧ w18.cell? ⟨xA, 5, none⟩ = some (.int .i64 xN) ∧ w18.cell? ⟨xA, 6, none⟩ = some (.int .i64 xL) ∧ w18.cell? ⟨xA, 7, none⟩ = some (.int .i64 xJ) ∧ w18.cell? ⟨xA, 8, none⟩ = some (.int .i64 xM) ∧ w18.cell? ⟨xA, 9, none⟩ = some (.int .i64 xK) ∧ w18.cell? ⟨xA, 10, none⟩ = some (.string xH) ∧ w18.cell? ⟨xA, 11, none⟩ = some (.slice yB xP.length yA) ∧ w18.cell? ⟨xA, 12, none⟩ = some (.int .i64 xI) ∧ w18.cell? ⟨xA, 13, none⟩ = some (.slice xV xT.length xW) := hS_
         refine norm_ (a' := ?_) ?_ ?_
         rotate_left
         ·simp only [putAll, Act.put, bL, bO, bU]
          rfl
         refine two_ (i := 17) (j := 25) (Ni := some 22) (Nj := some 3) #[true, true, true, true, true, true, true, true, true, true, true, true, true, true, true, true, true, true, true, true, false, true, true, false, false, false, false] #[true, true, true, true, true, true, true, true, true, true, true, true, true, true, true, true, true, false, true, true, false, true, true, false, false, true, false] rfl rfl rfl rfl (two_of HT_.out (by kernel_rfl)) (by decide) (by decide) (fun K hK => ?_) (fun K hK => ?_)
         ·skip
          refine goes_ Try.func26 (by kernel_rfl) rfl #[.int .i64 xN] (by rfl) rfl rfl (by (try simp only [List.map_toArray, List.map_cons, List.map_nil]); first | done | rfl | (simp only [List.length_drop, List.length_take]; rfl)) ?_
          with_reducible refine (truchmanref17_low.calls xN yN _ A7.out).mono ?_
          rintro e w' ⟨rfl, ⟨nd, rfl⟩⟩
          refine ⟨_, rfl, ?_⟩
          refine hK.out _ _ ⟨(bC xB.out 0).trans rfl, (bC xB.out 1).trans rfl, (bC xB.out 2).trans rfl, (bC xB.out 3).trans rfl, (bC xB.out 4).trans rfl, (bC xB.out 5).trans rfl, (bC xB.out 6).trans rfl, (bC xB.out 7).trans rfl, (bC xB.out 8).trans rfl, (bC xB.out 9).trans rfl, (bC xB.out 10).trans rfl, (bC xB.out 11).trans rfl, (bC xB.out 12).trans rfl, (bC xB.out 13).trans rfl⟩ (fun hHeld => ?_)
          clear hK K
          refine norm_ (a' := ?_) ?_ ?_
          rotate_left
          ·show Act.put _ (some 22) _ = _
           simp only [Act.put, bL, bO, bU, i64_w, i32_w]
           rfl
          exact norm_ (by first | (simp only [putAll, Act.put, bL, bO, bU]; done) | (simp only [putAll, Act.put, bL, bO, bU]; rfl)) (hJ2_5_8_11_14_17 () _ ⟨hHeld, (by (with_reducible repeat (first | refine bN ?_ _ | refine bD ?_ | refine bA ?_ _)); exact xB.out), (by (with_reducible repeat (first | refine bN ?_ _ | refine bD ?_ | refine bA ?_ _)); exact xG.out), (by repeat (first | (with_reducible first | exact HB.out | apply below_alloc | apply pw_below_drewN | apply below_drew1 | refine bS ?_ yJ.out | refine bS ?_ yM.out) | exact HB.out))⟩)
         ·skip
          refine box_step ?hg (N := 3) ?hd (cs := #[.int .i64 0, .int .i64 0, .int .i64 0, .int .i64 0, .int .i64 0, .int .i64 0, .int .i64 0, .int .i64 0, .int .i64 0, .int .i64 0, .string ⟨#[]⟩, .slice none 0 0, .int .i64 0, .slice none 0 0]) (t := 32) ?hr ?_; (case hd => rfl); (case hg => rfl); (case hr => first | (go_simp; done) | (go_simp; rfl))
          intro xC hg w19 hbox hb
          have xX := Aside0.mk (blk_below (g := xA) (o := .cells #[.int .i64 xU, .int .i64 xS, .int .i64 xR, .int .i64 xQ, .int .i64 xO, .int .i64 xN, .int .i64 xL, .int .i64 xJ, .int .i64 xM, .int .i64 xK, .string xH, .slice yB xP.length yA, .int .i64 xI, .slice xV xT.length xW] 32 (0, 0)) (by (with_reducible repeat (first | refine bN ?_ _ | refine bD ?_ | refine bA ?_ _)); exact xB.out) hb)
          have xY := Aside0.mk (blk_below (g := xF) (o := .cells #[.int .i64 0, .int .i64 0, .int .i64 0, .int .i64 0, .int .i64 0, .int .i64 0, .int .i64 0, .int .i64 0, .int .i64 0, .int .i64 0, .string ⟨#[]⟩, .slice none 0 0, .int .i64 0, .slice none 0 0] 32 (0, 0)) (by (with_reducible repeat (first | refine bN ?_ _ | refine bD ?_ | refine bA ?_ _)); exact xG.out) hb)
          have xZ := Aside0.mk (below_step (by repeat (first | (with_reducible first | exact HB.out | apply below_alloc | apply pw_below_drewN | apply below_drew1 | refine bS ?_ yJ.out | refine bS ?_ yM.out) | exact HB.out)) hb)
          have yC := Aside0.mk (hbox)
          have yD := Aside0.mk ((by rw [hg]; exact (below_size (by repeat (first | (with_reducible first | exact HB.out | apply below_alloc | apply pw_below_drewN | apply below_drew1 | refine bS ?_ yJ.out | refine bS ?_ yM.out) | exact HB.out))) : w.heap.size ≤ xC))
          have yG := Aside0.mk ((by rw [hg]; exact (below_size (by repeat (first | (with_reducible first | exact HB.out | apply below_alloc | apply pw_below_drewN | apply below_drew1 | refine bS ?_ yJ.out | refine bS ?_ yM.out) | exact HB.out))) : w.heap.size ≤ xC))
          have yR := Aside0.mk ((by rw [hg]; exact Nat.ne_of_lt (blk_lt (g := xA) (o := .cells #[.int .i64 xU, .int .i64 xS, .int .i64 xR, .int .i64 xQ, .int .i64 xO, .int .i64 xN, .int .i64 xL, .int .i64 xJ, .int .i64 xM, .int .i64 xK, .string xH, .slice yB xP.length yA, .int .i64 xI, .slice xV xT.length xW] 32 (0, 0)) (by (with_reducible repeat (first | refine bN ?_ _ | refine bD ?_ | refine bA ?_ _)); exact xB.out)) : xA ≠ xC))
          have yS := Aside0.mk ((by rw [hg]; exact Nat.ne_of_gt (blk_lt (g := xA) (o := .cells #[.int .i64 xU, .int .i64 xS, .int .i64 xR, .int .i64 xQ, .int .i64 xO, .int .i64 xN, .int .i64 xL, .int .i64 xJ, .int .i64 xM, .int .i64 xK, .string xH, .slice yB xP.length yA, .int .i64 xI, .slice xV xT.length xW] 32 (0, 0)) (by (with_reducible repeat (first | refine bN ?_ _ | refine bD ?_ | refine bA ?_ _)); exact xB.out)) : xC ≠ xA))
          have yT := Aside0.mk ((by rw [hg]; exact Nat.ne_of_lt (blk_lt (g := xF) (o := .cells #[.int .i64 0, .int .i64 0, .int .i64 0, .int .i64 0, .int .i64 0, .int .i64 0, .int .i64 0, .int .i64 0, .int .i64 0, .int .i64 0, .string ⟨#[]⟩, .slice none 0 0, .int .i64 0, .slice none 0 0] 32 (0, 0)) (by (with_reducible repeat (first | refine bN ?_ _ | refine bD ?_ | refine bA ?_ _)); exact xG.out)) : xF ≠ xC))
          have yU := Aside0.mk ((by rw [hg]; exact Nat.ne_of_gt (blk_lt (g := xF) (o := .cells #[.int .i64 0, .int .i64 0, .int .i64 0, .int .i64 0, .int .i64 0, .int .i64 0, .int .i64 0, .int .i64 0, .int .i64 0, .int .i64 0, .string ⟨#[]⟩, .slice none 0 0, .int .i64 0, .slice none 0 0] 32 (0, 0)) (by (with_reducible repeat (first | refine bN ?_ _ | refine bD ?_ | refine bA ?_ _)); exact xG.out)) : xC ≠ xF))
          clear xB
          clear xG
          clear HB
          have xB := xX
          have xG := xY
          have HB := xZ
          have xD := yC
          have GW149 := yD
          have yO := yG
          have xE := yR
          have yV := yS
          have yH := yT
          have yW := yU
          clear xX xY xZ yC yD yG yR yS yT yU
          clear hb hbox hg
          refine hK.out _ _ ⟨(bC xB.out 0).trans rfl, (bC xB.out 1).trans rfl, (bC xB.out 2).trans rfl, (bC xB.out 3).trans rfl, (bC xB.out 4).trans rfl, (bC xB.out 5).trans rfl, (bC xB.out 6).trans rfl, (bC xB.out 7).trans rfl, (bC xB.out 8).trans rfl, (bC xB.out 9).trans rfl, (bC xB.out 10).trans rfl, (bC xB.out 11).trans rfl, (bC xB.out 12).trans rfl, (bC xB.out 13).trans rfl⟩ (fun hHeld => ?_)
          clear hK K
          refine norm_ (a' := ?_) ?_ ?_
          rotate_left
          ·show Act.put _ (some 3) _ = _
           simp only [Act.put, bL, bO, bU, i64_w, i32_w]
           rfl
          exact norm_ (by first | (simp only [putAll, Act.put, bL, bO, bU]; done) | (simp only [putAll, Act.put, bL, bO, bU]; rfl)) (hJ2_5_8_11_14_25 (xC) _ ⟨hHeld, (by (with_reducible repeat (first | refine bN ?_ _ | refine bD ?_ | refine bA ?_ _)); exact xB.out), (by (with_reducible repeat (first | refine bN ?_ _ | refine bD ?_ | refine bA ?_ _)); exact xG.out), (by (with_reducible repeat (first | refine bN ?_ _ | refine bD ?_ | refine bA ?_ _)); exact xD.out), GW149.out, yO.out, xE.out, yV.out, yH.out, yW.out, (by repeat (first | (with_reducible first | exact HB.out | apply below_alloc | apply pw_below_drewN | apply below_drew1 | refine bS ?_ yJ.out | refine bS ?_ yM.out | refine bS ?_ yO.out) | exact HB.out))⟩)
       ·skip
        rintro xC w19 ⟨hS_, h0_, h1_, h2_, h3_, h4_, h5_, h6_, h7_, h8_, h9_⟩
        have xX : Aside0 (w19.heap[xA]? = some (.cells #[.int .i64 xU, .int .i64 xS, .int .i64 xR, .int .i64 xQ, .int .i64 xO, .int .i64 xN, .int .i64 xL, .int .i64 xJ, .int .i64 xM, .int .i64 xK, .string xH, .slice yB xP.length yA, .int .i64 xI, .slice xV xT.length xW] 32 (0, 0))) := ⟨h0_⟩
        have xY : Aside0 (w19.heap[xF]? = some (.cells #[.int .i64 0, .int .i64 0, .int .i64 0, .int .i64 0, .int .i64 0, .int .i64 0, .int .i64 0, .int .i64 0, .int .i64 0, .int .i64 0, .string ⟨#[]⟩, .slice none 0 0, .int .i64 0, .slice none 0 0] 32 (0, 0))) := ⟨h1_⟩
        have xZ : Aside0 (w19.heap[xC]? = some (.cells #[.int .i64 0, .int .i64 0, .int .i64 0, .int .i64 0, .int .i64 0, .int .i64 0, .int .i64 0, .int .i64 0, .int .i64 0, .int .i64 0, .string ⟨#[]⟩, .slice none 0 0, .int .i64 0, .slice none 0 0] 32 (0, 0))) := ⟨h2_⟩
        have yC : Aside0 (w.heap.size ≤ xC) := ⟨h3_⟩
        have yD : Aside0 (w.heap.size ≤ xC) := ⟨h4_⟩
        have yG : Aside0 (xA ≠ xC) := ⟨h5_⟩
        have yR : Aside0 (xC ≠ xA) := ⟨h6_⟩
        have yS : Aside0 (xF ≠ xC) := ⟨h7_⟩
        have yT : Aside0 (xC ≠ xF) := ⟨h8_⟩
        have yU : Aside0 (Below w.heap.size w w19) := ⟨h9_⟩
        clear xB
        clear xG
        clear HB
        clear h0_ h1_ h2_ h3_ h4_ h5_ h6_ h7_ h8_ h9_
        have xB := xX
        have xG := xY
        have xD := xZ
        have GW149 := yC
        have yO := yD
        have xE := yG
        have yV := yR
        have yH := yS
        have yW := yT
        have HB := yU
        clear xX xY xZ yC yD yG yR yS yT yU
        have hHeld : w19.cell? ⟨xA, 0, none⟩ = some (.int .i64 xU) ∧ w19.cell? ⟨xA, 1, none⟩ = some (.int .i64 xS) ∧ w19.cell? ⟨xA, 2, none⟩ = some (.int .i64 xR) ∧ w19.cell? ⟨xA, 3, none⟩ = some (.int .i64 xQ) ∧ w19.cell? ⟨xA, 4, none⟩ = some (.int .i64 xO) ∧ w19.cell? ⟨xA, 5, none⟩ = some (.int .i64 xN) ∧ w19.cell? ⟨xA, 6, none⟩ = some (.int .i64 xL) ∧ w19.cell? ⟨xA, 7, none⟩ = some (.int .i64 xJ) ∧ w19.cell? ⟨xA, 8, none⟩ = some (.int .i64 xM) ∧ w19.cell? ⟨xA, 9, none⟩ = some (.int .i64 xK) ∧ w19.cell? ⟨xA, 10, none⟩ = some (.string xH) ∧ w19.cell? ⟨xA, 11, none⟩ = some (.slice yB xP.length yA) ∧ w19.cell? ⟨xA, 12, none⟩ = some (.int .i64 xI) ∧ w19.cell? ⟨xA, 13, none⟩ = some (.slice xV xT.length xW) := hS_
        refine norm_ (a' := ?_) ?_ ?_
        rotate_left
        ·simp only [putAll, Act.put, bL, bO, bU]
         rfl
        refine one_ (i := 17) (N := some 22) #[true, true, true, true, true, true, true, true, true, true, true, true, true, true, true, true, true, true, true, true, false, true, true, false, false, true, false] rfl rfl (one_of HT_.out (by kernel_rfl)) (by decide) (fun K hK => ?_)
        refine goes_ Try.func26 (by kernel_rfl) rfl #[.int .i64 xN] (by rfl) rfl rfl (by (try simp only [List.map_toArray, List.map_cons, List.map_nil]); first | done | rfl | (simp only [List.length_drop, List.length_take]; rfl)) ?_
        with_reducible refine (truchmanref17_low.calls xN yN _ A7.out).mono ?_
        rintro e w' ⟨rfl, ⟨nd, rfl⟩⟩
        refine ⟨_, rfl, ?_⟩
        refine hK.out _ _ ⟨(bC xB.out 0).trans rfl, (bC xB.out 1).trans rfl, (bC xB.out 2).trans rfl, (bC xB.out 3).trans rfl, (bC xB.out 4).trans rfl, (bC xB.out 5).trans rfl, (bC xB.out 6).trans rfl, (bC xB.out 7).trans rfl, (bC xB.out 8).trans rfl, (bC xB.out 9).trans rfl, (bC xB.out 10).trans rfl, (bC xB.out 11).trans rfl, (bC xB.out 12).trans rfl, (bC xB.out 13).trans rfl⟩ (fun hHeld => ?_)
        clear hK K
        refine norm_ (a' := ?_) ?_ ?_
        rotate_left
        ·show Act.put _ (some 22) _ = _
         simp only [Act.put, bL, bO, bU, i64_w, i32_w]
         rfl
        exact norm_ (by first | (simp only [putAll, Act.put, bL, bO, bU]; done) | (simp only [putAll, Act.put, bL, bO, bU]; rfl)) (hJ2_5_8_11_14_17_25 (xC) _ ⟨hHeld, (by (with_reducible repeat (first | refine bN ?_ _ | refine bD ?_ | refine bA ?_ _)); exact xB.out), (by (with_reducible repeat (first | refine bN ?_ _ | refine bD ?_ | refine bA ?_ _)); exact xG.out), (by (with_reducible repeat (first | refine bN ?_ _ | refine bD ?_ | refine bA ?_ _)); exact xD.out), GW149.out, yO.out, xE.out, yV.out, yH.out, yW.out, (by repeat (first | (with_reducible first | exact HB.out | apply below_alloc | apply pw_below_drewN | apply below_drew1 | refine bS ?_ yJ.out | refine bS ?_ yM.out | refine bS ?_ yO.out) | exact HB.out))⟩)
      ·skip
       rintro _ w18 ⟨hS_, h0_, h1_, h2_⟩
       have xX : Aside0 (w18.heap[xA]? = some (.cells #[.int .i64 xU, .int .i64 xS, .int .i64 xR, .int .i64 xQ, .int .i64 xO, .int .i64 xN, .int .i64 xL, .int .i64 xJ, .int .i64 xM, .int .i64 xK, .string xH, .slice yB xP.length yA, .int .i64 xI, .slice xV xT.length xW] 32 (0, 0))) := ⟨h0_⟩
       have xY : Aside0 (w18.heap[xF]? = some (.cells #[.int .i64 0, .int .i64 0, .int .i64 0, .int .i64 0, .int .i64 0, .int .i64 0, .int .i64 0, .int .i64 0, .int .i64 0, .int .i64 0, .string ⟨#[]⟩, .slice none 0 0, .int .i64 0, .slice none 0 0] 32 (0, 0))) := ⟨h1_⟩
       have xZ : Aside0 (Below w.heap.size w w18) := ⟨h2_⟩
       clear xB
       clear xG
       clear HB
       clear h0_ h1_ h2_
       have xB := xX
       have xG := xY
       have HB := xZ
       clear xX xY xZ
       have hHeld : w18.cell? ⟨xA, 0, none⟩ = some (.int .i64 xU) ∧ w18.cell? ⟨xA, 1, none⟩ = some (.int .i64 xS) ∧ w18.cell? ⟨xA, 2, none⟩ = some (.int .i64 xR) ∧ w18.cell? ⟨xA, 3, none⟩ = some (.int .i64 xQ) ∧ w18.cell? ⟨xA, 4, none⟩ = some (.int .i64 xO) ∧ w18.cell? ⟨xA, 5, none⟩ = some (.int .i64 xN) ∧ w18.cell? ⟨xA, 6, none⟩ = some (.int .i64 xL) ∧ w18.cell? ⟨xA, 7, none⟩ = some (.int .i64 xJ) ∧ w18.cell? ⟨xA, 8, none⟩ = some (.int .i64 xM) ∧ w18.cell? ⟨xA, 9, none⟩ = some (.int .i64 xK) ∧ w18.cell? ⟨xA, 10, none⟩ = some (.string xH) ∧ w18.cell? ⟨xA, 11, none⟩ = some (.slice yB xP.length yA) ∧ w18.cell? ⟨xA, 12, none⟩ = some (.int .i64 xI) ∧ w18.cell? ⟨xA, 13, none⟩ = some (.slice xV xT.length xW) := hS_
       refine norm_ (a' := ?_) ?_ ?_
       rotate_left
       ·simp only [putAll, Act.put, bL, bO, bU]
        rfl
       refine two_ (i := 20) (j := 25) (Ni := some 25) (Nj := some 3) #[true, true, true, true, true, true, true, true, true, true, true, true, true, true, true, true, true, true, true, true, true, true, true, false, false, false, false] #[true, true, true, true, true, true, true, true, true, true, true, true, true, true, true, true, true, true, true, true, false, true, true, false, false, true, false] rfl rfl rfl rfl (two_of HT_.out (by kernel_rfl)) (by decide) (by decide) (fun K hK => ?_) (fun K hK => ?_)
       ·skip
        refine goes_ Try.func8 (by kernel_rfl) rfl #[.int .i64 xL, .int .i64 256] (by rfl) rfl rfl (by (try simp only [List.map_toArray, List.map_cons, List.map_nil]); first | done | rfl | (simp only [List.length_drop, List.length_take]; rfl)) ?_
        with_reducible refine (truchmanref01_Around.calls xL 256 yP _ A8.out).mono ?_
        rintro e w' ⟨rfl, ⟨nd, rfl⟩⟩
        refine ⟨_, rfl, ?_⟩
        refine hK.out _ _ ⟨(bC xB.out 0).trans rfl, (bC xB.out 1).trans rfl, (bC xB.out 2).trans rfl, (bC xB.out 3).trans rfl, (bC xB.out 4).trans rfl, (bC xB.out 5).trans rfl, (bC xB.out 6).trans rfl, (bC xB.out 7).trans rfl, (bC xB.out 8).trans rfl, (bC xB.out 9).trans rfl, (bC xB.out 10).trans rfl, (bC xB.out 11).trans rfl, (bC xB.out 12).trans rfl, (bC xB.out 13).trans rfl⟩ (fun hHeld => ?_)
        clear hK K
        refine norm_ (a' := ?_) ?_ ?_
        rotate_left
        ·show Act.put _ (some 25) _ = _
         simp only [Act.put, bL, bO, bU, i64_w, i32_w]
         rfl
        exact norm_ (by first | (simp only [putAll, Act.put, bL, bO, bU]; done) | (simp only [putAll, Act.put, bL, bO, bU]; rfl)) (hJ2_5_8_11_14_17_20 () _ ⟨hHeld, (by (with_reducible repeat (first | refine bN ?_ _ | refine bD ?_ | refine bA ?_ _)); exact xB.out), (by (with_reducible repeat (first | refine bN ?_ _ | refine bD ?_ | refine bA ?_ _)); exact xG.out), (by repeat (first | (with_reducible first | exact HB.out | apply below_alloc | apply pw_below_drewN | apply below_drew1 | refine bS ?_ yJ.out | refine bS ?_ yM.out) | exact HB.out))⟩)
       ·skip
        refine box_step ?hg (N := 3) ?hd (cs := #[.int .i64 0, .int .i64 0, .int .i64 0, .int .i64 0, .int .i64 0, .int .i64 0, .int .i64 0, .int .i64 0, .int .i64 0, .int .i64 0, .string ⟨#[]⟩, .slice none 0 0, .int .i64 0, .slice none 0 0]) (t := 32) ?hr ?_; (case hd => rfl); (case hg => rfl); (case hr => first | (go_simp; done) | (go_simp; rfl))
        intro xC hg w19 hbox hb
        have xX := Aside0.mk (blk_below (g := xA) (o := .cells #[.int .i64 xU, .int .i64 xS, .int .i64 xR, .int .i64 xQ, .int .i64 xO, .int .i64 xN, .int .i64 xL, .int .i64 xJ, .int .i64 xM, .int .i64 xK, .string xH, .slice yB xP.length yA, .int .i64 xI, .slice xV xT.length xW] 32 (0, 0)) (by (with_reducible repeat (first | refine bN ?_ _ | refine bD ?_ | refine bA ?_ _)); exact xB.out) hb)
        have xY := Aside0.mk (blk_below (g := xF) (o := .cells #[.int .i64 0, .int .i64 0, .int .i64 0, .int .i64 0, .int .i64 0, .int .i64 0, .int .i64 0, .int .i64 0, .int .i64 0, .int .i64 0, .string ⟨#[]⟩, .slice none 0 0, .int .i64 0, .slice none 0 0] 32 (0, 0)) (by (with_reducible repeat (first | refine bN ?_ _ | refine bD ?_ | refine bA ?_ _)); exact xG.out) hb)
        have xZ := Aside0.mk (below_step (by repeat (first | (with_reducible first | exact HB.out | apply below_alloc | apply pw_below_drewN | apply below_drew1 | refine bS ?_ yJ.out | refine bS ?_ yM.out) | exact HB.out)) hb)
        have yC := Aside0.mk (hbox)
        have yD := Aside0.mk ((by rw [hg]; exact (below_size (by repeat (first | (with_reducible first | exact HB.out | apply below_alloc | apply pw_below_drewN | apply below_drew1 | refine bS ?_ yJ.out | refine bS ?_ yM.out) | exact HB.out))) : w.heap.size ≤ xC))
        have yG := Aside0.mk ((by rw [hg]; exact (below_size (by repeat (first | (with_reducible first | exact HB.out | apply below_alloc | apply pw_below_drewN | apply below_drew1 | refine bS ?_ yJ.out | refine bS ?_ yM.out) | exact HB.out))) : w.heap.size ≤ xC))
        have yR := Aside0.mk ((by rw [hg]; exact Nat.ne_of_lt (blk_lt (g := xA) (o := .cells #[.int .i64 xU, .int .i64 xS, .int .i64 xR, .int .i64 xQ, .int .i64 xO, .int .i64 xN, .int .i64 xL, .int .i64 xJ, .int .i64 xM, .int .i64 xK, .string xH, .slice yB xP.length yA, .int .i64 xI, .slice xV xT.length xW] 32 (0, 0)) (by (with_reducible repeat (first | refine bN ?_ _ | refine bD ?_ | refine bA ?_ _)); exact xB.out)) : xA ≠ xC))
        have yS := Aside0.mk ((by rw [hg]; exact Nat.ne_of_gt (blk_lt (g := xA) (o := .cells #[.int .i64 xU, .int .i64 xS, .int .i64 xR, .int .i64 xQ, .int .i64 xO, .int .i64 xN, .int .i64 xL, .int .i64 xJ, .int .i64 xM, .int .i64 xK, .string xH, .slice yB xP.length yA, .int .i64 xI, .slice xV xT.length xW] 32 (0, 0)) (by (with_reducible repeat (first | refine bN ?_ _ | refine bD ?_ | refine bA ?_ _)); exact xB.out)) : xC ≠ xA))
        have yT := Aside0.mk ((by rw [hg]; exact Nat.ne_of_lt (blk_lt (g := xF) (o := .cells #[.int .i64 0, .int .i64 0, .int .i64 0, .int .i64 0, .int .i64 0, .int .i64 0, .int .i64 0, .int .i64 0, .int .i64 0, .int .i64 0, .string ⟨#[]⟩, .slice none 0 0, .int .i64 0, .slice none 0 0] 32 (0, 0)) (by (with_reducible repeat (first | refine bN ?_ _ | refine bD ?_ | refine bA ?_ _)); exact xG.out)) : xF ≠ xC))
        have yU := Aside0.mk ((by rw [hg]; exact Nat.ne_of_gt (blk_lt (g := xF) (o := .cells #[.int .i64 0, .int .i64 0, .int .i64 0, .int .i64 0, .int .i64 0, .int .i64 0, .int .i64 0, .int .i64 0, .int .i64 0, .int .i64 0, .string ⟨#[]⟩, .slice none 0 0, .int .i64 0, .slice none 0 0] 32 (0, 0)) (by (with_reducible repeat (first | refine bN ?_ _ | refine bD ?_ | refine bA ?_ _)); exact xG.out)) : xC ≠ xF))
        clear xB
        clear xG
        clear HB
        have xB := xX
        have xG := xY
        have HB := xZ
        have xD := yC
        have GW149 := yD
        have yO := yG
        have xE := yR
        have yV := yS
        have yH := yT
        have yW := yU
        clear xX xY xZ yC yD yG yR yS yT yU
        clear hb hbox hg
        refine hK.out _ _ ⟨(bC xB.out 0).trans rfl, (bC xB.out 1).trans rfl, (bC xB.out 2).trans rfl, (bC xB.out 3).trans rfl, (bC xB.out 4).trans rfl, (bC xB.out 5).trans rfl, (bC xB.out 6).trans rfl, (bC xB.out 7).trans rfl, (bC xB.out 8).trans rfl, (bC xB.out 9).trans rfl, (bC xB.out 10).trans rfl, (bC xB.out 11).trans rfl, (bC xB.out 12).trans rfl, (bC xB.out 13).trans rfl⟩ (fun hHeld => ?_)
        clear hK K
        refine norm_ (a' := ?_) ?_ ?_
        rotate_left
        ·show Act.put _ (some 3) _ = _
         simp only [Act.put, bL, bO, bU, i64_w, i32_w]
         rfl
        exact norm_ (by first | (simp only [putAll, Act.put, bL, bO, bU]; done) | (simp only [putAll, Act.put, bL, bO, bU]; rfl)) (hJ2_5_8_11_14_17_25 (xC) _ ⟨hHeld, (by (with_reducible repeat (first | refine bN ?_ _ | refine bD ?_ | refine bA ?_ _)); exact xB.out), (by (with_reducible repeat (first | refine bN ?_ _ | refine bD ?_ | refine bA ?_ _)); exact xG.out), (by (with_reducible repeat (first | refine bN ?_ _ | refine bD ?_ | refine bA ?_ _)); exact xD.out), GW149.out, yO.out, xE.out, yV.out, yH.out, yW.out, (by repeat (first | (with_reducible first | exact HB.out | apply below_alloc | apply pw_below_drewN | apply below_drew1 | refine bS ?_ yJ.out | refine bS ?_ yM.out | refine bS ?_ yO.out) | exact HB.out))⟩)
     ·skip
      rintro xC w19 ⟨hS_, h0_, h1_, h2_, h3_, h4_, h5_, h6_, h7_, h8_, h9_⟩
      have xX : Aside0 (w19.heap[xA]? = some (.cells #[.int .i64 xU, .int .i64 xS, .int .i64 xR, .int .i64 xQ, .int .i64 xO, .int .i64 xN, .int .i64 xL, .int .i64 xJ, .int .i64 xM, .int .i64 xK, .string xH, .slice yB xP.length yA, .int .i64 xI, .slice xV xT.length xW] 32 (0, 0))) := ⟨h0_⟩
      have xY : Aside0 (w19.heap[xF]? = some (.cells #[.int .i64 0, .int .i64 0, .int .i64 0, .int .i64 0, .int .i64 0, .int .i64 0, .int .i64 0, .int .i64 0, .int .i64 0, .int .i64 0, .string ⟨#[]⟩, .slice none 0 0, .int .i64 0, .slice none 0 0] 32 (0, 0))) := ⟨h1_⟩
      have xZ : Aside0 (w19.heap[xC]? = some (.cells #[.int .i64 0, .int .i64 0, .int .i64 0, .int .i64 0, .int .i64 0, .int .i64 0, .int .i64 0, .int .i64 0, .int .i64 0, .int .i64 0, .string ⟨#[]⟩, .slice none 0 0, .int .i64 0, .slice none 0 0] 32 (0, 0))) := ⟨h2_⟩
      have yC : Aside0 (w.heap.size ≤ xC) := ⟨h3_⟩
      have yD : Aside0 (w.heap.size ≤ xC) := ⟨h4_⟩
      have yG : Aside0 (xA ≠ xC) := ⟨h5_⟩
      have yR : Aside0 (xC ≠ xA) := ⟨h6_⟩
      have yS : Aside0 (xF ≠ xC) := ⟨h7_⟩
      have yT : Aside0 (xC ≠ xF) := ⟨h8_⟩
      have yU : Aside0 (Below w.heap.size w w19) := ⟨h9_⟩
      clear xB
      clear xG
      clear HB
      clear h0_ h1_ h2_ h3_ h4_ h5_ h6_ h7_ h8_ h9_
      have xB := xX
      have xG := xY
      have xD := xZ
      have GW149 := yC
      have yO := yD
      have xE := yG
      have yV := yR
      have yH := yS
      have yW := yT
      have HB := yU
      clear xX xY xZ yC yD yG yR yS yT yU
      have hHeld : w19.cell? ⟨xA, 0, none⟩ = some (.int .i64 xU) ∧ w19.cell? ⟨xA, 1, none⟩ = some (.int .i64 xS) ∧ w19.cell? ⟨xA, 2, none⟩ = some (.int .i64 xR) ∧ w19.cell? ⟨xA, 3, none⟩ = some (.int .i64 xQ) ∧ w19.cell? ⟨xA, 4, none⟩ = some (.int .i64 xO) ∧ w19.cell? ⟨xA, 5, none⟩ = some (.int .i64 xN) ∧ w19.cell? ⟨xA, 6, none⟩ = some (.int .i64 xL) ∧ w19.cell? ⟨xA, 7, none⟩ = some (.int .i64 xJ) ∧ w19.cell? ⟨xA, 8, none⟩ = some (.int .i64 xM) ∧ w19.cell? ⟨xA, 9, none⟩ = some (.int .i64 xK) ∧ w19.cell? ⟨xA, 10, none⟩ = some (.string xH) ∧ w19.cell? ⟨xA, 11, none⟩ = some (.slice yB xP.length yA) ∧ w19.cell? ⟨xA, 12, none⟩ = some (.int .i64 xI) ∧ w19.cell? ⟨xA, 13, none⟩ = some (.slice xV xT.length xW) := hS_
      refine norm_ (a' := ?_) ?_ ?_
      rotate_left
      ·simp only [putAll, Act.put, bL, bO, bU]
       rfl
      refine one_ (i := 20) (N := some 25) #[true, true, true, true, true, true, true, true, true, true, true, true, true, true, true, true, true, true, true, true, true, true, true, false, false, true, false] rfl rfl (one_of HT_.out (by kernel_rfl)) (by decide) (fun K hK => ?_)
      refine goes_ Try.func8 (by kernel_rfl) rfl #[.int .i64 xL, .int .i64 256] (by rfl) rfl rfl (by (try simp only [List.map_toArray, List.map_cons, List.map_nil]); first | done | rfl | (simp only [List.length_drop, List.length_take]; rfl)) ?_
      with_reducible refine (truchmanref01_Around.calls xL 256 yP _ A8.out).mono ?_
      rintro e w' ⟨rfl, ⟨nd, rfl⟩⟩
      refine ⟨_, rfl, ?_⟩
      refine hK.out _ _ ⟨(bC xB.out 0).trans rfl, (bC xB.out 1).trans rfl, (bC xB.out 2).trans rfl, (bC xB.out 3).trans rfl, (bC xB.out 4).trans rfl, (bC xB.out 5).trans rfl, (bC xB.out 6).trans rfl, (bC xB.out 7).trans rfl, (bC xB.out 8).trans rfl, (bC xB.out 9).trans rfl, (bC xB.out 10).trans rfl, (bC xB.out 11).trans rfl, (bC xB.out 12).trans rfl, (bC xB.out 13).trans rfl⟩ (fun hHeld => ?_)
      clear hK K
      refine norm_ (a' := ?_) ?_ ?_
      rotate_left
      ·show Act.put _ (some 25) _ = _
       simp only [Act.put, bL, bO, bU, i64_w, i32_w]
       rfl
      exact norm_ (by first | (simp only [putAll, Act.put, bL, bO, bU]; done) | (simp only [putAll, Act.put, bL, bO, bU]; rfl)) (hJ2_5_8_11_14_17_20_25 (xC) _ ⟨hHeld, (by (with_reducible repeat (first | refine bN ?_ _ | refine bD ?_ | refine bA ?_ _)); exact xB.out), (by (with_reducible repeat (first | refine bN ?_ _ | refine bD ?_ | refine bA ?_ _)); exact xG.out), (by (with_reducible repeat (first | refine bN ?_ _ | refine bD ?_ | refine bA ?_ _)); exact xD.out), GW149.out, yO.out, xE.out, yV.out, yH.out, yW.out, (by repeat (first | (with_reducible first | exact HB.out | apply below_alloc | apply pw_below_drewN | apply below_drew1 | refine bS ?_ yJ.out | refine bS ?_ yM.out | refine bS ?_ yO.out) | exact HB.out))⟩)
    ·skip
     rintro _ w18 ⟨hS_, h0_, h1_, h2_⟩
     have xX : Aside0 (w18.heap[xA]? = some (.cells #[.int .i64 xU, .int .i64 xS, .int .i64 xR, .int .i64 xQ, .int .i64 xO, .int .i64 xN, .int .i64 xL, .int .i64 xJ, .int .i64 xM, .int .i64 xK, .string xH, .slice yB xP.length yA, .int .i64 xI, .slice xV xT.length xW] 32 (0, 0))) := ⟨h0_⟩
     have xY : Aside0 (w18.heap[xF]? = some (.cells #[.int .i64 0, .int .i64 0, .int .i64 0, .int .i64 0, .int .i64 0, .int .i64 0, .int .i64 0, .int .i64 0, .int .i64 0, .int .i64 0, .string ⟨#[]⟩, .slice none 0 0, .int .i64 0, .slice none 0 0] 32 (0, 0))) := ⟨h1_⟩
     have xZ : Aside0 (Below w.heap.size w w18) := ⟨h2_⟩
     clear xB
     clear xG
     clear HB
     clear h0_ h1_ h2_
     have xB := xX
     have xG := xY
     have HB := xZ
     clear xX xY xZ
     have hHeld : w18.cell? ⟨xA, 0, none⟩ = some (.int .i64 xU) ∧ w18.cell? ⟨xA, 1, none⟩ = some (.int .i64 xS) ∧ w18.cell? ⟨xA, 2, none⟩ = some (.int .i64 xR) ∧ w18.cell? ⟨xA, 3, none⟩ = some (.int .i64 xQ) ∧ w18.cell? ⟨xA, 4, none⟩ = some (.int .i64 xO) ∧ w18.cell? ⟨xA, 5, none⟩ = some (.int .i64 xN) ∧ w18.cell? ⟨xA, 6, none⟩ = some (.int .i64 xL) ∧ w18.cell? ⟨xA, 7, none⟩ = some (.int .i64 xJ) ∧ w18.cell? ⟨xA, 8, none⟩ = some (.int .i64 xM) ∧ w18.cell? ⟨xA, 9, none⟩ = some (.int .i64 xK) ∧ w18.cell? ⟨xA, 10, none⟩ = some (.string xH) ∧ w18.cell? ⟨xA, 11, none⟩ = some (.slice yB xP.length yA) ∧ w18.cell? ⟨xA, 12, none⟩ = some (.int .i64 xI) ∧ w18.cell? ⟨xA, 13, none⟩ = some (.slice xV xT.length xW) := hS_
     refine norm_ (a' := ?_) ?_ ?_
     rotate_left
     ·simp only [putAll, Act.put, bL, bO, bU]
      rfl
     refine two_ (i := 23) (j := 25) (Ni := some 28) (Nj := some 3) #[true, true, true, true, true, true, true, true, true, true, true, true, true, true, true, true, true, true, true, true, true, true, true, true, false, false, false] #[true, true, true, true, true, true, true, true, true, true, true, true, true, true, true, true, true, true, true, true, true, true, true, false, false, true, false] rfl rfl rfl rfl (two_of HT_.out (by kernel_rfl)) (by decide) (by decide) (fun K hK => ?_) (fun K hK => ?_)
     ·skip
      refine goes_ Try.func26 (by kernel_rfl) rfl #[.int .i64 xJ] (by rfl) rfl rfl (by (try simp only [List.map_toArray, List.map_cons, List.map_nil]); first | done | rfl | (simp only [List.length_drop, List.length_take]; rfl)) ?_
      with_reducible refine (truchmanref17_low.calls xJ yQ _ A9.out).mono ?_
      rintro e w' ⟨rfl, ⟨nd, rfl⟩⟩
      refine ⟨_, rfl, ?_⟩
      refine hK.out _ _ ⟨(bC xB.out 0).trans rfl, (bC xB.out 1).trans rfl, (bC xB.out 2).trans rfl, (bC xB.out 3).trans rfl, (bC xB.out 4).trans rfl, (bC xB.out 5).trans rfl, (bC xB.out 6).trans rfl, (bC xB.out 7).trans rfl, (bC xB.out 8).trans rfl, (bC xB.out 9).trans rfl, (bC xB.out 10).trans rfl, (bC xB.out 11).trans rfl, (bC xB.out 12).trans rfl, (bC xB.out 13).trans rfl⟩ (fun hHeld => ?_)
      clear hK K
      refine norm_ (a' := ?_) ?_ ?_
      rotate_left
      ·show Act.put _ (some 28) _ = _
       simp only [Act.put, bL, bO, bU, i64_w, i32_w]
       rfl
      refine pure_ (i := 24) (N := some 29) (v := ?_) (a' := ?_) #[true, true, true, true, true, true, true, true, true, true, true, true, true, true, true, true, true, true, true, true, true, true, true, true, true, false, false] rfl rfl (any_of HT_.out (by kernel_rfl)) (fun _ _ _ h => h) (Or.inl ⟨by rfl, ?_⟩) ?_ ?_
      rotate_left
      ·intro w'
       go_simp
       with_reducible rfl
      rotate_left
      ·simp only [Act.put, bL, bO, bU, i64_w, i32_w]
       rfl
      exact norm_ (by first | (simp only [putAll, Act.put, bL, bO, bU]; done) | (simp only [putAll, Act.put, bL, bO, bU]; rfl)) (hJ2_5_8_11_14_17_20_23 () _ ⟨hHeld, (by (with_reducible repeat (first | refine bN ?_ _ | refine bD ?_ | refine bA ?_ _)); exact xB.out), (by (with_reducible repeat (first | refine bN ?_ _ | refine bD ?_ | refine bA ?_ _)); exact xG.out), (by repeat (first | (with_reducible first | exact HB.out | apply below_alloc | apply pw_below_drewN | apply below_drew1 | refine bS ?_ yJ.out | refine bS ?_ yM.out) | exact HB.out))⟩)
     ·skip
      refine box_step ?hg (N := 3) ?hd (cs := #[.int .i64 0, .int .i64 0, .int .i64 0, .int .i64 0, .int .i64 0, .int .i64 0, .int .i64 0, .int .i64 0, .int .i64 0, .int .i64 0, .string ⟨#[]⟩, .slice none 0 0, .int .i64 0, .slice none 0 0]) (t := 32) ?hr ?_; (case hd => rfl); (case hg => rfl); (case hr => first | (go_simp; done) | (go_simp; rfl))
      intro xC hg w19 hbox hb
      have xX := Aside0.mk (blk_below (g := xA) (o := .cells #[.int .i64 xU, .int .i64 xS, .int .i64 xR, .int .i64 xQ, .int .i64 xO, .int .i64 xN, .int .i64 xL, .int .i64 xJ, .int .i64 xM, .int .i64 xK, .string xH, .slice yB xP.length yA, .int .i64 xI, .slice xV xT.length xW] 32 (0, 0)) (by (with_reducible repeat (first | refine bN ?_ _ | refine bD ?_ | refine bA ?_ _)); exact xB.out) hb)
      have xY := Aside0.mk (blk_below (g := xF) (o := .cells #[.int .i64 0, .int .i64 0, .int .i64 0, .int .i64 0, .int .i64 0, .int .i64 0, .int .i64 0, .int .i64 0, .int .i64 0, .int .i64 0, .string ⟨#[]⟩, .slice none 0 0, .int .i64 0, .slice none 0 0] 32 (0, 0)) (by (with_reducible repeat (first | refine bN ?_ _ | refine bD ?_ | refine bA ?_ _)); exact xG.out) hb)
      have xZ := Aside0.mk (below_step (by repeat (first | (with_reducible first | exact HB.out | apply below_alloc | apply pw_below_drewN | apply below_drew1 | refine bS ?_ yJ.out | refine bS ?_ yM.out) | exact HB.out)) hb)
      have yC := Aside0.mk (hbox)
      have yD := Aside0.mk ((by rw [hg]; exact (below_size (by repeat (first | (with_reducible first | exact HB.out | apply below_alloc | apply pw_below_drewN | apply below_drew1 | refine bS ?_ yJ.out | refine bS ?_ yM.out) | exact HB.out))) : w.heap.size ≤ xC))
      have yG := Aside0.mk ((by rw [hg]; exact (below_size (by repeat (first | (with_reducible first | exact HB.out | apply below_alloc | apply pw_below_drewN | apply below_drew1 | refine bS ?_ yJ.out | refine bS ?_ yM.out) | exact HB.out))) : w.heap.size ≤ xC))
      have yR := Aside0.mk ((by rw [hg]; exact Nat.ne_of_lt (blk_lt (g := xA) (o := .cells #[.int .i64 xU, .int .i64 xS, .int .i64 xR, .int .i64 xQ, .int .i64 xO, .int .i64 xN, .int .i64 xL, .int .i64 xJ, .int .i64 xM, .int .i64 xK, .string xH, .slice yB xP.length yA, .int .i64 xI, .slice xV xT.length xW] 32 (0, 0)) (by (with_reducible repeat (first | refine bN ?_ _ | refine bD ?_ | refine bA ?_ _)); exact xB.out)) : xA ≠ xC))
      have yS := Aside0.mk ((by rw [hg]; exact Nat.ne_of_gt (blk_lt (g := xA) (o := .cells #[.int .i64 xU, .int .i64 xS, .int .i64 xR, .int .i64 xQ, .int .i64 xO, .int .i64 xN, .int .i64 xL, .int .i64 xJ, .int .i64 xM, .int .i64 xK, .string xH, .slice yB xP.length yA, .int .i64 xI, .slice xV xT.length xW] 32 (0, 0)) (by (with_reducible repeat (first | refine bN ?_ _ | refine bD ?_ | refine bA ?_ _)); exact xB.out)) : xC ≠ xA))
      have yT := Aside0.mk ((by rw [hg]; exact Nat.ne_of_lt (blk_lt (g := xF) (o := .cells #[.int .i64 0, .int .i64 0, .int .i64 0, .int .i64 0, .int .i64 0, .int .i64 0, .int .i64 0, .int .i64 0, .int .i64 0, .int .i64 0, .string ⟨#[]⟩, .slice none 0 0, .int .i64 0, .slice none 0 0] 32 (0, 0)) (by (with_reducible repeat (first | refine bN ?_ _ | refine bD ?_ | refine bA ?_ _)); exact xG.out)) : xF ≠ xC))
      have yU := Aside0.mk ((by rw [hg]; exact Nat.ne_of_gt (blk_lt (g := xF) (o := .cells #[.int .i64 0, .int .i64 0, .int .i64 0, .int .i64 0, .int .i64 0, .int .i64 0, .int .i64 0, .int .i64 0, .int .i64 0, .int .i64 0, .string ⟨#[]⟩, .slice none 0 0, .int .i64 0, .slice none 0 0] 32 (0, 0)) (by (with_reducible repeat (first | refine bN ?_ _ | refine bD ?_ | refine bA ?_ _)); exact xG.out)) : xC ≠ xF))
      clear xB
      clear xG
      clear HB
      have xB := xX
      have xG := xY
      have HB := xZ
      have xD := yC
      have GW149 := yD
      have yO := yG
      have xE := yR
      have yV := yS
      have yH := yT
      have yW := yU
      clear xX xY xZ yC yD yG yR yS yT yU
      clear hb hbox hg
      refine hK.out _ _ ⟨(bC xB.out 0).trans rfl, (bC xB.out 1).trans rfl, (bC xB.out 2).trans rfl, (bC xB.out 3).trans rfl, (bC xB.out 4).trans rfl, (bC xB.out 5).trans rfl, (bC xB.out 6).trans rfl, (bC xB.out 7).trans rfl, (bC xB.out 8).trans rfl, (bC xB.out 9).trans rfl, (bC xB.out 10).trans rfl, (bC xB.out 11).trans rfl, (bC xB.out 12).trans rfl, (bC xB.out 13).trans rfl⟩ (fun hHeld => ?_)
      clear hK K
      refine norm_ (a' := ?_) ?_ ?_
      rotate_left
      ·show Act.put _ (some 3) _ = _
       simp only [Act.put, bL, bO, bU, i64_w, i32_w]
       rfl
      exact norm_ (by first | (simp only [putAll, Act.put, bL, bO, bU]; done) | (simp only [putAll, Act.put, bL, bO, bU]; rfl)) (hJ2_5_8_11_14_17_20_25 (xC) _ ⟨hHeld, (by (with_reducible repeat (first | refine bN ?_ _ | refine bD ?_ | refine bA ?_ _)); exact xB.out), (by (with_reducible repeat (first | refine bN ?_ _ | refine bD ?_ | refine bA ?_ _)); exact xG.out), (by (with_reducible repeat (first | refine bN ?_ _ | refine bD ?_ | refine bA ?_ _)); exact xD.out), GW149.out, yO.out, xE.out, yV.out, yH.out, yW.out, (by repeat (first | (with_reducible first | exact HB.out | apply below_alloc | apply pw_below_drewN | apply below_drew1 | refine bS ?_ yJ.out | refine bS ?_ yM.out | refine bS ?_ yO.out) | exact HB.out))⟩)
   ·skip
    rintro xC w19 ⟨hS_, h0_, h1_, h2_, h3_, h4_, h5_, h6_, h7_, h8_, h9_⟩
    have xX : Aside0 (w19.heap[xA]? = some (.cells #[.int .i64 xU, .int .i64 xS, .int .i64 xR, .int .i64 xQ, .int .i64 xO, .int .i64 xN, .int .i64 xL, .int .i64 xJ, .int .i64 xM, .int .i64 xK, .string xH, .slice yB xP.length yA, .int .i64 xI, .slice xV xT.length xW] 32 (0, 0))) := ⟨h0_⟩
    have xY : Aside0 (w19.heap[xF]? = some (.cells #[.int .i64 0, .int .i64 0, .int .i64 0, .int .i64 0, .int .i64 0, .int .i64 0, .int .i64 0, .int .i64 0, .int .i64 0, .int .i64 0, .string ⟨#[]⟩, .slice none 0 0, .int .i64 0, .slice none 0 0] 32 (0, 0))) := ⟨h1_⟩
    have xZ : Aside0 (w19.heap[xC]? = some (.cells #[.int .i64 0, .int .i64 0, .int .i64 0, .int .i64 0, .int .i64 0, .int .i64 0, .int .i64 0, .int .i64 0, .int .i64 0, .int .i64 0, .string ⟨#[]⟩, .slice none 0 0, .int .i64 0, .slice none 0 0] 32 (0, 0))) := ⟨h2_⟩
    have yC : Aside0 (w.heap.size ≤ xC) := ⟨h3_⟩
    have yD : Aside0 (w.heap.size ≤ xC) := ⟨h4_⟩
    have yG : Aside0 (xA ≠ xC) := ⟨h5_⟩
    have yR : Aside0 (xC ≠ xA) := ⟨h6_⟩
    have yS : Aside0 (xF ≠ xC) := ⟨h7_⟩
    have yT : Aside0 (xC ≠ xF) := ⟨h8_⟩
    have yU : Aside0 (Below w.heap.size w w19) := ⟨h9_⟩
    clear xB
    clear xG
    clear HB
    clear h0_ h1_ h2_ h3_ h4_ h5_ h6_ h7_ h8_ h9_
    have xB := xX
    have xG := xY
    have xD := xZ
    have GW149 := yC
    have yO := yD
    have xE := yG
    have yV := yR
    have yH := yS
    have yW := yT
    have HB := yU
    clear xX xY xZ yC yD yG yR yS yT yU
    have hHeld : w19.cell? ⟨xA, 0, none⟩ = some (.int .i64 xU) ∧ w19.cell? ⟨xA, 1, none⟩ = some (.int .i64 xS) ∧ w19.cell? ⟨xA, 2, none⟩ = some (.int .i64 xR) ∧ w19.cell? ⟨xA, 3, none⟩ = some (.int .i64 xQ) ∧ w19.cell? ⟨xA, 4, none⟩ = some (.int .i64 xO) ∧ w19.cell? ⟨xA, 5, none⟩ = some (.int .i64 xN) ∧ w19.cell? ⟨xA, 6, none⟩ = some (.int .i64 xL) ∧ w19.cell? ⟨xA, 7, none⟩ = some (.int .i64 xJ) ∧ w19.cell? ⟨xA, 8, none⟩ = some (.int .i64 xM) ∧ w19.cell? ⟨xA, 9, none⟩ = some (.int .i64 xK) ∧ w19.cell? ⟨xA, 10, none⟩ = some (.string xH) ∧ w19.cell? ⟨xA, 11, none⟩ = some (.slice yB xP.length yA) ∧ w19.cell? ⟨xA, 12, none⟩ = some (.int .i64 xI) ∧ w19.cell? ⟨xA, 13, none⟩ = some (.slice xV xT.length xW) := hS_
    refine norm_ (a' := ?_) ?_ ?_
    rotate_left
    ·simp only [putAll, Act.put, bL, bO, bU]
     rfl
    refine one_ (i := 23) (N := some 28) #[true, true, true, true, true, true, true, true, true, true, true, true, true, true, true, true, true, true, true, true, true, true, true, true, false, true, false] rfl rfl (one_of HT_.out (by kernel_rfl)) (by decide) (fun K hK => ?_)
    refine goes_ Try.func26 (by kernel_rfl) rfl #[.int .i64 xJ] (by rfl) rfl rfl (by (try simp only [List.map_toArray, List.map_cons, List.map_nil]); first | done | rfl | (simp only [List.length_drop, List.length_take]; rfl)) ?_
    with_reducible refine (truchmanref17_low.calls xJ yQ _ A9.out).mono ?_
    rintro e w' ⟨rfl, ⟨nd, rfl⟩⟩
    refine ⟨_, rfl, ?_⟩
    refine hK.out _ _ ⟨(bC xB.out 0).trans rfl, (bC xB.out 1).trans rfl, (bC xB.out 2).trans rfl, (bC xB.out 3).trans rfl, (bC xB.out 4).trans rfl, (bC xB.out 5).trans rfl, (bC xB.out 6).trans rfl, (bC xB.out 7).trans rfl, (bC xB.out 8).trans rfl, (bC xB.out 9).trans rfl, (bC xB.out 10).trans rfl, (bC xB.out 11).trans rfl, (bC xB.out 12).trans rfl, (bC xB.out 13).trans rfl⟩ (fun hHeld => ?_)
    clear hK K
    refine norm_ (a' := ?_) ?_ ?_
    rotate_left
    ·show Act.put _ (some 28) _ = _
     simp only [Act.put, bL, bO, bU, i64_w, i32_w]
     rfl
    refine pure_ (i := 24) (N := some 29) (v := ?_) (a' := ?_) #[true, true, true, true, true, true, true, true, true, true, true, true, true, true, true, true, true, true, true, true, true, true, true, true, true, true, false] rfl rfl (any_of HT_.out (by kernel_rfl)) (fun _ _ _ h => h) (Or.inl ⟨by rfl, ?_⟩) ?_ ?_
    rotate_left
    ·intro w'
     go_simp
     with_reducible rfl
    rotate_left
    ·simp only [Act.put, bL, bO, bU, i64_w, i32_w]
     rfl
    exact norm_ (by first | (simp only [putAll, Act.put, bL, bO, bU]; done) | (simp only [putAll, Act.put, bL, bO, bU]; rfl)) (hJ2_5_8_11_14_17_20_23_25 (xC) _ ⟨hHeld, (by (with_reducible repeat (first | refine bN ?_ _ | refine bD ?_ | refine bA ?_ _)); exact xB.out), (by (with_reducible repeat (first | refine bN ?_ _ | refine bD ?_ | refine bA ?_ _)); exact xG.out), (by (with_reducible repeat (first | refine bN ?_ _ | refine bD ?_ | refine bA ?_ _)); exact xD.out), GW149.out, yO.out, xE.out, yV.out, yH.out, yW.out, (by repeat (first | (with_reducible first | exact HB.out | apply below_alloc | apply pw_below_drewN | apply below_drew1 | refine bS ?_ yJ.out | refine bS ?_ yM.out | refine bS ?_ yO.out) | exact HB.out))⟩)
  ·skip
   rintro _ w18 ⟨hS_, h0_, h1_, h2_⟩
   have xX : Aside0 (w18.heap[xA]? = some (.cells #[.int .i64 xU, .int .i64 xS, .int .i64 xR, .int .i64 xQ, .int .i64 xO, .int .i64 xN, .int .i64 xL, .int .i64 xJ, .int .i64 xM, .int .i64 xK, .string xH, .slice yB xP.length yA, .int .i64 xI, .slice xV xT.length xW] 32 (0, 0))) := ⟨h0_⟩
   have xY : Aside0 (w18.heap[xF]? = some (.cells #[.int .i64 0, .int .i64 0, .int .i64 0, .int .i64 0, .int .i64 0, .int .i64 0, .int .i64 0, .int .i64 0, .int .i64 0, .int .i64 0, .string ⟨#[]⟩, .slice none 0 0, .int .i64 0, .slice none 0 0] 32 (0, 0))) := ⟨h1_⟩
   have xZ : Aside0 (Below w.heap.size w w18) := ⟨h2_⟩
   clear xB
   clear xG
   clear HB
   clear h0_ h1_ h2_
   have xB := xX
   have xG := xY
   have HB := xZ
   clear xX xY xZ
   have hHeld : w18.cell? ⟨xA, 0, none⟩ = some (.int .i64 xU) ∧ w18.cell? ⟨xA, 1, none⟩ = some (.int .i64 xS) ∧ w18.cell? ⟨xA, 2, none⟩ = some (.int .i64 xR) ∧ w18.cell? ⟨xA, 3, none⟩ = some (.int .i64 xQ) ∧ w18.cell? ⟨xA, 4, none⟩ = some (.int .i64 xO) ∧ w18.cell? ⟨xA, 5, none⟩ = some (.int .i64 xN) ∧ w18.cell? ⟨xA, 6, none⟩ = some (.int .i64 xL) ∧ w18.cell? ⟨xA, 7, none⟩ = some (.int .i64 xJ) ∧ w18.cell? ⟨xA, 8, none⟩ = some (.int .i64 xM) ∧ w18.cell? ⟨xA, 9, none⟩ = some (.int .i64 xK) ∧ w18.cell? ⟨xA, 10, none⟩ = some (.string xH) ∧ w18.cell? ⟨xA, 11, none⟩ = some (.slice yB xP.length yA) ∧ w18.cell? ⟨xA, 12, none⟩ = some (.int .i64 xI) ∧ w18.cell? ⟨xA, 13, none⟩ = some (.slice xV xT.length xW) := hS_
   refine norm_ (a' := ?_) ?_ ?_
   rotate_left
   ·simp only [putAll, Act.put, bL, bO, bU]
    rfl
   refine one_ (i := 25) (N := some 3) #[true, true, true, true, true, true, true, true, true, true, true, true, true, true, true, true, true, true, true, true, true, true, true, true, true, true, false] rfl rfl (one_of HT_.out (by kernel_rfl)) (by decide) (fun K hK => ?_)
   refine box_step ?hg (N := 3) ?hd (cs := #[.int .i64 0, .int .i64 0, .int .i64 0, .int .i64 0, .int .i64 0, .int .i64 0, .int .i64 0, .int .i64 0, .int .i64 0, .int .i64 0, .string ⟨#[]⟩, .slice none 0 0, .int .i64 0, .slice none 0 0]) (t := 32) ?hr ?_; (case hd => rfl); (case hg => rfl); (case hr => first | (go_simp; done) | (go_simp; rfl))
   intro xC hg w19 hbox hb
   have xX := Aside0.mk (blk_below (g := xA) (o := .cells #[.int .i64 xU, .int .i64 xS, .int .i64 xR, .int .i64 xQ, .int .i64 xO, .int .i64 xN, .int .i64 xL, .int .i64 xJ, .int .i64 xM, .int .i64 xK, .string xH, .slice yB xP.length yA, .int .i64 xI, .slice xV xT.length xW] 32 (0, 0)) (by (with_reducible repeat (first | refine bN ?_ _ | refine bD ?_ | refine bA ?_ _)); exact xB.out) hb)
   have xY := Aside0.mk (blk_below (g := xF) (o := .cells #[.int .i64 0, .int .i64 0, .int .i64 0, .int .i64 0, .int .i64 0, .int .i64 0, .int .i64 0, .int .i64 0, .int .i64 0, .int .i64 0, .string ⟨#[]⟩, .slice none 0 0, .int .i64 0, .slice none 0 0] 32 (0, 0)) (by (with_reducible repeat (first | refine bN ?_ _ | refine bD ?_ | refine bA ?_ _)); exact xG.out) hb)
   have xZ := Aside0.mk (below_step (by repeat (first | (with_reducible first | exact HB.out | apply below_alloc | apply pw_below_drewN | apply below_drew1 | refine bS ?_ yJ.out | refine bS ?_ yM.out) | exact HB.out)) hb)
   have yC := Aside0.mk (hbox)
   have yD := Aside0.mk ((by rw [hg]; exact (below_size (by repeat (first | (with_reducible first | exact HB.out | apply below_alloc | apply pw_below_drewN | apply below_drew1 | refine bS ?_ yJ.out | refine bS ?_ yM.out) | exact HB.out))) : w.heap.size ≤ xC))
   have yG := Aside0.mk ((by rw [hg]; exact (below_size (by repeat (first | (with_reducible first | exact HB.out | apply below_alloc | apply pw_below_drewN | apply below_drew1 | refine bS ?_ yJ.out | refine bS ?_ yM.out) | exact HB.out))) : w.heap.size ≤ xC))
   have yR := Aside0.mk ((by rw [hg]; exact Nat.ne_of_lt (blk_lt (g := xA) (o := .cells #[.int .i64 xU, .int .i64 xS, .int .i64 xR, .int .i64 xQ, .int .i64 xO, .int .i64 xN, .int .i64 xL, .int .i64 xJ, .int .i64 xM, .int .i64 xK, .string xH, .slice yB xP.length yA, .int .i64 xI, .slice xV xT.length xW] 32 (0, 0)) (by (with_reducible repeat (first | refine bN ?_ _ | refine bD ?_ | refine bA ?_ _)); exact xB.out)) : xA ≠ xC))
   have yS := Aside0.mk ((by rw [hg]; exact Nat.ne_of_gt (blk_lt (g := xA) (o := .cells #[.int .i64 xU, .int .i64 xS, .int .i64 xR, .int .i64 xQ, .int .i64 xO, .int .i64 xN, .int .i64 xL, .int .i64 xJ, .int .i64 xM, .int .i64 xK, .string xH, .slice yB xP.length yA, .int .i64 xI, .slice xV xT.length xW] 32 (0, 0)) (by (with_reducible repeat (first | refine bN ?_ _ | refine bD ?_ | refine bA ?_ _)); exact xB.out)) : xC ≠ xA))
   have yT := Aside0.mk ((by rw [hg]; exact Nat.ne_of_lt (blk_lt (g := xF) (o := .cells #[.int .i64 0, .int .i64 0, .int .i64 0, .int .i64 0, .int .i64 0, .int .i64 0, .int .i64 0, .int .i64 0, .int .i64 0, .int .i64 0, .string ⟨#[]⟩, .slice none 0 0, .int .i64 0, .slice none 0 0] 32 (0, 0)) (by (with_reducible repeat (first | refine bN ?_ _ | refine bD ?_ | refine bA ?_ _)); exact xG.out)) : xF ≠ xC))
   have yU := Aside0.mk ((by rw [hg]; exact Nat.ne_of_gt (blk_lt (g := xF) (o := .cells #[.int .i64 0, .int .i64 0, .int .i64 0, .int .i64 0, .int .i64 0, .int .i64 0, .int .i64 0, .int .i64 0, .int .i64 0, .int .i64 0, .string ⟨#[]⟩, .slice none 0 0, .int .i64 0, .slice none 0 0] 32 (0, 0)) (by (with_reducible repeat (first | refine bN ?_ _ | refine bD ?_ | refine bA ?_ _)); exact xG.out)) : xC ≠ xF))
   clear xB
   clear xG
   clear HB
   have xB := xX
   have xG := xY
   have HB := xZ
   have xD := yC
   have GW149 := yD
   have yO := yG
   have xE := yR
   have yV := yS
   have yH := yT
   have yW := yU
   clear xX xY xZ yC yD yG yR yS yT yU
   clear hb hbox hg
   refine hK.out _ _ ⟨(bC xB.out 0).trans rfl, (bC xB.out 1).trans rfl, (bC xB.out 2).trans rfl, (bC xB.out 3).trans rfl, (bC xB.out 4).trans rfl, (bC xB.out 5).trans rfl, (bC xB.out 6).trans rfl, (bC xB.out 7).trans rfl, (bC xB.out 8).trans rfl, (bC xB.out 9).trans rfl, (bC xB.out 10).trans rfl, (bC xB.out 11).trans rfl, (bC xB.out 12).trans rfl, (bC xB.out 13).trans rfl⟩ (fun hHeld => ?_)
   clear hK K
   refine norm_ (a' := ?_) ?_ ?_
   rotate_left
   ·show Act.put _ (some 3) _ = _
    simp only [Act.put, bL, bO, bU, i64_w, i32_w]
    rfl
   exact norm_ (by first | (simp only [putAll, Act.put, bL, bO, bU]; done) | (simp only [putAll, Act.put, bL, bO, bU]; rfl)) (hJ2_5_8_11_14_17_20_23_25 (xC) _ ⟨hHeld, (by (with_reducible repeat (first | refine bN ?_ _ | refine bD ?_ | refine bA ?_ _)); exact xB.out), (by (with_reducible repeat (first | refine bN ?_ _ | refine bD ?_ | refine bA ?_ _)); exact xG.out), (by (with_reducible repeat (first | refine bN ?_ _ | refine bD ?_ | refine bA ?_ _)); exact xD.out), GW149.out, yO.out, xE.out, yV.out, yH.out, yW.out, (by repeat (first | (with_reducible first | exact HB.out | apply below_alloc | apply pw_below_drewN | apply below_drew1 | refine bS ?_ yJ.out | refine bS ?_ yM.out | refine bS ?_ yO.out) | exact HB.out))⟩)
 rintro xC w19 ⟨hS_, h0_, h1_, h2_, h3_, h4_, h5_, h6_, h7_, h8_, h9_⟩
 have xX : Aside0 (w19.heap[xA]? = some (.cells #[.int .i64 xU, .int .i64 xS, .int .i64 xR, .int .i64 xQ, .int .i64 xO, .int .i64 xN, .int .i64 xL, .int .i64 xJ, .int .i64 xM, .int .i64 xK, .string xH, .slice yB xP.length yA, .int .i64 xI, .slice xV xT.length xW] 32 (0, 0))) := ⟨h0_⟩
 have xY : Aside0 (w19.heap[xF]? = some (.cells #[.int .i64 0, .int .i64 0, .int .i64 0, .int .i64 0, .int .i64 0, .int .i64 0, .int .i64 0, .int .i64 0, .int .i64 0, .int .i64 0, .string ⟨#[]⟩, .slice none 0 0, .int .i64 0, .slice none 0 0] 32 (0, 0))) := ⟨h1_⟩
 have xZ : Aside0 (w19.heap[xC]? = some (.cells #[.int .i64 0, .int .i64 0, .int .i64 0, .int .i64 0, .int .i64 0, .int .i64 0, .int .i64 0, .int .i64 0, .int .i64 0, .int .i64 0, .string ⟨#[]⟩, .slice none 0 0, .int .i64 0, .slice none 0 0] 32 (0, 0))) := ⟨h2_⟩
 have yC : Aside0 (w.heap.size ≤ xC) := ⟨h3_⟩
 have yD : Aside0 (w.heap.size ≤ xC) := ⟨h4_⟩
 have yG : Aside0 (xA ≠ xC) := ⟨h5_⟩
 have yR : Aside0 (xC ≠ xA) := ⟨h6_⟩
 have yS : Aside0 (xF ≠ xC) := ⟨h7_⟩
 have yT : Aside0 (xC ≠ xF) := ⟨h8_⟩
 have yU : Aside0 (Below w.heap.size w w19) := ⟨h9_⟩
 clear xB
 clear xG
 clear HB
 clear h0_ h1_ h2_ h3_ h4_ h5_ h6_ h7_ h8_ h9_
 have xB := xX
 have xG := xY
 have xD := xZ
 have GW149 := yC
 have yO := yD
 have xE := yG
 have yV := yR
 have yH := yS
 have yW := yT
 have HB := yU
 clear xX xY xZ yC yD yG yR yS yT yU
 have hHeld : w19.cell? ⟨xA, 0, none⟩ = some (.int .i64 xU) ∧ w19.cell? ⟨xA, 1, none⟩ = some (.int .i64 xS) ∧ w19.cell? ⟨xA, 2, none⟩ = some (.int .i64 xR) ∧ w19.cell? ⟨xA, 3, none⟩ = some (.int .i64 xQ) ∧ w19.cell? ⟨xA, 4, none⟩ = some (.int .i64 xO) ∧ w19.cell? ⟨xA, 5, none⟩ = some (.int .i64 xN) ∧ w19.cell? ⟨xA, 6, none⟩ = some (.int .i64 xL) ∧ w19.cell? ⟨xA, 7, none⟩ = some (.int .i64 xJ) ∧ w19.cell? ⟨xA, 8, none⟩ = some (.int .i64 xM) ∧ w19.cell? ⟨xA, 9, none⟩ = some (.int .i64 xK) ∧ w19.cell? ⟨xA, 10, none⟩ = some (.string xH) ∧ w19.cell? ⟨xA, 11, none⟩ = some (.slice yB xP.length yA) ∧ w19.cell? ⟨xA, 12, none⟩ = some (.int .i64 xI) ∧ w19.cell? ⟨xA, 13, none⟩ = some (.slice xV xT.length xW) := hS_
 refine norm_ (a' := ?_) ?_ ?_
 rotate_left
 ·simp only [putAll, Act.put, bL, bO, bU]
  rfl
 refine one_ (i := 26) (N := none) #[true, true, true, true, true, true, true, true, true, true, true, true, true, true, true, true, true, true, true, true, true, true, true, true, true, true, true] rfl rfl (one_of HT_.out (by kernel_rfl)) (by decide) (fun K hK => ?_)
 have hs20 : w19.cell? ⟨xC, 0, none⟩ = some (.int .i64 0) := (bC xD.out 0).trans rfl
 have hfs20 := bZ xD.out 0
 have hns20_0 := xE.out
 have hns20_1 := yH.out
 have hms20_0 := yV.out
 have hms20_1 := yW.out
 have hs21 : w19.cell? ⟨xC, 1, none⟩ = some (.int .i64 0) := (bC xD.out 1).trans rfl
 have hfs21 := bZ xD.out 1
 have hns21_0 := xE.out
 have hns21_1 := yH.out
 have hms21_0 := yV.out
 have hms21_1 := yW.out
 have hs22 : w19.cell? ⟨xC, 2, none⟩ = some (.int .i64 0) := (bC xD.out 2).trans rfl
 have hfs22 := bZ xD.out 2
 have hns22_0 := xE.out
 have hns22_1 := yH.out
 have hms22_0 := yV.out
 have hms22_1 := yW.out
 have hs23 : w19.cell? ⟨xC, 3, none⟩ = some (.int .i64 0) := (bC xD.out 3).trans rfl
 have hfs23 := bZ xD.out 3
 have hns23_0 := xE.out
 have hns23_1 := yH.out
 have hms23_0 := yV.out
 have hms23_1 := yW.out
 have hs24 : w19.cell? ⟨xC, 4, none⟩ = some (.int .i64 0) := (bC xD.out 4).trans rfl
 have hfs24 := bZ xD.out 4
 have hns24_0 := xE.out
 have hns24_1 := yH.out
 have hms24_0 := yV.out
 have hms24_1 := yW.out
 have hs25 : w19.cell? ⟨xC, 5, none⟩ = some (.int .i64 0) := (bC xD.out 5).trans rfl
 have hfs25 := bZ xD.out 5
 have hns25_0 := xE.out
 have hns25_1 := yH.out
 have hms25_0 := yV.out
 have hms25_1 := yW.out
 have hs26 : w19.cell? ⟨xC, 6, none⟩ = some (.int .i64 0) := (bC xD.out 6).trans rfl
 have hfs26 := bZ xD.out 6
 have hns26_0 := xE.out
 have hns26_1 := yH.out
 have hms26_0 := yV.out
 have hms26_1 := yW.out
 have hs27 : w19.cell? ⟨xC, 7, none⟩ = some (.int .i64 0) := (bC xD.out 7).trans rfl
 have hfs27 := bZ xD.out 7
 have hns27_0 := xE.out
 have hns27_1 := yH.out
 have hms27_0 := yV.out
 have hms27_1 := yW.out
 have hs28 : w19.cell? ⟨xC, 8, none⟩ = some (.int .i64 0) := (bC xD.out 8).trans rfl
 have hfs28 := bZ xD.out 8
 have hns28_0 := xE.out
 have hns28_1 := yH.out
 have hms28_0 := yV.out
 have hms28_1 := yW.out
 have hs29 : w19.cell? ⟨xC, 9, none⟩ = some (.int .i64 0) := (bC xD.out 9).trans rfl
 have hfs29 := bZ xD.out 9
 have hns29_0 := xE.out
 have hns29_1 := yH.out
 have hms29_0 := yV.out
 have hms29_1 := yW.out
 have hs30 : w19.cell? ⟨xC, 10, none⟩ = some (.string ⟨#[]⟩) := (bC xD.out 10).trans rfl
 have hfs30 := bZ xD.out 10
 have hns30_0 := xE.out
 have hns30_1 := yH.out
 have hms30_0 := yV.out
 have hms30_1 := yW.out
 have hs31 : w19.cell? ⟨xC, 11, none⟩ = some (.slice none 0 0) := (bC xD.out 11).trans rfl
 have hfs31 := bZ xD.out 11
 have hns31_0 := xE.out
 have hns31_1 := yH.out
 have hms31_0 := yV.out
 have hms31_1 := yW.out
 have hs32 : w19.cell? ⟨xC, 12, none⟩ = some (.int .i64 0) := (bC xD.out 12).trans rfl
 have hfs32 := bZ xD.out 12
 have hns32_0 := xE.out
 have hns32_1 := yH.out
 have hms32_0 := yV.out
 have hms32_1 := yW.out
 have hs33 : w19.cell? ⟨xC, 13, none⟩ = some (.slice none 0 0) := (bC xD.out 13).trans rfl
 have hfs33 := bZ xD.out 13
 have hns33_0 := xE.out
 have hns33_1 := yH.out
 have hms33_0 := yV.out
 have hms33_1 := yW.out
 refine skip_ (w1 := ?_) (by rfl) rfl ?_ ?_
 rotate_left
 ·go_simp
  rfl
 refine hK.out _ _ ⟨((bF (p := ⟨xC, _, none⟩) xE.out _).trans (((bF (p := ⟨xC, _, none⟩) xE.out _).trans (((bF (p := ⟨xC, _, none⟩) xE.out _).trans (((bF (p := ⟨xC, _, none⟩) xE.out _).trans (((bF (p := ⟨xC, _, none⟩) xE.out _).trans (((bF (p := ⟨xC, _, none⟩) xE.out _).trans (((bF (p := ⟨xC, _, none⟩) xE.out _).trans (((bF (p := ⟨xC, _, none⟩) xE.out _).trans (((bF (p := ⟨xC, _, none⟩) xE.out _).trans (((bF (p := ⟨xC, _, none⟩) xE.out _).trans (((bF (p := ⟨xC, _, none⟩) xE.out _).trans (((bF (p := ⟨xC, _, none⟩) xE.out _).trans (((bF (p := ⟨xC, _, none⟩) xE.out _).trans (((bF (p := ⟨xC, _, none⟩) xE.out _).trans (hHeld.1)))))))))))))))))))))))))))), ((bF (p := ⟨xC, _, none⟩) xE.out _).trans (((bF (p := ⟨xC, _, none⟩) xE.out _).trans (((bF (p := ⟨xC, _, none⟩) xE.out _).trans (((bF (p := ⟨xC, _, none⟩) xE.out _).trans (((bF (p := ⟨xC, _, none⟩) xE.out _).trans (((bF (p := ⟨xC, _, none⟩) xE.out _).trans (((bF (p := ⟨xC, _, none⟩) xE.out _).trans (((bF (p := ⟨xC, _, none⟩) xE.out _).trans (((bF (p := ⟨xC, _, none⟩) xE.out _).trans (((bF (p := ⟨xC, _, none⟩) xE.out _).trans (((bF (p := ⟨xC, _, none⟩) xE.out _).trans (((bF (p := ⟨xC, _, none⟩) xE.out _).trans (((bF (p := ⟨xC, _, none⟩) xE.out _).trans (((bF (p := ⟨xC, _, none⟩) xE.out _).trans (hHeld.2.1)))))))))))))))))))))))))))), ((bF (p := ⟨xC, _, none⟩) xE.out _).trans (((bF (p := ⟨xC, _, none⟩) xE.out _).trans (((bF (p := ⟨xC, _, none⟩) xE.out _).trans (((bF (p := ⟨xC, _, none⟩) xE.out _).trans (((bF (p := ⟨xC, _, none⟩) xE.out _).trans (((bF (p := ⟨xC, _, none⟩) xE.out _).trans (((bF (p := ⟨xC, _, none⟩) xE.out _).trans (((bF (p := ⟨xC, _, none⟩) xE.out _).trans (((bF (p := ⟨xC, _, none⟩) xE.out _).trans (((bF (p := ⟨xC, _, none⟩) xE.out _).trans (((bF (p := ⟨xC, _, none⟩) xE.out _).trans (((bF (p := ⟨xC, _, none⟩) xE.out _).trans (((bF (p := ⟨xC, _, none⟩) xE.out _).trans (((bF (p := ⟨xC, _, none⟩) xE.out _).trans (hHeld.2.2.1)))))))))))))))))))))))))))), ((bF (p := ⟨xC, _, none⟩) xE.out _).trans (((bF (p := ⟨xC, _, none⟩) xE.out _).trans (((bF (p := ⟨xC, _, none⟩) xE.out _).trans (((bF (p := ⟨xC, _, none⟩) xE.out _).trans (((bF (p := ⟨xC, _, none⟩) xE.out _).trans (((bF (p := ⟨xC, _, none⟩) xE.out _).trans (((bF (p := ⟨xC, _, none⟩) xE.out _).trans (((bF (p := ⟨xC, _, none⟩) xE.out _).trans (((bF (p := ⟨xC, _, none⟩) xE.out _).trans (((bF (p := ⟨xC, _, none⟩) xE.out _).trans (((bF (p := ⟨xC, _, none⟩) xE.out _).trans (((bF (p := ⟨xC, _, none⟩) xE.out _).trans (((bF (p := ⟨xC, _, none⟩) xE.out _).trans (((bF (p := ⟨xC, _, none⟩) xE.out _).trans (hHeld.2.2.2.1)))))))))))))))))))))))))))), ((bF (p := ⟨xC, _, none⟩) xE.out _).trans (((bF (p := ⟨xC, _, none⟩) xE.out _).trans (((bF (p := ⟨xC, _, none⟩) xE.out _).trans (((bF (p := ⟨xC, _, none⟩) xE.out _).trans (((bF (p := ⟨xC, _, none⟩) xE.out _).trans (((bF (p := ⟨xC, _, none⟩) xE.out _).trans (((bF (p := ⟨xC, _, none⟩) xE.out _).trans (((bF (p := ⟨xC, _, none⟩) xE.out _).trans (((bF (p := ⟨xC, _, none⟩) xE.out _).trans (((bF (p := ⟨xC, _, none⟩) xE.out _).trans (((bF (p := ⟨xC, _, none⟩) xE.out _).trans (((bF (p := ⟨xC, _, none⟩) xE.out _).trans (((bF (p := ⟨xC, _, none⟩) xE.out _).trans (((bF (p := ⟨xC, _, none⟩) xE.out _).trans (hHeld.2.2.2.2.1)))))))))))))))))))))))))))), ((bF (p := ⟨xC, _, none⟩) xE.out _).trans (((bF (p := ⟨xC, _, none⟩) xE.out _).trans (((bF (p := ⟨xC, _, none⟩) xE.out _).trans (((bF (p := ⟨xC, _, none⟩) xE.out _).trans (((bF (p := ⟨xC, _, none⟩) xE.out _).trans (((bF (p := ⟨xC, _, none⟩) xE.out _).trans (((bF (p := ⟨xC, _, none⟩) xE.out _).trans (((bF (p := ⟨xC, _, none⟩) xE.out _).trans (((bF (p := ⟨xC, _, none⟩) xE.out _).trans (((bF (p := ⟨xC, _, none⟩) xE.out _).trans (((bF (p := ⟨xC, _, none⟩) xE.out _).trans (((bF (p := ⟨xC, _, none⟩) xE.out _).trans (((bF (p := ⟨xC, _, none⟩) xE.out _).trans (((bF (p := ⟨xC, _, none⟩) xE.out _).trans (hHeld.2.2.2.2.2.1)))))))))))))))))))))))))))), ((bF (p := ⟨xC, _, none⟩) xE.out _).trans (((bF (p := ⟨xC, _, none⟩) xE.out _).trans (((bF (p := ⟨xC, _, none⟩) xE.out _).trans (((bF (p := ⟨xC, _, none⟩) xE.out _).trans (((bF (p := ⟨xC, _, none⟩) xE.out _).trans (((bF (p := ⟨xC, _, none⟩) xE.out _).trans (((bF (p := ⟨xC, _, none⟩) xE.out _).trans (((bF (p := ⟨xC, _, none⟩) xE.out _).trans (((bF (p := ⟨xC, _, none⟩) xE.out _).trans (((bF (p := ⟨xC, _, none⟩) xE.out _).trans (((bF (p := ⟨xC, _, none⟩) xE.out _).trans (((bF (p := ⟨xC, _, none⟩) xE.out _).trans (((bF (p := ⟨xC, _, none⟩) xE.out _).trans (((bF (p := ⟨xC, _, none⟩) xE.out _).trans (hHeld.2.2.2.2.2.2.1)))))))))))))))))))))))))))), ((bF (p := ⟨xC, _, none⟩) xE.out _).trans (((bF (p := ⟨xC, _, none⟩) xE.out _).trans (((bF (p := ⟨xC, _, none⟩) xE.out _).trans (((bF (p := ⟨xC, _, none⟩) xE.out _).trans (((bF (p := ⟨xC, _, none⟩) xE.out _).trans (((bF (p := ⟨xC, _, none⟩) xE.out _).trans (((bF (p := ⟨xC, _, none⟩) xE.out _).trans (((bF (p := ⟨xC, _, none⟩) xE.out _).trans (((bF (p := ⟨xC, _, none⟩) xE.out _).trans (((bF (p := ⟨xC, _, none⟩) xE.out _).trans (((bF (p := ⟨xC, _, none⟩) xE.out _).trans (((bF (p := ⟨xC, _, none⟩) xE.out _).trans (((bF (p := ⟨xC, _, none⟩) xE.out _).trans (((bF (p := ⟨xC, _, none⟩) xE.out _).trans (hHeld.2.2.2.2.2.2.2.1)))))))))))))))))))))))))))), ((bF (p := ⟨xC, _, none⟩) xE.out _).trans (((bF (p := ⟨xC, _, none⟩) xE.out _).trans (((bF (p := ⟨xC, _, none⟩) xE.out _).trans (((bF (p := ⟨xC, _, none⟩) xE.out _).trans (((bF (p := ⟨xC, _, none⟩) xE.out _).trans (((bF (p := ⟨xC, _, none⟩) xE.out _).trans (((bF (p := ⟨xC, _, none⟩) xE.out _).trans (((bF (p := ⟨xC, _, none⟩) xE.out _).trans (((bF (p := ⟨xC, _, none⟩) xE.out _).trans (((bF (p := ⟨xC, _, none⟩) xE.out _).trans (((bF (p := ⟨xC, _, none⟩) xE.out _).trans (((bF (p := ⟨xC, _, none⟩) xE.out _).trans (((bF (p := ⟨xC, _, none⟩) xE.out _).trans (((bF (p := ⟨xC, _, none⟩) xE.out _).trans (hHeld.2.2.2.2.2.2.2.2.1)))))))))))))))))))))))))))), ((bF (p := ⟨xC, _, none⟩) xE.out _).trans (((bF (p := ⟨xC, _, none⟩) xE.out _).trans (((bF (p := ⟨xC, _, none⟩) xE.out _).trans (((bF (p := ⟨xC, _, none⟩) xE.out _).trans (((bF (p := ⟨xC, _, none⟩) xE.out _).trans (((bF (p := ⟨xC, _, none⟩) xE.out _).trans (((bF (p := ⟨xC, _, none⟩) xE.out _).trans (((bF (p := ⟨xC, _, none⟩) xE.out _).trans (((bF (p := ⟨xC, _, none⟩) xE.out _).trans (((bF (p := ⟨xC, _, none⟩) xE.out _).trans (((bF (p := ⟨xC, _, none⟩) xE.out _).trans (((bF (p := ⟨xC, _, none⟩) xE.out _).trans (((bF (p := ⟨xC, _, none⟩) xE.out _).trans (((bF (p := ⟨xC, _, none⟩) xE.out _).trans (hHeld.2.2.2.2.2.2.2.2.2.1)))))))))))))))))))))))))))), ((bF (p := ⟨xC, _, none⟩) xE.out _).trans (((bF (p := ⟨xC, _, none⟩) xE.out _).trans (((bF (p := ⟨xC, _, none⟩) xE.out _).trans (((bF (p := ⟨xC, _, none⟩) xE.out _).trans (((bF (p := ⟨xC, _, none⟩) xE.out _).trans (((bF (p := ⟨xC, _, none⟩) xE.out _).trans (((bF (p := ⟨xC, _, none⟩) xE.out _).trans (((bF (p := ⟨xC, _, none⟩) xE.out _).trans (((bF (p := ⟨xC, _, none⟩) xE.out _).trans (((bF (p := ⟨xC, _, none⟩) xE.out _).trans (((bF (p := ⟨xC, _, none⟩) xE.out _).trans (((bF (p := ⟨xC, _, none⟩) xE.out _).trans (((bF (p := ⟨xC, _, none⟩) xE.out _).trans (((bF (p := ⟨xC, _, none⟩) xE.out _).trans (hHeld.2.2.2.2.2.2.2.2.2.2.1)))))))))))))))))))))))))))), ((bF (p := ⟨xC, _, none⟩) xE.out _).trans (((bF (p := ⟨xC, _, none⟩) xE.out _).trans (((bF (p := ⟨xC, _, none⟩) xE.out _).trans (((bF (p := ⟨xC, _, none⟩) xE.out _).trans (((bF (p := ⟨xC, _, none⟩) xE.out _).trans (((bF (p := ⟨xC, _, none⟩) xE.out _).trans (((bF (p := ⟨xC, _, none⟩) xE.out _).trans (((bF (p := ⟨xC, _, none⟩) xE.out _).trans (((bF (p := ⟨xC, _, none⟩) xE.out _).trans (((bF (p := ⟨xC, _, none⟩) xE.out _).trans (((bF (p := ⟨xC, _, none⟩) xE.out _).trans (((bF (p := ⟨xC, _, none⟩) xE.out _).trans (((bF (p := ⟨xC, _, none⟩) xE.out _).trans (((bF (p := ⟨xC, _, none⟩) xE.out _).trans (hHeld.2.2.2.2.2.2.2.2.2.2.2.1)))))))))))))))))))))))))))), ((bF (p := ⟨xC, _, none⟩) xE.out _).trans (((bF (p := ⟨xC, _, none⟩) xE.out _).trans (((bF (p := ⟨xC, _, none⟩) xE.out _).trans (((bF (p := ⟨xC, _, none⟩) xE.out _).trans (((bF (p := ⟨xC, _, none⟩) xE.out _).trans (((bF (p := ⟨xC, _, none⟩) xE.out _).trans (((bF (p := ⟨xC, _, none⟩) xE.out _).trans (((bF (p := ⟨xC, _, none⟩) xE.out _).trans (((bF (p := ⟨xC, _, none⟩) xE.out _).trans (((bF (p := ⟨xC, _, none⟩) xE.out _).trans (((bF (p := ⟨xC, _, none⟩) xE.out _).trans (((bF (p := ⟨xC, _, none⟩) xE.out _).trans (((bF (p := ⟨xC, _, none⟩) xE.out _).trans (((bF (p := ⟨xC, _, none⟩) xE.out _).trans (hHeld.2.2.2.2.2.2.2.2.2.2.2.2.1)))))))))))))))))))))))))))), ((bF (p := ⟨xC, _, none⟩) xE.out _).trans (((bF (p := ⟨xC, _, none⟩) xE.out _).trans (((bF (p := ⟨xC, _, none⟩) xE.out _).trans (((bF (p := ⟨xC, _, none⟩) xE.out _).trans (((bF (p := ⟨xC, _, none⟩) xE.out _).trans (((bF (p := ⟨xC, _, none⟩) xE.out _).trans (((bF (p := ⟨xC, _, none⟩) xE.out _).trans (((bF (p := ⟨xC, _, none⟩) xE.out _).trans (((bF (p := ⟨xC, _, none⟩) xE.out _).trans (((bF (p := ⟨xC, _, none⟩) xE.out _).trans (((bF (p := ⟨xC, _, none⟩) xE.out _).trans (((bF (p := ⟨xC, _, none⟩) xE.out _).trans (((bF (p := ⟨xC, _, none⟩) xE.out _).trans (((bF (p := ⟨xC, _, none⟩) xE.out _).trans (hHeld.2.2.2.2.2.2.2.2.2.2.2.2.2))))))))))))))))))))))))))))⟩ (fun hHeld => ?_)
 clear hK K
 refine done_ (done_of HT_.out (by kernel_rfl)) ?_
 have hnb34 := NB139_140.out
 have hnc34 := NB140_139.out
 have hnb35 := xE.out
 have hnc35 := yV.out
 have hcz36_0 : w19.cell? ⟨xA, 0, none⟩ = some (.int .i64 xU) := (bC xB.out 0).trans rfl
 have hcz36_1 : w19.cell? ⟨xA, 1, none⟩ = some (.int .i64 xS) := (bC xB.out 1).trans rfl
 have hcz36_2 : w19.cell? ⟨xA, 2, none⟩ = some (.int .i64 xR) := (bC xB.out 2).trans rfl
 have hcz36_3 : w19.cell? ⟨xA, 3, none⟩ = some (.int .i64 xQ) := (bC xB.out 3).trans rfl
 have hcz36_4 : w19.cell? ⟨xA, 4, none⟩ = some (.int .i64 xO) := (bC xB.out 4).trans rfl
 have hcz36_5 : w19.cell? ⟨xA, 5, none⟩ = some (.int .i64 xN) := (bC xB.out 5).trans rfl
 have hcz36_6 : w19.cell? ⟨xA, 6, none⟩ = some (.int .i64 xL) := (bC xB.out 6).trans rfl
 have hcz36_7 : w19.cell? ⟨xA, 7, none⟩ = some (.int .i64 xJ) := (bC xB.out 7).trans rfl
 have hcz36_8 : w19.cell? ⟨xA, 8, none⟩ = some (.int .i64 xM) := (bC xB.out 8).trans rfl
 have hcz36_9 : w19.cell? ⟨xA, 9, none⟩ = some (.int .i64 xK) := (bC xB.out 9).trans rfl
 have hcz36_10 : w19.cell? ⟨xA, 10, none⟩ = some (.string xH) := (bC xB.out 10).trans rfl
 have hcz36_11 : w19.cell? ⟨xA, 11, none⟩ = some (.slice yB xP.length yA) := (bC xB.out 11).trans rfl
 have hcz36_12 : w19.cell? ⟨xA, 12, none⟩ = some (.int .i64 xI) := (bC xB.out 12).trans rfl
 have hcz36_13 : w19.cell? ⟨xA, 13, none⟩ = some (.slice xV xT.length xW) := (bC xB.out 13).trans rfl
 have hfz36_0 := bZ xB.out 0
 have hfz36_1 := bZ xB.out 1
 have hfz36_2 := bZ xB.out 2
 have hfz36_3 := bZ xB.out 3
 have hfz36_4 := bZ xB.out 4
 have hfz36_5 := bZ xB.out 5
 have hfz36_6 := bZ xB.out 6
 have hfz36_7 := bZ xB.out 7
 have hfz36_8 := bZ xB.out 8
 have hfz36_9 := bZ xB.out 9
 have hfz36_10 := bZ xB.out 10
 have hfz36_11 := bZ xB.out 11
 have hfz36_12 := bZ xB.out 12
 have hfz36_13 := bZ xB.out 13
 try go_wp2_with (first | ((with_reducible refine gate_callee (f := 8) rfl ?_); refine goesL_ (some 32) rfl rfl Try.func8 (by kernel_rfl) rfl #[.int .i64 xM, .int .i64 4611686018427387905] rfl (by (try simp only [List.map_toArray, List.map_cons, List.map_nil]); first | done | rfl | (simp only [List.length_drop, List.length_take]; rfl)) ?_; (with_reducible refine (truchmanref01_Around.calls xM 4611686018427387905 yX _ A10.out).mono ?_); rintro e w' ⟨rfl, ⟨nd, rfl⟩⟩; refine ⟨_, rfl, ?_⟩; have hnb37 := yW.out; have hnc37 := yH.out; have hcz38_0 : w19.cell? ⟨xC, 0, none⟩ = some (.int .i64 0) := (bC xD.out 0).trans rfl; have hcz38_1 : w19.cell? ⟨xC, 1, none⟩ = some (.int .i64 0) := (bC xD.out 1).trans rfl; have hcz38_2 : w19.cell? ⟨xC, 2, none⟩ = some (.int .i64 0) := (bC xD.out 2).trans rfl; have hcz38_3 : w19.cell? ⟨xC, 3, none⟩ = some (.int .i64 0) := (bC xD.out 3).trans rfl; have hcz38_4 : w19.cell? ⟨xC, 4, none⟩ = some (.int .i64 0) := (bC xD.out 4).trans rfl; have hcz38_5 : w19.cell? ⟨xC, 5, none⟩ = some (.int .i64 0) := (bC xD.out 5).trans rfl; have hcz38_6 : w19.cell? ⟨xC, 6, none⟩ = some (.int .i64 0) := (bC xD.out 6).trans rfl; have hcz38_7 : w19.cell? ⟨xC, 7, none⟩ = some (.int .i64 0) := (bC xD.out 7).trans rfl; have hcz38_8 : w19.cell? ⟨xC, 8, none⟩ = some (.int .i64 0) := (bC xD.out 8).trans rfl; have hcz38_9 : w19.cell? ⟨xC, 9, none⟩ = some (.int .i64 0) := (bC xD.out 9).trans rfl; have hcz38_10 : w19.cell? ⟨xC, 10, none⟩ = some (.string ⟨#[]⟩) := (bC xD.out 10).trans rfl; have hcz38_11 : w19.cell? ⟨xC, 11, none⟩ = some (.slice none 0 0) := (bC xD.out 11).trans rfl; have hcz38_12 : w19.cell? ⟨xC, 12, none⟩ = some (.int .i64 0) := (bC xD.out 12).trans rfl; have hcz38_13 : w19.cell? ⟨xC, 13, none⟩ = some (.slice none 0 0) := (bC xD.out 13).trans rfl; have hfz38_0 := bZ xD.out 0; have hfz38_1 := bZ xD.out 1; have hfz38_2 := bZ xD.out 2; have hfz38_3 := bZ xD.out 3; have hfz38_4 := bZ xD.out 4; have hfz38_5 := bZ xD.out 5; have hfz38_6 := bZ xD.out 6; have hfz38_7 := bZ xD.out 7; have hfz38_8 := bZ xD.out 8; have hfz38_9 := bZ xD.out 9; have hfz38_10 := bZ xD.out 10; have hfz38_11 := bZ xD.out 11; have hfz38_12 := bZ xD.out 12; have hfz38_13 := bZ xD.out 13) | ((with_reducible refine gate_callee (f := 26) rfl ?_); refine goesL_ (some 36) rfl rfl Try.func26 (by kernel_rfl) rfl #[.int .i64 xK] rfl (by (try simp only [List.map_toArray, List.map_cons, List.map_nil]); first | done | rfl | (simp only [List.length_drop, List.length_take]; rfl)) ?_; (with_reducible refine (truchmanref17_low.calls xK yY _ A11.out).mono ?_); rintro e w' ⟨rfl, ⟨nd, rfl⟩⟩; refine ⟨_, rfl, ?_⟩) | ((with_reducible refine gate_callee (f := 26) rfl ?_); refine goesL_ (some 40) rfl rfl Try.func26 (by kernel_rfl) rfl #[.int .i64 xI] rfl (by (try simp only [List.map_toArray, List.map_cons, List.map_nil]); first | done | rfl | (simp only [List.length_drop, List.length_take]; rfl)) ?_; (with_reducible refine (truchmanref17_low.calls xI yZ _ A12.out).mono ?_); rintro e w' ⟨rfl, ⟨nd, rfl⟩⟩; refine ⟨_, rfl, ?_⟩) | ((with_reducible refine gate_callee (f := 27) rfl ?_); refine goesL_ (some 45) rfl rfl Try.func27 (by kernel_rfl) rfl #[.string xH, .int .i64 40] rfl (by (try simp only [List.map_toArray, List.map_cons, List.map_nil]); first | done | rfl | (simp only [List.length_drop, List.length_take]; rfl)) ?_; (with_reducible refine (truchmanref01_Short.calls xH 40 zA _ A13.out).mono ?_); rintro e w' ⟨rfl, ⟨nd, rfl⟩⟩; refine ⟨_, rfl, ?_⟩))
 go_loopg [4] k (fun kq v4 w' => ∃ (x4_1 : Int) (x150011_1 : List ByteArray) (u150011 : Value), v4 = .int .i64 x4_1 ∧ Aside0 (truchmanref17_Good.l0 kq x4_1 xU xS xR xQ xO xN xL xJ xM xK xH xP xI xT yE yF yI yK yL yN yP yQ yX yY zA x150011_1 (wrap64 (yZ - 1)) = some (r1, r2, r3, r4, r5, r6, r7, r8, r9, r10, r11, r12, r13, r14)) ∧ Aside0 (kq ≤ k) ∧ Aside0 (Kd.R Kd.string 9 w' w.heap.size (fun _ => True) u150011 x150011_1) ∧ Aside0 (w'.heap[xA]? = some (.cells #[.int .i64 xU, .int .i64 xS, .int .i64 xR, .int .i64 xQ, .int .i64 xO, .int .i64 xN, .int .i64 xL, .int .i64 xJ, .int .i64 xM, .int .i64 xK, .string xH, (.slice yB xP.length yA), .int .i64 xI, (.slice xV xT.length xW)] 32 (0, 0))) ∧ Aside0 (w'.heap[xF]? = some (.cells #[.int .i64 0, .int .i64 0, .int .i64 0, .int .i64 0, .int .i64 0, .int .i64 0, .int .i64 0, .int .i64 0, .int .i64 0, .int .i64 0, .string ⟨#[]⟩, (.slice none 0 0), .int .i64 0, (.slice none 0 0)] 32 (0, 0))) ∧ Aside0 (w'.heap[xC]? = some (.cells #[.int .i64 yE, .int .i64 yF, .int .i64 yI, .int .i64 yK, .int .i64 yL, .int .i64 yN, .int .i64 yP, .int .i64 yQ, .int .i64 yX, .int .i64 yY, .string zA, u150011, .int .i64 (wrap64 (yZ - 1)), (.slice none 0 0)] 32 (0, 0))) ∧ Aside0 (Below w.heap.size w w'))
 case atStart => exact ⟨(0), (([] : List ByteArray)), (.slice none 0 0), (by first | rfl | (simp; done) | (simp [*]; done)), H', ⟨Nat.le_refl _⟩, ⟨by first | exact Kd.R_nil _ _ _ _ _ | exact Kd.N_nil _ _ _ _ _ | exact Kd.V_nil _ _ _ _ _ | exact Kd.Q_nil _ _ _ _ _ | exact Kd.S_nil _ _ _ _ _⟩, ⟨by (with_reducible repeat (first | refine bN ?_ _ | refine bD ?_ | refine bA ?_ _)); refine blk_far ?_ xE.out _; (with_reducible repeat (first | refine bN ?_ _ | refine bD ?_ | refine bA ?_ _)); refine blk_far ?_ xE.out _; (with_reducible repeat (first | refine bN ?_ _ | refine bD ?_ | refine bA ?_ _)); refine blk_far ?_ xE.out _; (with_reducible repeat (first | refine bN ?_ _ | refine bD ?_ | refine bA ?_ _)); refine blk_far ?_ xE.out _; (with_reducible repeat (first | refine bN ?_ _ | refine bD ?_ | refine bA ?_ _)); refine blk_far ?_ xE.out _; (with_reducible repeat (first | refine bN ?_ _ | refine bD ?_ | refine bA ?_ _)); refine blk_far ?_ xE.out _; (with_reducible repeat (first | refine bN ?_ _ | refine bD ?_ | refine bA ?_ _)); refine blk_far ?_ xE.out _; (with_reducible repeat (first | refine bN ?_ _ | refine bD ?_ | refine bA ?_ _)); refine blk_far ?_ xE.out _; (with_reducible repeat (first | refine bN ?_ _ | refine bD ?_ | refine bA ?_ _)); refine blk_far ?_ xE.out _; (with_reducible repeat (first | refine bN ?_ _ | refine bD ?_ | refine bA ?_ _)); refine blk_far ?_ xE.out _; (with_reducible repeat (first | refine bN ?_ _ | refine bD ?_ | refine bA ?_ _)); refine blk_far ?_ xE.out _; (with_reducible repeat (first | refine bN ?_ _ | refine bD ?_ | refine bA ?_ _)); refine blk_far ?_ xE.out _; (with_reducible repeat (first | refine bN ?_ _ | refine bD ?_ | refine bA ?_ _)); refine blk_far ?_ xE.out _; (with_reducible repeat (first | refine bN ?_ _ | refine bD ?_ | refine bA ?_ _)); refine blk_far ?_ xE.out _; (with_reducible repeat (first | refine bN ?_ _ | refine bD ?_ | refine bA ?_ _)); refine blk_far ?_ xE.out _; (with_reducible repeat (first | refine bN ?_ _ | refine bD ?_ | refine bA ?_ _)); refine blk_far ?_ xE.out _; (with_reducible repeat (first | refine bN ?_ _ | refine bD ?_ | refine bA ?_ _)); refine blk_far ?_ xE.out _; (with_reducible repeat (first | refine bN ?_ _ | refine bD ?_ | refine bA ?_ _)); refine blk_far ?_ xE.out _; (with_reducible repeat (first | refine bN ?_ _ | refine bD ?_ | refine bA ?_ _)); exact xB.out⟩, ⟨by (with_reducible repeat (first | refine bN ?_ _ | refine bD ?_ | refine bA ?_ _)); refine blk_far ?_ yH.out _; (with_reducible repeat (first | refine bN ?_ _ | refine bD ?_ | refine bA ?_ _)); refine blk_far ?_ yH.out _; (with_reducible repeat (first | refine bN ?_ _ | refine bD ?_ | refine bA ?_ _)); refine blk_far ?_ yH.out _; (with_reducible repeat (first | refine bN ?_ _ | refine bD ?_ | refine bA ?_ _)); refine blk_far ?_ yH.out _; (with_reducible repeat (first | refine bN ?_ _ | refine bD ?_ | refine bA ?_ _)); refine blk_far ?_ yH.out _; (with_reducible repeat (first | refine bN ?_ _ | refine bD ?_ | refine bA ?_ _)); refine blk_far ?_ yH.out _; (with_reducible repeat (first | refine bN ?_ _ | refine bD ?_ | refine bA ?_ _)); refine blk_far ?_ yH.out _; (with_reducible repeat (first | refine bN ?_ _ | refine bD ?_ | refine bA ?_ _)); refine blk_far ?_ yH.out _; (with_reducible repeat (first | refine bN ?_ _ | refine bD ?_ | refine bA ?_ _)); refine blk_far ?_ yH.out _; (with_reducible repeat (first | refine bN ?_ _ | refine bD ?_ | refine bA ?_ _)); refine blk_far ?_ yH.out _; (with_reducible repeat (first | refine bN ?_ _ | refine bD ?_ | refine bA ?_ _)); refine blk_far ?_ yH.out _; (with_reducible repeat (first | refine bN ?_ _ | refine bD ?_ | refine bA ?_ _)); refine blk_far ?_ yH.out _; (with_reducible repeat (first | refine bN ?_ _ | refine bD ?_ | refine bA ?_ _)); refine blk_far ?_ yH.out _; (with_reducible repeat (first | refine bN ?_ _ | refine bD ?_ | refine bA ?_ _)); refine blk_far ?_ yH.out _; (with_reducible repeat (first | refine bN ?_ _ | refine bD ?_ | refine bA ?_ _)); refine blk_far ?_ yH.out _; (with_reducible repeat (first | refine bN ?_ _ | refine bD ?_ | refine bA ?_ _)); refine blk_far ?_ yH.out _; (with_reducible repeat (first | refine bN ?_ _ | refine bD ?_ | refine bA ?_ _)); refine blk_far ?_ yH.out _; (with_reducible repeat (first | refine bN ?_ _ | refine bD ?_ | refine bA ?_ _)); refine blk_far ?_ yH.out _; (with_reducible repeat (first | refine bN ?_ _ | refine bD ?_ | refine bA ?_ _)); exact xG.out⟩, ⟨by (with_reducible repeat (first | refine bN ?_ _ | refine bD ?_ | refine bA ?_ _)); refine blk_put (cs := #[.int .i64 yE, .int .i64 yF, .int .i64 yI, .int .i64 yK, .int .i64 yL, .int .i64 yN, .int .i64 yP, .int .i64 yQ, .int .i64 yX, .int .i64 yY, .string ⟨#[]⟩, .slice none 0 0, .int .i64 (wrap64 (yZ - 1)), .slice none 0 0]) ?_ 10 _ rfl; (with_reducible repeat (first | refine bN ?_ _ | refine bD ?_ | refine bA ?_ _)); refine blk_put (cs := #[.int .i64 yE, .int .i64 yF, .int .i64 yI, .int .i64 yK, .int .i64 yL, .int .i64 yN, .int .i64 yP, .int .i64 yQ, .int .i64 yX, .int .i64 yY, .string ⟨#[]⟩, .slice none 0 0, .int .i64 0, .slice none 0 0]) ?_ 12 _ rfl; (with_reducible repeat (first | refine bN ?_ _ | refine bD ?_ | refine bA ?_ _)); refine blk_put (cs := #[.int .i64 yE, .int .i64 yF, .int .i64 yI, .int .i64 yK, .int .i64 yL, .int .i64 yN, .int .i64 yP, .int .i64 yQ, .int .i64 yX, .int .i64 0, .string ⟨#[]⟩, .slice none 0 0, .int .i64 0, .slice none 0 0]) ?_ 9 _ rfl; (with_reducible repeat (first | refine bN ?_ _ | refine bD ?_ | refine bA ?_ _)); refine blk_put (cs := #[.int .i64 yE, .int .i64 yF, .int .i64 yI, .int .i64 yK, .int .i64 yL, .int .i64 yN, .int .i64 yP, .int .i64 yQ, .int .i64 0, .int .i64 0, .string ⟨#[]⟩, .slice none 0 0, .int .i64 0, .slice none 0 0]) ?_ 8 _ rfl; (with_reducible repeat (first | refine bN ?_ _ | refine bD ?_ | refine bA ?_ _)); refine blk_put (cs := #[.int .i64 yE, .int .i64 yF, .int .i64 yI, .int .i64 yK, .int .i64 yL, .int .i64 yN, .int .i64 yP, .int .i64 yQ, .int .i64 0, .int .i64 0, .string ⟨#[]⟩, .slice none 0 0, .int .i64 0, .slice none 0 0]) ?_ 13 _ rfl; (with_reducible repeat (first | refine bN ?_ _ | refine bD ?_ | refine bA ?_ _)); refine blk_put (cs := #[.int .i64 yE, .int .i64 yF, .int .i64 yI, .int .i64 yK, .int .i64 yL, .int .i64 yN, .int .i64 yP, .int .i64 yQ, .int .i64 0, .int .i64 0, .string ⟨#[]⟩, .slice none 0 0, .int .i64 0, .slice none 0 0]) ?_ 12 _ rfl; (with_reducible repeat (first | refine bN ?_ _ | refine bD ?_ | refine bA ?_ _)); refine blk_put (cs := #[.int .i64 yE, .int .i64 yF, .int .i64 yI, .int .i64 yK, .int .i64 yL, .int .i64 yN, .int .i64 yP, .int .i64 yQ, .int .i64 0, .int .i64 0, .string ⟨#[]⟩, .slice none 0 0, .int .i64 0, .slice none 0 0]) ?_ 11 _ rfl; (with_reducible repeat (first | refine bN ?_ _ | refine bD ?_ | refine bA ?_ _)); refine blk_put (cs := #[.int .i64 yE, .int .i64 yF, .int .i64 yI, .int .i64 yK, .int .i64 yL, .int .i64 yN, .int .i64 yP, .int .i64 yQ, .int .i64 0, .int .i64 0, .string ⟨#[]⟩, .slice none 0 0, .int .i64 0, .slice none 0 0]) ?_ 10 _ rfl; (with_reducible repeat (first | refine bN ?_ _ | refine bD ?_ | refine bA ?_ _)); refine blk_put (cs := #[.int .i64 yE, .int .i64 yF, .int .i64 yI, .int .i64 yK, .int .i64 yL, .int .i64 yN, .int .i64 yP, .int .i64 yQ, .int .i64 0, .int .i64 0, .string ⟨#[]⟩, .slice none 0 0, .int .i64 0, .slice none 0 0]) ?_ 9 _ rfl; (with_reducible repeat (first | refine bN ?_ _ | refine bD ?_ | refine bA ?_ _)); refine blk_put (cs := #[.int .i64 yE, .int .i64 yF, .int .i64 yI, .int .i64 yK, .int .i64 yL, .int .i64 yN, .int .i64 yP, .int .i64 yQ, .int .i64 0, .int .i64 0, .string ⟨#[]⟩, .slice none 0 0, .int .i64 0, .slice none 0 0]) ?_ 8 _ rfl; (with_reducible repeat (first | refine bN ?_ _ | refine bD ?_ | refine bA ?_ _)); refine blk_put (cs := #[.int .i64 yE, .int .i64 yF, .int .i64 yI, .int .i64 yK, .int .i64 yL, .int .i64 yN, .int .i64 yP, .int .i64 0, .int .i64 0, .int .i64 0, .string ⟨#[]⟩, .slice none 0 0, .int .i64 0, .slice none 0 0]) ?_ 7 _ rfl; (with_reducible repeat (first | refine bN ?_ _ | refine bD ?_ | refine bA ?_ _)); refine blk_put (cs := #[.int .i64 yE, .int .i64 yF, .int .i64 yI, .int .i64 yK, .int .i64 yL, .int .i64 yN, .int .i64 0, .int .i64 0, .int .i64 0, .int .i64 0, .string ⟨#[]⟩, .slice none 0 0, .int .i64 0, .slice none 0 0]) ?_ 6 _ rfl; (with_reducible repeat (first | refine bN ?_ _ | refine bD ?_ | refine bA ?_ _)); refine blk_put (cs := #[.int .i64 yE, .int .i64 yF, .int .i64 yI, .int .i64 yK, .int .i64 yL, .int .i64 0, .int .i64 0, .int .i64 0, .int .i64 0, .int .i64 0, .string ⟨#[]⟩, .slice none 0 0, .int .i64 0, .slice none 0 0]) ?_ 5 _ rfl; (with_reducible repeat (first | refine bN ?_ _ | refine bD ?_ | refine bA ?_ _)); refine blk_put (cs := #[.int .i64 yE, .int .i64 yF, .int .i64 yI, .int .i64 yK, .int .i64 0, .int .i64 0, .int .i64 0, .int .i64 0, .int .i64 0, .int .i64 0, .string ⟨#[]⟩, .slice none 0 0, .int .i64 0, .slice none 0 0]) ?_ 4 _ rfl; (with_reducible repeat (first | refine bN ?_ _ | refine bD ?_ | refine bA ?_ _)); refine blk_put (cs := #[.int .i64 yE, .int .i64 yF, .int .i64 yI, .int .i64 0, .int .i64 0, .int .i64 0, .int .i64 0, .int .i64 0, .int .i64 0, .int .i64 0, .string ⟨#[]⟩, .slice none 0 0, .int .i64 0, .slice none 0 0]) ?_ 3 _ rfl; (with_reducible repeat (first | refine bN ?_ _ | refine bD ?_ | refine bA ?_ _)); refine blk_put (cs := #[.int .i64 yE, .int .i64 yF, .int .i64 0, .int .i64 0, .int .i64 0, .int .i64 0, .int .i64 0, .int .i64 0, .int .i64 0, .int .i64 0, .string ⟨#[]⟩, .slice none 0 0, .int .i64 0, .slice none 0 0]) ?_ 2 _ rfl; (with_reducible repeat (first | refine bN ?_ _ | refine bD ?_ | refine bA ?_ _)); refine blk_put (cs := #[.int .i64 yE, .int .i64 0, .int .i64 0, .int .i64 0, .int .i64 0, .int .i64 0, .int .i64 0, .int .i64 0, .int .i64 0, .int .i64 0, .string ⟨#[]⟩, .slice none 0 0, .int .i64 0, .slice none 0 0]) ?_ 1 _ rfl; (with_reducible repeat (first | refine bN ?_ _ | refine bD ?_ | refine bA ?_ _)); refine blk_put (cs := #[.int .i64 0, .int .i64 0, .int .i64 0, .int .i64 0, .int .i64 0, .int .i64 0, .int .i64 0, .int .i64 0, .int .i64 0, .int .i64 0, .string ⟨#[]⟩, .slice none 0 0, .int .i64 0, .slice none 0 0]) ?_ 0 _ rfl; (with_reducible repeat (first | refine bN ?_ _ | refine bD ?_ | refine bA ?_ _)); exact xD.out⟩, ⟨by repeat (first | (with_reducible first | exact HB.out | apply below_alloc | apply pw_below_drewN | apply below_drew1 | refine bS ?_ yJ.out | refine bS ?_ yM.out | refine bS ?_ yO.out) | exact HB.out)⟩⟩
 case round =>
  clear H'
  try clear c2
  try clear p2
  try clear c3
  try clear p6
  try clear c8
  try clear c26
  try clear c27
  try clear c34
  try clear c35
  try clear c37
  try clear hcz36_0
  try clear hcz36_1
  try clear hcz36_10
  try clear hcz36_11
  try clear hcz36_12
  try clear hcz36_13
  try clear hcz36_2
  try clear hcz36_3
  try clear hcz36_4
  try clear hcz36_5
  try clear hcz36_6
  try clear hcz36_7
  try clear hcz36_8
  try clear hcz36_9
  try clear hcz38_0
  try clear hcz38_1
  try clear hcz38_10
  try clear hcz38_11
  try clear hcz38_12
  try clear hcz38_13
  try clear hcz38_2
  try clear hcz38_3
  try clear hcz38_4
  try clear hcz38_5
  try clear hcz38_6
  try clear hcz38_7
  try clear hcz38_8
  try clear hcz38_9
  try clear hfz36_0
  try clear hfz36_1
  try clear hfz36_10
  try clear hfz36_11
  try clear hfz36_12
  try clear hfz36_13
  try clear hfz36_2
  try clear hfz36_3
  try clear hfz36_4
  try clear hfz36_5
  try clear hfz36_6
  try clear hfz36_7
  try clear hfz36_8
  try clear hfz36_9
  try clear hfz38_0
  try clear hfz38_1
  try clear hfz38_10
  try clear hfz38_11
  try clear hfz38_12
  try clear hfz38_13
  try clear hfz38_2
  try clear hfz38_3
  try clear hfz38_4
  try clear hfz38_5
  try clear hfz38_6
  try clear hfz38_7
  try clear hfz38_8
  try clear hfz38_9
  obtain ⟨x4_1, x150011_1, u150011, rfl, HA, HK1, HO_150011, xB, xG, xD, HB⟩ := hrel
  cases gk with
  | zero => exact absurd HA.out (by simp [truchmanref17_Good.l0])
  | succ k1 =>
   have H := HA.out
   clear HA
   simp only [truchmanref17_Good.l0] at H
   by_cases c39 : x4_1 < (xP.length : Int)
   ·rw [if_pos c39] at H
    have c39b0 : decide (x4_1 < (xP.length : Int)) = true := decide_eq_true c39
    clear c39
    by_cases c40 : x4_1 < 8
    ·rw [if_pos c40] at H
     have c40b0 : decide (x4_1 < 8) = true := decide_eq_true c40
     clear c40
     by_cases c41 : 0 ≤ x4_1
     ·rw [if_pos c41] at H
      have c41b0 : decide (0 ≤ x4_1) = true := decide_eq_true c41
      clear c41
      replace H := Option.bind_eq_some_iff.mp H
      obtain ⟨t155, A420, H⟩ := H
      replace H : (if x150011_1.length < 8796093022208 then (truchmanref17_Good.l0 k1 (wrap64 (x4_1 + 1)) xU xS xR xQ xO xN xL xJ xM xK xH xP xI xT yE yF yI yK yL yN yP yQ yX yY zA (x150011_1 ++ [t155]) (wrap64 (yZ - 1))) else (none)) = some (r1, r2, r3, r4, r5, r6, r7, r8, r9, r10, r11, r12, r13, r14) := H
      have A42 := Aside0.mk A420
      clear A420
      by_cases c43 : x150011_1.length < 8796093022208
      ·rw [if_pos c43] at H
       have LMc43 := Aside0.mk c43
       clear c43
       obtain ⟨y156, hy156⟩ : ∃ y_ : List ByteArray, y_ = (x150011_1 ++ [t155]) := ⟨_, rfl⟩
       replace H : (truchmanref17_Good.l0 k1 (wrap64 (x4_1 + 1)) xU xS xR xQ xO xN xL xJ xM xK xH xP xI xT yE yF yI yK yL yN yP yQ yX yY zA y156 (wrap64 (yZ - 1))) = some (r1, r2, r3, r4, r5, r6, r7, r8, r9, r10, r11, r12, r13, r14) := by first | (rw [hy156]; with_reducible exact H) | (have H2_ := (Option.bind_some _ _).symm.trans H; rw [hy156]; with_reducible exact H2_) | (have H2_ := (Option.bind_some _ _).symm.trans H; with_reducible exact H2_) | with_reducible exact H | (rw [hy156]; exact H) | exact H
       have Ny156 := Aside0.mk hy156
       clear hy156
       have H' := Aside0.mk H
       clear H
       have hnb44 := NB139_140.out
       have hnc44 := NB140_139.out
       have hnb45 := xE.out
       have hnc45 := yV.out
       have hcz46_0 : wr.cell? ⟨xA, 0, none⟩ = some (.int .i64 xU) := (bC xB.out 0).trans rfl
       have hcz46_1 : wr.cell? ⟨xA, 1, none⟩ = some (.int .i64 xS) := (bC xB.out 1).trans rfl
       have hcz46_2 : wr.cell? ⟨xA, 2, none⟩ = some (.int .i64 xR) := (bC xB.out 2).trans rfl
       have hcz46_3 : wr.cell? ⟨xA, 3, none⟩ = some (.int .i64 xQ) := (bC xB.out 3).trans rfl
       have hcz46_4 : wr.cell? ⟨xA, 4, none⟩ = some (.int .i64 xO) := (bC xB.out 4).trans rfl
       have hcz46_5 : wr.cell? ⟨xA, 5, none⟩ = some (.int .i64 xN) := (bC xB.out 5).trans rfl
       have hcz46_6 : wr.cell? ⟨xA, 6, none⟩ = some (.int .i64 xL) := (bC xB.out 6).trans rfl
       have hcz46_7 : wr.cell? ⟨xA, 7, none⟩ = some (.int .i64 xJ) := (bC xB.out 7).trans rfl
       have hcz46_8 : wr.cell? ⟨xA, 8, none⟩ = some (.int .i64 xM) := (bC xB.out 8).trans rfl
       have hcz46_9 : wr.cell? ⟨xA, 9, none⟩ = some (.int .i64 xK) := (bC xB.out 9).trans rfl
       have hcz46_10 : wr.cell? ⟨xA, 10, none⟩ = some (.string xH) := (bC xB.out 10).trans rfl
       have hcz46_11 : wr.cell? ⟨xA, 11, none⟩ = some (.slice yB xP.length yA) := (bC xB.out 11).trans rfl
       have hcz46_12 : wr.cell? ⟨xA, 12, none⟩ = some (.int .i64 xI) := (bC xB.out 12).trans rfl
       have hcz46_13 : wr.cell? ⟨xA, 13, none⟩ = some (.slice xV xT.length xW) := (bC xB.out 13).trans rfl
       have hfz46_0 := bZ xB.out 0
       have hfz46_1 := bZ xB.out 1
       have hfz46_2 := bZ xB.out 2
       have hfz46_3 := bZ xB.out 3
       have hfz46_4 := bZ xB.out 4
       have hfz46_5 := bZ xB.out 5
       have hfz46_6 := bZ xB.out 6
       have hfz46_7 := bZ xB.out 7
       have hfz46_8 := bZ xB.out 8
       have hfz46_9 := bZ xB.out 9
       have hfz46_10 := bZ xB.out 10
       have hfz46_11 := bZ xB.out 11
       have hfz46_12 := bZ xB.out 12
       have hfz46_13 := bZ xB.out 13
       try go_wp2
       have xX := Aside0.mk (Kd.R_drew HO_150011.out)
       have xY := Aside0.mk (bD xB.out)
       have xZ := Aside0.mk (bD xG.out)
       have yC := Aside0.mk (bD xD.out)
       have yD := Aside0.mk (below_drew1 HB.out)
       clear HO_150011
       clear xB
       clear xG
       clear xD
       clear HB
       have HO_150011 := xX
       have xB := xY
       have xG := xZ
       have xD := yC
       have HB := yD
       clear xX xY xZ yC yD
       have p154 : 0 ≤ (x4_1 : Int) := of_decide_eq_true (by first | (with_reducible assumption) | assumption)
       have q154 : x4_1 < (xP.length : Int) := of_decide_eq_true (by first | (with_reducible assumption) | assumption)
       obtain ⟨ad154, e154, hx154_0⟩ := Kd.at_string HR0_11.out x4_1 p154 q154
       have hw154_0 := hx154_0
       cases e154
       replace hx154_0 := (HB.out.cell (World.block_lt_of_cell? w _ hx154_0)).trans hx154_0
       replace p154 := eq_true p154
       replace q154 := eq_true q154
       refine start_ (n := 12) (S := fun w' => w'.cell? ⟨xC, 0, none⟩ = some (.int .i64 yE) ∧ w'.cell? ⟨xC, 1, none⟩ = some (.int .i64 yF) ∧ w'.cell? ⟨xC, 2, none⟩ = some (.int .i64 yI) ∧ w'.cell? ⟨xC, 3, none⟩ = some (.int .i64 yK) ∧ w'.cell? ⟨xC, 4, none⟩ = some (.int .i64 yL) ∧ w'.cell? ⟨xC, 5, none⟩ = some (.int .i64 yN) ∧ w'.cell? ⟨xC, 6, none⟩ = some (.int .i64 yP) ∧ w'.cell? ⟨xC, 7, none⟩ = some (.int .i64 yQ) ∧ w'.cell? ⟨xC, 8, none⟩ = some (.int .i64 yX) ∧ w'.cell? ⟨xC, 9, none⟩ = some (.int .i64 yY) ∧ w'.cell? ⟨xC, 10, none⟩ = some (.string zA) ∧ w'.cell? ⟨xC, 11, none⟩ = some (u150011) ∧ w'.cell? ⟨xC, 12, none⟩ = some (.int .i64 (wrap64 (yZ - 1))) ∧ w'.cell? ⟨xC, 13, none⟩ = some (.slice none 0 0) ∧ w'.cell? ⟨xA, 0, none⟩ = some (.int .i64 xU) ∧ w'.cell? ⟨xA, 1, none⟩ = some (.int .i64 xS) ∧ w'.cell? ⟨xA, 2, none⟩ = some (.int .i64 xR) ∧ w'.cell? ⟨xA, 3, none⟩ = some (.int .i64 xQ) ∧ w'.cell? ⟨xA, 4, none⟩ = some (.int .i64 xO) ∧ w'.cell? ⟨xA, 5, none⟩ = some (.int .i64 xN) ∧ w'.cell? ⟨xA, 6, none⟩ = some (.int .i64 xL) ∧ w'.cell? ⟨xA, 7, none⟩ = some (.int .i64 xJ) ∧ w'.cell? ⟨xA, 8, none⟩ = some (.int .i64 xM) ∧ w'.cell? ⟨xA, 9, none⟩ = some (.int .i64 xK) ∧ w'.cell? ⟨xA, 10, none⟩ = some (.string xH) ∧ w'.cell? ⟨xA, 11, none⟩ = some (.slice (some ad154) xP.length yA) ∧ w'.cell? ⟨xA, 12, none⟩ = some (.int .i64 xI) ∧ w'.cell? ⟨xA, 13, none⟩ = some (.slice xV xT.length xW) ∧ w'.cell? (ad154.add (x4_1).toNat) = some (.string (rdOf ByteArray.empty xP x4_1))) (ds := [11]) #[false, false, false, false, false, false, false, false, false, false, false, false] (by kernel_rfl) rfl rfl ⟨(bC xD.out 0).trans rfl, (bC xD.out 1).trans rfl, (bC xD.out 2).trans rfl, (bC xD.out 3).trans rfl, (bC xD.out 4).trans rfl, (bC xD.out 5).trans rfl, (bC xD.out 6).trans rfl, (bC xD.out 7).trans rfl, (bC xD.out 8).trans rfl, (bC xD.out 9).trans rfl, (bC xD.out 10).trans rfl, (bC xD.out 11).trans rfl, (bC xD.out 12).trans rfl, (bC xD.out 13).trans rfl, (bC xB.out 0).trans rfl, (bC xB.out 1).trans rfl, (bC xB.out 2).trans rfl, (bC xB.out 3).trans rfl, (bC xB.out 4).trans rfl, (bC xB.out 5).trans rfl, (bC xB.out 6).trans rfl, (bC xB.out 7).trans rfl, (bC xB.out 8).trans rfl, (bC xB.out 9).trans rfl, (bC xB.out 10).trans rfl, (bC xB.out 11).trans rfl, (bC xB.out 12).trans rfl, (bC xB.out 13).trans rfl, ((HB.out.cell (World.block_lt_of_cell? w _ hw154_0)).trans hw154_0)⟩ (fun hHeld => ?_); refine with_tabW truchmanref17_Good.tab9 truchmanref17_Good.bits9 (fun HT_ HW_ => ?_)
       generalize wr.drew = w47 at HO_150011 xB xG xD HB hx154_0 hHeld ⊢
       refine pure_ (i := 0) (N := some 58) (v := ?_) (a' := ?_) #[true, false, false, false, false, false, false, false, false, false, false, false] rfl rfl (any_of HT_.out (by kernel_rfl)) (fun _ _ _ h => h) (Or.inl ⟨by rfl, ?_⟩) ?_ ?_
       rotate_left
       ·intro w'
        go_simp
        with_reducible rfl
       rotate_left
       ·simp only [Act.put, bL, bO, bU, i64_w, i32_w]
        rfl
       refine pure_ (i := 2) (N := some 60) (v := ?_) (a' := ?_) #[true, false, true, false, false, false, false, false, false, false, false, false] rfl rfl (any_of HT_.out (by kernel_rfl)) (fun _ _ _ h => h) (Or.inl ⟨by rfl, ?_⟩) ?_ ?_
       rotate_left
       ·intro w'
        go_simp
        with_reducible rfl
       rotate_left
       ·simp only [Act.put, bL, bO, bU, i64_w, i32_w]
        rfl
       refine pure_ (i := 4) (N := some 62) (v := ?_) (a' := ?_) #[true, false, true, false, true, false, false, false, false, false, false, false] rfl rfl (any_of HT_.out (by kernel_rfl)) (fun _ _ _ h => h) (Or.inl ⟨by rfl, ?_⟩) ?_ ?_
       rotate_left
       ·intro w'
        go_simp
        with_reducible rfl
       rotate_left
       ·simp only [Act.put, bL, bO, bU, i64_w, i32_w]
        rfl
       refine take_ (i := 1) (N := some 59) (v := ?_) (a' := ?_) #[true, true, true, false, true, false, false, false, false, false, false, false] rfl rfl (take_ofW HT_.out HW_.out (by kernel_rfl)) (fun _ _ _ h => h) (Or.inl ⟨by rfl, ?_⟩) hHeld ?_ ?_
       rotate_left
       ·rintro w' ⟨s0, s1, s2, s3, s4, s5, s6, s7, s8, s9, s10, s11, s12, s13, s14, s15, s16, s17, s18, s19, s20, s21, s22, s23, s24, s25, s26, s27, s28⟩
        go_simp
        with_reducible rfl
       rotate_left
       ·simp only [Act.put, bL, bO, bU, i64_w, i32_w]
        rfl
       refine take_ (i := 3) (N := some 61) (v := ?_) (a' := ?_) #[true, true, true, true, true, false, false, false, false, false, false, false] rfl rfl (take_ofW HT_.out HW_.out (by kernel_rfl)) (fun _ _ _ h => h) (Or.inl ⟨by rfl, ?_⟩) hHeld ?_ ?_
       rotate_left
       ·rintro w' ⟨s0, s1, s2, s3, s4, s5, s6, s7, s8, s9, s10, s11, s12, s13, s14, s15, s16, s17, s18, s19, s20, s21, s22, s23, s24, s25, s26, s27, s28⟩
        go_simp
        with_reducible rfl
       rotate_left
       ·simp only [Act.put, bL, bO, bU, i64_w, i32_w]
        rfl
       refine pure_ (i := 5) (N := some 63) (v := ?_) (a' := ?_) #[true, true, true, true, true, true, false, false, false, false, false, false] rfl rfl (any_of HT_.out (by kernel_rfl)) (fun _ _ _ h => h) (Or.inl ⟨by rfl, ?_⟩) ?_ ?_
       rotate_left
       ·intro w'
        go_simp
        with_reducible rfl
       rotate_left
       ·simp only [Act.put, bL, bO, bU, i64_w, i32_w]
        rfl
       refine take_ (i := 6) (N := some 64) (v := ?_) (a' := ?_) #[true, true, true, true, true, true, true, false, false, false, false, false] rfl rfl (take_ofW HT_.out HW_.out (by kernel_rfl)) (fun _ _ _ h => h) (Or.inl ⟨by rfl, ?_⟩) hHeld ?_ ?_
       rotate_left
       ·rintro w' ⟨s0, s1, s2, s3, s4, s5, s6, s7, s8, s9, s10, s11, s12, s13, s14, s15, s16, s17, s18, s19, s20, s21, s22, s23, s24, s25, s26, s27, s28⟩
        go_simp
        with_reducible rfl
       rotate_left
       ·simp only [Act.put, bL, bO, bU, i64_w, i32_w]
        rfl
       refine one_ (i := 7) (N := some 65) #[true, true, true, true, true, true, true, true, false, false, false, false] rfl rfl (one_of HT_.out (by kernel_rfl)) (by decide) (fun K hK => ?_)
       refine goes_ Try.func27 (by kernel_rfl) rfl #[.string (rdOf ByteArray.empty xP x4_1), .int .i64 40] (by rfl) rfl rfl (by (try simp only [List.map_toArray, List.map_cons, List.map_nil]); first | done | rfl | (simp only [List.length_drop, List.length_take]; rfl)) ?_
       with_reducible refine (truchmanref01_Short.calls (rdOf ByteArray.empty xP x4_1) 40 t155 _ A42.out).mono ?_
       rintro e w' ⟨rfl, ⟨nd, rfl⟩⟩
       refine ⟨_, rfl, ?_⟩
       refine hK.out _ _ ⟨(bC xD.out 0).trans rfl, (bC xD.out 1).trans rfl, (bC xD.out 2).trans rfl, (bC xD.out 3).trans rfl, (bC xD.out 4).trans rfl, (bC xD.out 5).trans rfl, (bC xD.out 6).trans rfl, (bC xD.out 7).trans rfl, (bC xD.out 8).trans rfl, (bC xD.out 9).trans rfl, (bC xD.out 10).trans rfl, (bC xD.out 11).trans rfl, (bC xD.out 12).trans rfl, (bC xD.out 13).trans rfl, (bC xB.out 0).trans rfl, (bC xB.out 1).trans rfl, (bC xB.out 2).trans rfl, (bC xB.out 3).trans rfl, (bC xB.out 4).trans rfl, (bC xB.out 5).trans rfl, (bC xB.out 6).trans rfl, (bC xB.out 7).trans rfl, (bC xB.out 8).trans rfl, (bC xB.out 9).trans rfl, (bC xB.out 10).trans rfl, (bC xB.out 11).trans rfl, (bC xB.out 12).trans rfl, (bC xB.out 13).trans rfl, ((HB.out.cell (World.block_lt_of_cell? w _ hw154_0)).trans hw154_0)⟩ (fun hHeld => ?_)
       clear hK K
       refine norm_ (a' := ?_) ?_ ?_
       rotate_left
       ·show Act.put _ (some 65) _ = _
        simp only [Act.put, bL, bO, bU, i64_w, i32_w]
        rfl
       refine one_ (i := 8) (N := some 66) #[true, true, true, true, true, true, true, true, true, false, false, false] rfl rfl (one_of HT_.out (by kernel_rfl)) (by decide) (fun K hK => ?_)
       refine value_ (w1 := ?_) (v := ?_) (by rfl) rfl ?_ ?_
       rotate_left 2
       ·go_simp
        constructor
        ·rfl
        ·rfl
       refine hK.out _ _ ⟨(bC (bA xD.out _) 0).trans rfl, (bC (bA xD.out _) 1).trans rfl, (bC (bA xD.out _) 2).trans rfl, (bC (bA xD.out _) 3).trans rfl, (bC (bA xD.out _) 4).trans rfl, (bC (bA xD.out _) 5).trans rfl, (bC (bA xD.out _) 6).trans rfl, (bC (bA xD.out _) 7).trans rfl, (bC (bA xD.out _) 8).trans rfl, (bC (bA xD.out _) 9).trans rfl, (bC (bA xD.out _) 10).trans rfl, (bC (bA xD.out _) 11).trans rfl, (bC (bA xD.out _) 12).trans rfl, (bC (bA xD.out _) 13).trans rfl, (bC (bA xB.out _) 0).trans rfl, (bC (bA xB.out _) 1).trans rfl, (bC (bA xB.out _) 2).trans rfl, (bC (bA xB.out _) 3).trans rfl, (bC (bA xB.out _) 4).trans rfl, (bC (bA xB.out _) 5).trans rfl, (bC (bA xB.out _) 6).trans rfl, (bC (bA xB.out _) 7).trans rfl, (bC (bA xB.out _) 8).trans rfl, (bC (bA xB.out _) 9).trans rfl, (bC (bA xB.out _) 10).trans rfl, (bC (bA xB.out _) 11).trans rfl, (bC (bA xB.out _) 12).trans rfl, (bC (bA xB.out _) 13).trans rfl, (World.cell?_alloc_lt _ _ _ (World.block_lt_of_cell? _ _ (((HB.out.cell (World.block_lt_of_cell? w _ hw154_0)).trans hw154_0)))).trans (((HB.out.cell (World.block_lt_of_cell? w _ hw154_0)).trans hw154_0))⟩ (fun hHeld => ?_)
       clear hK K
       refine norm_ (a' := ?_) ?_ ?_
       rotate_left
       ·show Act.put _ (some 66) _ = _
        simp only [Act.put, bL, bO, bU, i64_w, i32_w]
        rfl
       refine one_ (i := 9) (N := some 67) #[true, true, true, true, true, true, true, true, true, true, false, false] rfl rfl (one_of HT_.out (by kernel_rfl)) (by decide) (fun K hK => ?_)
       refine Kd.R_append_step Kd.string (w0 := w) w.heap.size (by rfl) (.tmp 59) (.tmp 66) 29 9 (.string ⟨#[]⟩) 16 rfl Try.underlying29 info9 rfl (by decide) (by omega) u150011 x150011_1 t155 [.string t155] (fun _ => True) (fun _ => False) rfl rfl ?aP (fun _ hk => hk.elim) ?aF ?aO ?aB ?aS ?aL ?_
       (case aP => exact rfl)
       (case aB => exact (by repeat (first | (with_reducible first | exact HB.out | apply below_alloc | apply pw_below_drewN | apply below_drew1 | refine bS ?_ yJ.out | refine bS ?_ yM.out | refine bS ?_ yO.out) | exact HB.out)))
       (case aF => exact (fun _ _ => trivial))
       (case aO => exact (by (with_reducible repeat (first | apply Kd.R_alloc | apply Kd.R_drewN | apply Kd.R_drew)); exact HO_150011.out))
       (case aS => exact (below_size (by repeat (first | (with_reducible first | exact HB.out | apply below_alloc | apply pw_below_drewN | apply below_drew1 | refine bS ?_ yJ.out | refine bS ?_ yM.out | refine bS ?_ yO.out) | exact HB.out))))
       (case aL => have := LMc43.out; omega)
       intro v157 w48 ho hb hg hat
       rw [← Ny156.out] at ho
       have xX := Aside0.mk (blk_grown (g := xA) (o := .cells #[.int .i64 xU, .int .i64 xS, .int .i64 xR, .int .i64 xQ, .int .i64 xO, .int .i64 xN, .int .i64 xL, .int .i64 xJ, .int .i64 xM, .int .i64 xK, .string xH, .slice (some ad154) xP.length yA, .int .i64 xI, .slice xV xT.length xW] 32 (0, 0)) (by (with_reducible repeat (first | refine bN ?_ _ | refine bD ?_ | refine bA ?_ _)); exact xB.out) hg (Kd.R_ne HO_150011.out xB.out (by decide)))
       have xY := Aside0.mk (blk_grown (g := xF) (o := .cells #[.int .i64 0, .int .i64 0, .int .i64 0, .int .i64 0, .int .i64 0, .int .i64 0, .int .i64 0, .int .i64 0, .int .i64 0, .int .i64 0, .string ⟨#[]⟩, .slice none 0 0, .int .i64 0, .slice none 0 0] 32 (0, 0)) (by (with_reducible repeat (first | refine bN ?_ _ | refine bD ?_ | refine bA ?_ _)); exact xG.out) hg (Kd.R_ne HO_150011.out xG.out (by decide)))
       have xZ := Aside0.mk (blk_grown (g := xC) (o := .cells #[.int .i64 yE, .int .i64 yF, .int .i64 yI, .int .i64 yK, .int .i64 yL, .int .i64 yN, .int .i64 yP, .int .i64 yQ, .int .i64 yX, .int .i64 yY, .string zA, u150011, .int .i64 (wrap64 (yZ - 1)), .slice none 0 0] 32 (0, 0)) (by (with_reducible repeat (first | refine bN ?_ _ | refine bD ?_ | refine bA ?_ _)); exact xD.out) hg (Kd.R_ne HO_150011.out xD.out (by decide)))
       have yC := Aside0.mk (hb)
       have yD := Aside0.mk (ho)
       clear xB
       clear xG
       clear xD
       clear HB
       clear HO_150011
       have xB := xX
       have xG := xY
       have xD := xZ
       have HB := yC
       have HO158 := yD
       clear xX xY xZ yC yD
       clear ho hb hg hat
       obtain ⟨Ao49, co49, eo49⟩ := Kd.R_slice HO158.out
       (first | subst eo49 | (injection eo49 with f1_ f2_ f3_; have f4_ := f1_.symm; have f5_ := f3_.symm; clear f1_ f2_ f3_; subst f4_; subst f5_))
       refine hK.out _ _ ⟨(bC xD.out 0).trans rfl, (bC xD.out 1).trans rfl, (bC xD.out 2).trans rfl, (bC xD.out 3).trans rfl, (bC xD.out 4).trans rfl, (bC xD.out 5).trans rfl, (bC xD.out 6).trans rfl, (bC xD.out 7).trans rfl, (bC xD.out 8).trans rfl, (bC xD.out 9).trans rfl, (bC xD.out 10).trans rfl, (bC xD.out 11).trans rfl, (bC xD.out 12).trans rfl, (bC xD.out 13).trans rfl, (bC xB.out 0).trans rfl, (bC xB.out 1).trans rfl, (bC xB.out 2).trans rfl, (bC xB.out 3).trans rfl, (bC xB.out 4).trans rfl, (bC xB.out 5).trans rfl, (bC xB.out 6).trans rfl, (bC xB.out 7).trans rfl, (bC xB.out 8).trans rfl, (bC xB.out 9).trans rfl, (bC xB.out 10).trans rfl, (bC xB.out 11).trans rfl, (bC xB.out 12).trans rfl, (bC xB.out 13).trans rfl, ((HB.out.cell (World.block_lt_of_cell? w _ hw154_0)).trans hw154_0)⟩ (fun hHeld => ?_)
       clear hK K
       refine norm_ (a' := ?_) ?_ ?_
       rotate_left
       ·show Act.put _ (some 67) _ = _
        simp only [Act.put, bL, bO, bU, i64_w, i32_w]
        rfl
       refine pure_ (i := 10) (N := some 68) (v := ?_) (a' := ?_) #[true, true, true, true, true, true, true, true, true, true, true, false] rfl rfl (any_of HT_.out (by kernel_rfl)) (fun _ _ _ h => h) (Or.inl ⟨by rfl, ?_⟩) ?_ ?_
       rotate_left
       ·intro w'
        go_simp
        with_reducible rfl
       rotate_left
       ·simp only [Act.put, bL, bO, bU, i64_w, i32_w]
        rfl
       refine last_ (i := 11) (N := none) #[true, true, true, true, true, true, true, true, true, true, true, true] rfl rfl (one_of HT_.out (by kernel_rfl)) (by decide) (fun K hK => ?_)
       have hs50 : w48.cell? ⟨xC, 11, none⟩ = some (u150011) := (bC xD.out 11).trans rfl
       have hfs50 := bZ xD.out 11
       have hns50_0 := xE.out
       have hns50_1 := yH.out
       have hms50_0 := yV.out
       have hms50_1 := yW.out
       refine skip_ (w1 := ?_) (by rfl) rfl ?_ ?_
       rotate_left
       ·go_simp
        rfl
       refine hK.out _ _ ?_
       clear hK K
       refine done_ (done_of HT_.out (by kernel_rfl)) ?_
       try go_wp2
       go_roundg k1
       case measure => have := HK1.out; omega
       case rel => exact ⟨(wrap64 (x4_1 + 1)), (y156), (.slice Ao49 y156.length co49), (by first | rfl | (simp; done) | (simp [*]; done)), H', ⟨by have := HK1.out; omega⟩, ⟨by (with_reducible repeat (first | apply Kd.R_alloc | apply Kd.R_drewN | apply Kd.R_drew)); exact Kd.R_mono (Kd.R_far (p := ⟨xC, 11, none⟩) (Kd.R_types HO158.out xD.out (by decide)) (fun _ hk => by first | exact hk.2 | exact hk.1 | exact hk.1.1 | exact hk.1.2 | exact hk.2.1 | exact hk.2.2 | exact hk) (.slice Ao49 y156.length co49)) (fun _ hk => trivial)⟩, ⟨by (with_reducible repeat (first | refine bN ?_ _ | refine bD ?_ | refine bA ?_ _)); refine blk_far ?_ xE.out _; (with_reducible repeat (first | refine bN ?_ _ | refine bD ?_ | refine bA ?_ _)); exact xB.out⟩, ⟨by (with_reducible repeat (first | refine bN ?_ _ | refine bD ?_ | refine bA ?_ _)); refine blk_far ?_ yH.out _; (with_reducible repeat (first | refine bN ?_ _ | refine bD ?_ | refine bA ?_ _)); exact xG.out⟩, ⟨by (with_reducible repeat (first | refine bN ?_ _ | refine bD ?_ | refine bA ?_ _)); refine blk_put (cs := #[.int .i64 yE, .int .i64 yF, .int .i64 yI, .int .i64 yK, .int .i64 yL, .int .i64 yN, .int .i64 yP, .int .i64 yQ, .int .i64 yX, .int .i64 yY, .string zA, u150011, .int .i64 (wrap64 (yZ - 1)), .slice none 0 0]) ?_ 11 _ rfl; (with_reducible repeat (first | refine bN ?_ _ | refine bD ?_ | refine bA ?_ _)); exact xD.out⟩, ⟨by repeat (first | (with_reducible first | exact HB.out | apply below_alloc | apply pw_below_drewN | apply below_drew1 | refine bS ?_ yJ.out | refine bS ?_ yM.out | refine bS ?_ yO.out) | exact HB.out)⟩⟩
      ·rw [if_neg c43] at H
       exact absurd H (by simp)
     ·rw [if_neg c41] at H
      exact absurd H (by simp)
    ·rw [if_neg c40] at H
     have c40b0 : decide (x4_1 < 8) = false := decide_eq_false c40
     clear c40
     replace H := Option.bind_eq_some_iff.mp H
     obtain ⟨t159, A510, H⟩ := H
     replace H : ((truchmanref17_Own.f k1 yE yF yI yK yL yN yP yQ yX yY zA x150011_1 (wrap64 (yZ - 1)) t159).bind fun bt162 => (some (bt162.1, bt162.2.1, bt162.2.2.1, bt162.2.2.2.1, bt162.2.2.2.2.1, bt162.2.2.2.2.2.1, bt162.2.2.2.2.2.2.1, bt162.2.2.2.2.2.2.2.1, bt162.2.2.2.2.2.2.2.2.1, bt162.2.2.2.2.2.2.2.2.2.1, bt162.2.2.2.2.2.2.2.2.2.2.1, bt162.2.2.2.2.2.2.2.2.2.2.2.1, bt162.2.2.2.2.2.2.2.2.2.2.2.2.1, bt162.2.2.2.2.2.2.2.2.2.2.2.2.2))) = some (r1, r2, r3, r4, r5, r6, r7, r8, r9, r10, r11, r12, r13, r14) := H
     have A51 := Aside0.mk A510
     clear A510
     replace H := Option.bind_eq_some_iff.mp H
     obtain ⟨⟨t162, t163, t164, t165, t166, t167, t168, t169, t170, t171, t172, t173, t176, t177⟩, A520, H⟩ := H
     replace H : (some (t162, t163, t164, t165, t166, t167, t168, t169, t170, t171, t172, t173, t176, t177)) = some (r1, r2, r3, r4, r5, r6, r7, r8, r9, r10, r11, r12, r13, r14) := H
     have A52 := Aside0.mk A520
     clear A520
     simp only [Option.some.injEq, Prod.mk.injEq] at H
     obtain ⟨rfl, rfl, rfl, rfl, rfl, rfl, rfl, rfl, rfl, rfl, rfl, rfl, rfl, rfl⟩ := H
     have hnb53 := NB139_140.out
     have hnc53 := NB140_139.out
     have hnb54 := xE.out
     have hnc54 := yV.out
     have hcz55_0 : wr.cell? ⟨xA, 0, none⟩ = some (.int .i64 xU) := (bC xB.out 0).trans rfl
     have hcz55_1 : wr.cell? ⟨xA, 1, none⟩ = some (.int .i64 xS) := (bC xB.out 1).trans rfl
     have hcz55_2 : wr.cell? ⟨xA, 2, none⟩ = some (.int .i64 xR) := (bC xB.out 2).trans rfl
     have hcz55_3 : wr.cell? ⟨xA, 3, none⟩ = some (.int .i64 xQ) := (bC xB.out 3).trans rfl
     have hcz55_4 : wr.cell? ⟨xA, 4, none⟩ = some (.int .i64 xO) := (bC xB.out 4).trans rfl
     have hcz55_5 : wr.cell? ⟨xA, 5, none⟩ = some (.int .i64 xN) := (bC xB.out 5).trans rfl
     have hcz55_6 : wr.cell? ⟨xA, 6, none⟩ = some (.int .i64 xL) := (bC xB.out 6).trans rfl
     have hcz55_7 : wr.cell? ⟨xA, 7, none⟩ = some (.int .i64 xJ) := (bC xB.out 7).trans rfl
     have hcz55_8 : wr.cell? ⟨xA, 8, none⟩ = some (.int .i64 xM) := (bC xB.out 8).trans rfl
     have hcz55_9 : wr.cell? ⟨xA, 9, none⟩ = some (.int .i64 xK) := (bC xB.out 9).trans rfl
     have hcz55_10 : wr.cell? ⟨xA, 10, none⟩ = some (.string xH) := (bC xB.out 10).trans rfl
     have hcz55_11 : wr.cell? ⟨xA, 11, none⟩ = some (.slice yB xP.length yA) := (bC xB.out 11).trans rfl
     have hcz55_12 : wr.cell? ⟨xA, 12, none⟩ = some (.int .i64 xI) := (bC xB.out 12).trans rfl
     have hcz55_13 : wr.cell? ⟨xA, 13, none⟩ = some (.slice xV xT.length xW) := (bC xB.out 13).trans rfl
     have hfz55_0 := bZ xB.out 0
     have hfz55_1 := bZ xB.out 1
     have hfz55_2 := bZ xB.out 2
     have hfz55_3 := bZ xB.out 3
     have hfz55_4 := bZ xB.out 4
     have hfz55_5 := bZ xB.out 5
     have hfz55_6 := bZ xB.out 6
     have hfz55_7 := bZ xB.out 7
     have hfz55_8 := bZ xB.out 8
     have hfz55_9 := bZ xB.out 9
     have hfz55_10 := bZ xB.out 10
     have hfz55_11 := bZ xB.out 11
     have hfz55_12 := bZ xB.out 12
     have hfz55_13 := bZ xB.out 13
     go_wp2_with (first | ((with_reducible refine gate_callee (f := 28) rfl ?_); refine goesL_ (some 71) rfl rfl Try.func28 (by kernel_rfl) rfl #[.slice xV xT.length xW, .int .i64 30] rfl (by (try simp only [List.map_toArray, List.map_cons, List.map_nil]); first | done | rfl | (simp only [List.length_drop, List.length_take]; rfl)) ?_; (with_reducible refine (truchmanref01_Few.calls _ _ xT 30 t159 _ ?side1 ?side2 A51.out).mono ?_); (case side1 => repeat (first | exact (Kd.C_below HR0_13.out HB.out) | (with_reducible refine Kd.C_alloc ?_ _) | (with_reducible refine Kd.C_drewN ?_ _) | (with_reducible refine Kd.C_drew ?_))); (case side2 => exact HC0_13.out); rintro e w56 ⟨v160, rfl, ho0, hb⟩; refine ⟨_, rfl, ?_⟩; have xX := Aside0.mk (Kd.R_below (by (with_reducible repeat (first | apply Kd.R_alloc | apply Kd.R_drewN | apply Kd.R_drew)); exact HO_150011.out) hb); have xY := Aside0.mk (Kd.R_lower ho0 (below_size (by repeat (first | (with_reducible first | exact HB.out | apply below_alloc | apply pw_below_drewN | apply below_drew1 | refine bS ?_ yJ.out | refine bS ?_ yM.out | refine bS ?_ yO.out) | exact HB.out)))); have xZ := Aside0.mk (blk_below (g := xA) (o := .cells #[.int .i64 xU, .int .i64 xS, .int .i64 xR, .int .i64 xQ, .int .i64 xO, .int .i64 xN, .int .i64 xL, .int .i64 xJ, .int .i64 xM, .int .i64 xK, .string xH, .slice yB xP.length yA, .int .i64 xI, .slice xV xT.length xW] 32 (0, 0)) (by (with_reducible repeat (first | refine bN ?_ _ | refine bD ?_ | refine bA ?_ _)); exact xB.out) hb); have yC := Aside0.mk (blk_below (g := xF) (o := .cells #[.int .i64 0, .int .i64 0, .int .i64 0, .int .i64 0, .int .i64 0, .int .i64 0, .int .i64 0, .int .i64 0, .int .i64 0, .int .i64 0, .string ⟨#[]⟩, .slice none 0 0, .int .i64 0, .slice none 0 0] 32 (0, 0)) (by (with_reducible repeat (first | refine bN ?_ _ | refine bD ?_ | refine bA ?_ _)); exact xG.out) hb); have yD := Aside0.mk (blk_below (g := xC) (o := .cells #[.int .i64 yE, .int .i64 yF, .int .i64 yI, .int .i64 yK, .int .i64 yL, .int .i64 yN, .int .i64 yP, .int .i64 yQ, .int .i64 yX, .int .i64 yY, .string zA, u150011, .int .i64 (wrap64 (yZ - 1)), .slice none 0 0] 32 (0, 0)) (by (with_reducible repeat (first | refine bN ?_ _ | refine bD ?_ | refine bA ?_ _)); exact xD.out) hb); have yG := Aside0.mk (below_step (by repeat (first | (with_reducible first | exact HB.out | apply below_alloc | apply pw_below_drewN | apply below_drew1 | refine bS ?_ yJ.out | refine bS ?_ yM.out | refine bS ?_ yO.out) | exact HB.out)) hb); clear HO_150011; clear xB; clear xG; clear xD; clear HB; have HO_150011 := xX; have HO161 := xY; have xB := xZ; have xG := yC; have xD := yD; have HB := yG; clear xX xY xZ yC yD yG; (try clear hb); (try clear hb2); (try clear hk); (try clear hi); (try clear ho0); obtain ⟨Ao57, co57, eo57⟩ := Kd.R_slice HO161.out; subst eo57; have hnb58 := yW.out; have hnc58 := yH.out; have hcz59_0 : w56.cell? ⟨xC, 0, none⟩ = some (.int .i64 yE) := (bC xD.out 0).trans rfl; have hcz59_1 : w56.cell? ⟨xC, 1, none⟩ = some (.int .i64 yF) := (bC xD.out 1).trans rfl; have hcz59_2 : w56.cell? ⟨xC, 2, none⟩ = some (.int .i64 yI) := (bC xD.out 2).trans rfl; have hcz59_3 : w56.cell? ⟨xC, 3, none⟩ = some (.int .i64 yK) := (bC xD.out 3).trans rfl; have hcz59_4 : w56.cell? ⟨xC, 4, none⟩ = some (.int .i64 yL) := (bC xD.out 4).trans rfl; have hcz59_5 : w56.cell? ⟨xC, 5, none⟩ = some (.int .i64 yN) := (bC xD.out 5).trans rfl; have hcz59_6 : w56.cell? ⟨xC, 6, none⟩ = some (.int .i64 yP) := (bC xD.out 6).trans rfl; have hcz59_7 : w56.cell? ⟨xC, 7, none⟩ = some (.int .i64 yQ) := (bC xD.out 7).trans rfl; have hcz59_8 : w56.cell? ⟨xC, 8, none⟩ = some (.int .i64 yX) := (bC xD.out 8).trans rfl; have hcz59_9 : w56.cell? ⟨xC, 9, none⟩ = some (.int .i64 yY) := (bC xD.out 9).trans rfl; have hcz59_10 : w56.cell? ⟨xC, 10, none⟩ = some (.string zA) := (bC xD.out 10).trans rfl; have hcz59_11 : w56.cell? ⟨xC, 11, none⟩ = some (u150011) := (bC xD.out 11).trans rfl; have hcz59_12 : w56.cell? ⟨xC, 12, none⟩ = some (.int .i64 (wrap64 (yZ - 1))) := (bC xD.out 12).trans rfl; have hcz59_13 : w56.cell? ⟨xC, 13, none⟩ = some (.slice none 0 0) := (bC xD.out 13).trans rfl; have hfz59_0 := bZ xD.out 0; have hfz59_1 := bZ xD.out 1; have hfz59_2 := bZ xD.out 2; have hfz59_3 := bZ xD.out 3; have hfz59_4 := bZ xD.out 4; have hfz59_5 := bZ xD.out 5; have hfz59_6 := bZ xD.out 6; have hfz59_7 := bZ xD.out 7; have hfz59_8 := bZ xD.out 8; have hfz59_9 := bZ xD.out 9; have hfz59_10 := bZ xD.out 10; have hfz59_11 := bZ xD.out 11; have hfz59_12 := bZ xD.out 12; have hfz59_13 := bZ xD.out 13) | ((with_reducible refine gate_store (t := 30) (p := 72) rfl ?_); refine store_event (t := 30) (p := 72) (v := ?vo_w60) (w1 := (w56.setCell ⟨xC, 13, none⟩ (.slice Ao57 t159.length co57))) ?hg ?ho ?hn ?hr ?_; (case ho => rfl); (case hg => rfl); (case hn => rfl); (case hr => first | (go_simp; done) | (go_simp; rfl)); intro w60 hw; have xX : Aside0 (Kd.R Kd.string 9 w60 w.heap.size (fun _ => True) u150011 x150011_1) := ⟨(by rw [hw]; exact (by (with_reducible repeat (first | apply Kd.R_alloc | apply Kd.R_drewN | apply Kd.R_drew)); exact Kd.R_mono (Kd.R_far (p := ⟨xC, 13, none⟩) (Kd.R_types HO_150011.out xD.out (by decide)) (fun _ hk => by first | exact hk.2 | exact hk.1 | exact hk.1.1 | exact hk.1.2 | exact hk.2.1 | exact hk.2.2 | exact hk) (.slice Ao57 t159.length co57)) (fun _ hk => trivial)))⟩; have xY : Aside0 (Kd.R (Kd.int .u8) 5 w60 w.heap.size (fun _ => True) (.slice Ao57 t159.length co57) t159) := ⟨(by rw [hw]; exact (by (with_reducible repeat (first | apply Kd.R_alloc | apply Kd.R_drewN | apply Kd.R_drew)); exact Kd.R_mono (Kd.R_far (p := ⟨xC, 13, none⟩) (Kd.R_types HO161.out xD.out (by decide)) (fun _ hk => by first | exact hk.2 | exact hk.1 | exact hk.1.1 | exact hk.1.2 | exact hk.2.1 | exact hk.2.2 | exact hk) (.slice Ao57 t159.length co57)) (fun _ hk => trivial)))⟩; have xZ : Aside0 (w60.heap[xA]? = some (.cells #[.int .i64 xU, .int .i64 xS, .int .i64 xR, .int .i64 xQ, .int .i64 xO, .int .i64 xN, .int .i64 xL, .int .i64 xJ, .int .i64 xM, .int .i64 xK, .string xH, .slice yB xP.length yA, .int .i64 xI, .slice xV xT.length xW] 32 (0, 0))) := ⟨(by rw [hw]; exact (by (with_reducible repeat (first | refine bN ?_ _ | refine bD ?_ | refine bA ?_ _)); refine blk_far ?_ xE.out _; (with_reducible repeat (first | refine bN ?_ _ | refine bD ?_ | refine bA ?_ _)); exact xB.out))⟩; have yC : Aside0 (w60.heap[xF]? = some (.cells #[.int .i64 0, .int .i64 0, .int .i64 0, .int .i64 0, .int .i64 0, .int .i64 0, .int .i64 0, .int .i64 0, .int .i64 0, .int .i64 0, .string ⟨#[]⟩, .slice none 0 0, .int .i64 0, .slice none 0 0] 32 (0, 0))) := ⟨(by rw [hw]; exact (by (with_reducible repeat (first | refine bN ?_ _ | refine bD ?_ | refine bA ?_ _)); refine blk_far ?_ yH.out _; (with_reducible repeat (first | refine bN ?_ _ | refine bD ?_ | refine bA ?_ _)); exact xG.out))⟩; have yD : Aside0 (w60.heap[xC]? = some (.cells #[.int .i64 yE, .int .i64 yF, .int .i64 yI, .int .i64 yK, .int .i64 yL, .int .i64 yN, .int .i64 yP, .int .i64 yQ, .int .i64 yX, .int .i64 yY, .string zA, u150011, .int .i64 (wrap64 (yZ - 1)), .slice Ao57 t159.length co57] 32 (0, 0))) := ⟨(by rw [hw]; exact (by (with_reducible repeat (first | refine bN ?_ _ | refine bD ?_ | refine bA ?_ _)); refine blk_put (cs := #[.int .i64 yE, .int .i64 yF, .int .i64 yI, .int .i64 yK, .int .i64 yL, .int .i64 yN, .int .i64 yP, .int .i64 yQ, .int .i64 yX, .int .i64 yY, .string zA, u150011, .int .i64 (wrap64 (yZ - 1)), .slice none 0 0]) ?_ 13 _ rfl; (with_reducible repeat (first | refine bN ?_ _ | refine bD ?_ | refine bA ?_ _)); exact xD.out))⟩; have yG : Aside0 (Below w.heap.size w w60) := ⟨(by rw [hw]; exact (by repeat (first | (with_reducible first | exact HB.out | apply below_alloc | apply pw_below_drewN | apply below_drew1 | refine bS ?_ yJ.out | refine bS ?_ yM.out | refine bS ?_ yO.out) | exact HB.out)))⟩; clear hw; clear HO_150011; clear HO161; clear xB; clear xG; clear xD; clear HB; have HO_150011 := xX; have HO161 := xY; have xB := xZ; have xG := yC; have xD := yD; have HB := yG; clear xX xY xZ yC yD yG; have hcz61_0 : w60.cell? ⟨xC, 0, none⟩ = some (.int .i64 yE) := (bC xD.out 0).trans rfl; have hcz61_1 : w60.cell? ⟨xC, 1, none⟩ = some (.int .i64 yF) := (bC xD.out 1).trans rfl; have hcz61_2 : w60.cell? ⟨xC, 2, none⟩ = some (.int .i64 yI) := (bC xD.out 2).trans rfl; have hcz61_3 : w60.cell? ⟨xC, 3, none⟩ = some (.int .i64 yK) := (bC xD.out 3).trans rfl; have hcz61_4 : w60.cell? ⟨xC, 4, none⟩ = some (.int .i64 yL) := (bC xD.out 4).trans rfl; have hcz61_5 : w60.cell? ⟨xC, 5, none⟩ = some (.int .i64 yN) := (bC xD.out 5).trans rfl; have hcz61_6 : w60.cell? ⟨xC, 6, none⟩ = some (.int .i64 yP) := (bC xD.out 6).trans rfl; have hcz61_7 : w60.cell? ⟨xC, 7, none⟩ = some (.int .i64 yQ) := (bC xD.out 7).trans rfl; have hcz61_8 : w60.cell? ⟨xC, 8, none⟩ = some (.int .i64 yX) := (bC xD.out 8).trans rfl; have hcz61_9 : w60.cell? ⟨xC, 9, none⟩ = some (.int .i64 yY) := (bC xD.out 9).trans rfl; have hcz61_10 : w60.cell? ⟨xC, 10, none⟩ = some (.string zA) := (bC xD.out 10).trans rfl; have hcz61_11 : w60.cell? ⟨xC, 11, none⟩ = some (u150011) := (bC xD.out 11).trans rfl; have hcz61_12 : w60.cell? ⟨xC, 12, none⟩ = some (.int .i64 (wrap64 (yZ - 1))) := (bC xD.out 12).trans rfl; have hcz61_13 : w60.cell? ⟨xC, 13, none⟩ = some (.slice Ao57 t159.length co57) := (bC xD.out 13).trans rfl; have hfz61_0 := bZ xD.out 0; have hfz61_1 := bZ xD.out 1; have hfz61_2 := bZ xD.out 2; have hfz61_3 := bZ xD.out 3; have hfz61_4 := bZ xD.out 4; have hfz61_5 := bZ xD.out 5; have hfz61_6 := bZ xD.out 6; have hfz61_7 := bZ xD.out 7; have hfz61_8 := bZ xD.out 8; have hfz61_9 := bZ xD.out 9; have hfz61_10 := bZ xD.out 10; have hfz61_11 := bZ xD.out 11; have hfz61_12 := bZ xD.out 12; have hfz61_13 := bZ xD.out 13; obtain ⟨Ao62, co62, eo62⟩ := Kd.R_slice HO_150011.out; subst eo62) | ((with_reducible refine gate_callee (f := 29) rfl ?_); refine goesL_ (some 74) rfl rfl Try.func29 (by kernel_rfl) rfl #[.agg #[.int .i64 yE, .int .i64 yF, .int .i64 yI, .int .i64 yK, .int .i64 yL, .int .i64 yN, .int .i64 yP, .int .i64 yQ, .int .i64 yX, .int .i64 yY, .string zA, .slice Ao62 x150011_1.length co62, .int .i64 (wrap64 (yZ - 1)), .slice Ao57 t159.length co57]] rfl (by (try simp only [List.map_toArray, List.map_cons, List.map_nil]); first | done | rfl | (simp only [List.length_drop, List.length_take]; rfl)) ?_; (with_reducible refine (truchmanref17_Own.calls k1 yE yF yI yK yL yN yP yQ yX yY zA (fun k_ => some k_ = (.slice Ao62 x150011_1.length co62 : Value).ownBlock) (.slice Ao62 x150011_1.length co62) x150011_1 (wrap64 (yZ - 1)) (fun k_ => some k_ = (.slice Ao57 t159.length co57 : Value).ownBlock) (.slice Ao57 t159.length co57) t159 t162 t163 t164 t165 t166 t167 t168 t169 t170 t171 t172 t173 t176 t177 w _ ?side1 ?side2 ?side3 A52.out).mono ?_); (case side1 => repeat (first | (with_reducible first | exact HB.out | apply below_alloc | apply pw_below_drewN | apply below_drew1 | refine bS ?_ yJ.out | refine bS ?_ yM.out | refine bS ?_ yO.out) | exact HB.out)); (case side2 => exact Kd.R_tight rfl HO_150011.out); (case side3 => exact Kd.R_tight rfl HO161.out); rintro e w63 ⟨v174, v178, rfl, ho0, ho1, hb, hkp⟩; refine ⟨_, rfl, ?_⟩; have xX := Aside0.mk (blk_kept (by (with_reducible repeat (first | refine bN ?_ _ | refine bD ?_ | refine bA ?_ _)); exact xB.out) hkp (fun hs_ => Or.elim hs_ (fun e_ => (fun e_ => (Kd.R_ne HO_150011.out xB.out (by decide)) e_) e_) (fun e_ => (fun e_ => (Kd.R_ne HO161.out xB.out (by decide)) e_) e_))); have xY := Aside0.mk (blk_kept (by (with_reducible repeat (first | refine bN ?_ _ | refine bD ?_ | refine bA ?_ _)); exact xG.out) hkp (fun hs_ => Or.elim hs_ (fun e_ => (fun e_ => (Kd.R_ne HO_150011.out xG.out (by decide)) e_) e_) (fun e_ => (fun e_ => (Kd.R_ne HO161.out xG.out (by decide)) e_) e_))); have xZ := Aside0.mk (blk_kept (by (with_reducible repeat (first | refine bN ?_ _ | refine bD ?_ | refine bA ?_ _)); exact xD.out) hkp (fun hs_ => Or.elim hs_ (fun e_ => (fun e_ => (Kd.R_ne HO_150011.out xD.out (by decide)) e_) e_) (fun e_ => (fun e_ => (Kd.R_ne HO161.out xD.out (by decide)) e_) e_))); have yC := Aside0.mk (Kd.R_mono (ok' := fun k_ => True) ho0 (fun k_ hk_ => trivial)); have yD := Aside0.mk (Kd.R_mono (ok' := fun k_ => True) ho1 (fun k_ hk_ => trivial)); have yG := Aside0.mk (hb); clear xB; clear xG; clear xD; clear HB; clear HO161; clear HO_150011; have xB := xX; have xG := xY; have xD := xZ; have HO175 := yC; have HO179 := yD; have HB := yG; clear xX xY xZ yC yD yG; (try clear hb); (try clear hkp); (try clear ho0); (try clear ho1); have hcz64_0 : w63.cell? ⟨xF, 0, none⟩ = some (.int .i64 0) := (bC xG.out 0).trans rfl; have hcz64_1 : w63.cell? ⟨xF, 1, none⟩ = some (.int .i64 0) := (bC xG.out 1).trans rfl; have hcz64_2 : w63.cell? ⟨xF, 2, none⟩ = some (.int .i64 0) := (bC xG.out 2).trans rfl; have hcz64_3 : w63.cell? ⟨xF, 3, none⟩ = some (.int .i64 0) := (bC xG.out 3).trans rfl; have hcz64_4 : w63.cell? ⟨xF, 4, none⟩ = some (.int .i64 0) := (bC xG.out 4).trans rfl; have hcz64_5 : w63.cell? ⟨xF, 5, none⟩ = some (.int .i64 0) := (bC xG.out 5).trans rfl; have hcz64_6 : w63.cell? ⟨xF, 6, none⟩ = some (.int .i64 0) := (bC xG.out 6).trans rfl; have hcz64_7 : w63.cell? ⟨xF, 7, none⟩ = some (.int .i64 0) := (bC xG.out 7).trans rfl; have hcz64_8 : w63.cell? ⟨xF, 8, none⟩ = some (.int .i64 0) := (bC xG.out 8).trans rfl; have hcz64_9 : w63.cell? ⟨xF, 9, none⟩ = some (.int .i64 0) := (bC xG.out 9).trans rfl; have hcz64_10 : w63.cell? ⟨xF, 10, none⟩ = some (.string ⟨#[]⟩) := (bC xG.out 10).trans rfl; have hcz64_11 : w63.cell? ⟨xF, 11, none⟩ = some (.slice none 0 0) := (bC xG.out 11).trans rfl; have hcz64_12 : w63.cell? ⟨xF, 12, none⟩ = some (.int .i64 0) := (bC xG.out 12).trans rfl; have hcz64_13 : w63.cell? ⟨xF, 13, none⟩ = some (.slice none 0 0) := (bC xG.out 13).trans rfl; have hfz64_0 := bZ xG.out 0; have hfz64_1 := bZ xG.out 1; have hfz64_2 := bZ xG.out 2; have hfz64_3 := bZ xG.out 3; have hfz64_4 := bZ xG.out 4; have hfz64_5 := bZ xG.out 5; have hfz64_6 := bZ xG.out 6; have hfz64_7 := bZ xG.out 7; have hfz64_8 := bZ xG.out 8; have hfz64_9 := bZ xG.out 9; have hfz64_10 := bZ xG.out 10; have hfz64_11 := bZ xG.out 11; have hfz64_12 := bZ xG.out 12; have hfz64_13 := bZ xG.out 13; obtain ⟨Ao65, co65, eo65⟩ := Kd.R_slice HO175.out; subst eo65; obtain ⟨Ao66, co66, eo66⟩ := Kd.R_slice HO179.out; subst eo66))
     refine bodyPost_ret (results_cell_row rfl _ _ xF 32 #[.int .i64 t162, .int .i64 t163, .int .i64 t164, .int .i64 t165, .int .i64 t166, .int .i64 t167, .int .i64 t168, .int .i64 t169, .int .i64 t170, .int .i64 t171, .string t172, .slice Ao65 t173.length co65, .int .i64 t176, .slice Ao66 t177.length co66] (0, 0) _ rfl (by (with_reducible repeat (first | refine bN ?_ _ | refine bD ?_ | refine bA ?_ _)); refine blk_put (cs := #[.int .i64 t162, .int .i64 t163, .int .i64 t164, .int .i64 t165, .int .i64 t166, .int .i64 t167, .int .i64 t168, .int .i64 t169, .int .i64 t170, .int .i64 t171, .string t172, .slice Ao65 t173.length co65, .int .i64 t176, .slice none 0 0]) ?_ 13 _ rfl; (with_reducible repeat (first | refine bN ?_ _ | refine bD ?_ | refine bA ?_ _)); refine blk_put (cs := #[.int .i64 t162, .int .i64 t163, .int .i64 t164, .int .i64 t165, .int .i64 t166, .int .i64 t167, .int .i64 t168, .int .i64 t169, .int .i64 t170, .int .i64 t171, .string t172, .slice Ao65 t173.length co65, .int .i64 0, .slice none 0 0]) ?_ 12 _ rfl; (with_reducible repeat (first | refine bN ?_ _ | refine bD ?_ | refine bA ?_ _)); refine blk_put (cs := #[.int .i64 t162, .int .i64 t163, .int .i64 t164, .int .i64 t165, .int .i64 t166, .int .i64 t167, .int .i64 t168, .int .i64 t169, .int .i64 t170, .int .i64 t171, .string t172, .slice none 0 0, .int .i64 0, .slice none 0 0]) ?_ 11 _ rfl; (with_reducible repeat (first | refine bN ?_ _ | refine bD ?_ | refine bA ?_ _)); refine blk_put (cs := #[.int .i64 t162, .int .i64 t163, .int .i64 t164, .int .i64 t165, .int .i64 t166, .int .i64 t167, .int .i64 t168, .int .i64 t169, .int .i64 t170, .int .i64 t171, .string ⟨#[]⟩, .slice none 0 0, .int .i64 0, .slice none 0 0]) ?_ 10 _ rfl; (with_reducible repeat (first | refine bN ?_ _ | refine bD ?_ | refine bA ?_ _)); refine blk_put (cs := #[.int .i64 t162, .int .i64 t163, .int .i64 t164, .int .i64 t165, .int .i64 t166, .int .i64 t167, .int .i64 t168, .int .i64 t169, .int .i64 t170, .int .i64 0, .string ⟨#[]⟩, .slice none 0 0, .int .i64 0, .slice none 0 0]) ?_ 9 _ rfl; (with_reducible repeat (first | refine bN ?_ _ | refine bD ?_ | refine bA ?_ _)); refine blk_put (cs := #[.int .i64 t162, .int .i64 t163, .int .i64 t164, .int .i64 t165, .int .i64 t166, .int .i64 t167, .int .i64 t168, .int .i64 t169, .int .i64 0, .int .i64 0, .string ⟨#[]⟩, .slice none 0 0, .int .i64 0, .slice none 0 0]) ?_ 8 _ rfl; (with_reducible repeat (first | refine bN ?_ _ | refine bD ?_ | refine bA ?_ _)); refine blk_put (cs := #[.int .i64 t162, .int .i64 t163, .int .i64 t164, .int .i64 t165, .int .i64 t166, .int .i64 t167, .int .i64 t168, .int .i64 0, .int .i64 0, .int .i64 0, .string ⟨#[]⟩, .slice none 0 0, .int .i64 0, .slice none 0 0]) ?_ 7 _ rfl; (with_reducible repeat (first | refine bN ?_ _ | refine bD ?_ | refine bA ?_ _)); refine blk_put (cs := #[.int .i64 t162, .int .i64 t163, .int .i64 t164, .int .i64 t165, .int .i64 t166, .int .i64 t167, .int .i64 0, .int .i64 0, .int .i64 0, .int .i64 0, .string ⟨#[]⟩, .slice none 0 0, .int .i64 0, .slice none 0 0]) ?_ 6 _ rfl; (with_reducible repeat (first | refine bN ?_ _ | refine bD ?_ | refine bA ?_ _)); refine blk_put (cs := #[.int .i64 t162, .int .i64 t163, .int .i64 t164, .int .i64 t165, .int .i64 t166, .int .i64 0, .int .i64 0, .int .i64 0, .int .i64 0, .int .i64 0, .string ⟨#[]⟩, .slice none 0 0, .int .i64 0, .slice none 0 0]) ?_ 5 _ rfl; (with_reducible repeat (first | refine bN ?_ _ | refine bD ?_ | refine bA ?_ _)); refine blk_put (cs := #[.int .i64 t162, .int .i64 t163, .int .i64 t164, .int .i64 t165, .int .i64 0, .int .i64 0, .int .i64 0, .int .i64 0, .int .i64 0, .int .i64 0, .string ⟨#[]⟩, .slice none 0 0, .int .i64 0, .slice none 0 0]) ?_ 4 _ rfl; (with_reducible repeat (first | refine bN ?_ _ | refine bD ?_ | refine bA ?_ _)); refine blk_put (cs := #[.int .i64 t162, .int .i64 t163, .int .i64 t164, .int .i64 0, .int .i64 0, .int .i64 0, .int .i64 0, .int .i64 0, .int .i64 0, .int .i64 0, .string ⟨#[]⟩, .slice none 0 0, .int .i64 0, .slice none 0 0]) ?_ 3 _ rfl; (with_reducible repeat (first | refine bN ?_ _ | refine bD ?_ | refine bA ?_ _)); refine blk_put (cs := #[.int .i64 t162, .int .i64 t163, .int .i64 0, .int .i64 0, .int .i64 0, .int .i64 0, .int .i64 0, .int .i64 0, .int .i64 0, .int .i64 0, .string ⟨#[]⟩, .slice none 0 0, .int .i64 0, .slice none 0 0]) ?_ 2 _ rfl; (with_reducible repeat (first | refine bN ?_ _ | refine bD ?_ | refine bA ?_ _)); refine blk_put (cs := #[.int .i64 t162, .int .i64 0, .int .i64 0, .int .i64 0, .int .i64 0, .int .i64 0, .int .i64 0, .int .i64 0, .int .i64 0, .int .i64 0, .string ⟨#[]⟩, .slice none 0 0, .int .i64 0, .slice none 0 0]) ?_ 1 _ rfl; (with_reducible repeat (first | refine bN ?_ _ | refine bD ?_ | refine bA ?_ _)); refine blk_put (cs := #[.int .i64 0, .int .i64 0, .int .i64 0, .int .i64 0, .int .i64 0, .int .i64 0, .int .i64 0, .int .i64 0, .int .i64 0, .int .i64 0, .string ⟨#[]⟩, .slice none 0 0, .int .i64 0, .slice none 0 0]) ?_ 0 _ rfl; (with_reducible repeat (first | refine bN ?_ _ | refine bD ?_ | refine bA ?_ _)); exact xG.out) Try.underlying32 rfl (by kernel_rfl)) rfl ?_
     exact ⟨_, _, by first | rfl | (simp [errW_none, errW_some] <;> rfl) | (simp [*, errW_none, errW_some] <;> rfl), by (with_reducible repeat (first | apply Kd.R_alloc | apply Kd.R_drewN | apply Kd.R_drew)); exact Kd.R_mono (Kd.R_far (p := ⟨xF, 13, none⟩) (Kd.R_far (p := ⟨xF, 12, none⟩) (Kd.R_far (p := ⟨xF, 11, none⟩) (Kd.R_far (p := ⟨xF, 10, none⟩) (Kd.R_far (p := ⟨xF, 9, none⟩) (Kd.R_far (p := ⟨xF, 8, none⟩) (Kd.R_far (p := ⟨xF, 7, none⟩) (Kd.R_far (p := ⟨xF, 6, none⟩) (Kd.R_far (p := ⟨xF, 5, none⟩) (Kd.R_far (p := ⟨xF, 4, none⟩) (Kd.R_far (p := ⟨xF, 3, none⟩) (Kd.R_far (p := ⟨xF, 2, none⟩) (Kd.R_far (p := ⟨xF, 1, none⟩) (Kd.R_far (p := ⟨xF, 0, none⟩) (Kd.R_types HO175.out xG.out (by decide)) (fun _ hk => by first | exact hk.2 | exact hk.1 | exact hk.1.1 | exact hk.1.2 | exact hk.2.1 | exact hk.2.2 | exact hk) (.int .i64 t162)) (fun _ hk => by first | exact hk.2 | exact hk.1 | exact hk.1.1 | exact hk.1.2 | exact hk.2.1 | exact hk.2.2 | exact hk) (.int .i64 t163)) (fun _ hk => by first | exact hk.2 | exact hk.1 | exact hk.1.1 | exact hk.1.2 | exact hk.2.1 | exact hk.2.2 | exact hk) (.int .i64 t164)) (fun _ hk => by first | exact hk.2 | exact hk.1 | exact hk.1.1 | exact hk.1.2 | exact hk.2.1 | exact hk.2.2 | exact hk) (.int .i64 t165)) (fun _ hk => by first | exact hk.2 | exact hk.1 | exact hk.1.1 | exact hk.1.2 | exact hk.2.1 | exact hk.2.2 | exact hk) (.int .i64 t166)) (fun _ hk => by first | exact hk.2 | exact hk.1 | exact hk.1.1 | exact hk.1.2 | exact hk.2.1 | exact hk.2.2 | exact hk) (.int .i64 t167)) (fun _ hk => by first | exact hk.2 | exact hk.1 | exact hk.1.1 | exact hk.1.2 | exact hk.2.1 | exact hk.2.2 | exact hk) (.int .i64 t168)) (fun _ hk => by first | exact hk.2 | exact hk.1 | exact hk.1.1 | exact hk.1.2 | exact hk.2.1 | exact hk.2.2 | exact hk) (.int .i64 t169)) (fun _ hk => by first | exact hk.2 | exact hk.1 | exact hk.1.1 | exact hk.1.2 | exact hk.2.1 | exact hk.2.2 | exact hk) (.int .i64 t170)) (fun _ hk => by first | exact hk.2 | exact hk.1 | exact hk.1.1 | exact hk.1.2 | exact hk.2.1 | exact hk.2.2 | exact hk) (.int .i64 t171)) (fun _ hk => by first | exact hk.2 | exact hk.1 | exact hk.1.1 | exact hk.1.2 | exact hk.2.1 | exact hk.2.2 | exact hk) (.string t172)) (fun _ hk => by first | exact hk.2 | exact hk.1 | exact hk.1.1 | exact hk.1.2 | exact hk.2.1 | exact hk.2.2 | exact hk) (.slice Ao65 t173.length co65)) (fun _ hk => by first | exact hk.2 | exact hk.1 | exact hk.1.1 | exact hk.1.2 | exact hk.2.1 | exact hk.2.2 | exact hk) (.int .i64 t176)) (fun _ hk => by first | exact hk.2 | exact hk.1 | exact hk.1.1 | exact hk.1.2 | exact hk.2.1 | exact hk.2.2 | exact hk) (.slice Ao66 t177.length co66)) (fun _ hk => trivial), by (with_reducible repeat (first | apply Kd.R_alloc | apply Kd.R_drewN | apply Kd.R_drew)); exact Kd.R_mono (Kd.R_far (p := ⟨xF, 13, none⟩) (Kd.R_far (p := ⟨xF, 12, none⟩) (Kd.R_far (p := ⟨xF, 11, none⟩) (Kd.R_far (p := ⟨xF, 10, none⟩) (Kd.R_far (p := ⟨xF, 9, none⟩) (Kd.R_far (p := ⟨xF, 8, none⟩) (Kd.R_far (p := ⟨xF, 7, none⟩) (Kd.R_far (p := ⟨xF, 6, none⟩) (Kd.R_far (p := ⟨xF, 5, none⟩) (Kd.R_far (p := ⟨xF, 4, none⟩) (Kd.R_far (p := ⟨xF, 3, none⟩) (Kd.R_far (p := ⟨xF, 2, none⟩) (Kd.R_far (p := ⟨xF, 1, none⟩) (Kd.R_far (p := ⟨xF, 0, none⟩) (Kd.R_types HO179.out xG.out (by decide)) (fun _ hk => by first | exact hk.2 | exact hk.1 | exact hk.1.1 | exact hk.1.2 | exact hk.2.1 | exact hk.2.2 | exact hk) (.int .i64 t162)) (fun _ hk => by first | exact hk.2 | exact hk.1 | exact hk.1.1 | exact hk.1.2 | exact hk.2.1 | exact hk.2.2 | exact hk) (.int .i64 t163)) (fun _ hk => by first | exact hk.2 | exact hk.1 | exact hk.1.1 | exact hk.1.2 | exact hk.2.1 | exact hk.2.2 | exact hk) (.int .i64 t164)) (fun _ hk => by first | exact hk.2 | exact hk.1 | exact hk.1.1 | exact hk.1.2 | exact hk.2.1 | exact hk.2.2 | exact hk) (.int .i64 t165)) (fun _ hk => by first | exact hk.2 | exact hk.1 | exact hk.1.1 | exact hk.1.2 | exact hk.2.1 | exact hk.2.2 | exact hk) (.int .i64 t166)) (fun _ hk => by first | exact hk.2 | exact hk.1 | exact hk.1.1 | exact hk.1.2 | exact hk.2.1 | exact hk.2.2 | exact hk) (.int .i64 t167)) (fun _ hk => by first | exact hk.2 | exact hk.1 | exact hk.1.1 | exact hk.1.2 | exact hk.2.1 | exact hk.2.2 | exact hk) (.int .i64 t168)) (fun _ hk => by first | exact hk.2 | exact hk.1 | exact hk.1.1 | exact hk.1.2 | exact hk.2.1 | exact hk.2.2 | exact hk) (.int .i64 t169)) (fun _ hk => by first | exact hk.2 | exact hk.1 | exact hk.1.1 | exact hk.1.2 | exact hk.2.1 | exact hk.2.2 | exact hk) (.int .i64 t170)) (fun _ hk => by first | exact hk.2 | exact hk.1 | exact hk.1.1 | exact hk.1.2 | exact hk.2.1 | exact hk.2.2 | exact hk) (.int .i64 t171)) (fun _ hk => by first | exact hk.2 | exact hk.1 | exact hk.1.1 | exact hk.1.2 | exact hk.2.1 | exact hk.2.2 | exact hk) (.string t172)) (fun _ hk => by first | exact hk.2 | exact hk.1 | exact hk.1.1 | exact hk.1.2 | exact hk.2.1 | exact hk.2.2 | exact hk) (.slice Ao65 t173.length co65)) (fun _ hk => by first | exact hk.2 | exact hk.1 | exact hk.1.1 | exact hk.1.2 | exact hk.2.1 | exact hk.2.2 | exact hk) (.int .i64 t176)) (fun _ hk => by first | exact hk.2 | exact hk.1 | exact hk.1.1 | exact hk.1.2 | exact hk.2.1 | exact hk.2.2 | exact hk) (.slice Ao66 t177.length co66)) (fun _ hk => trivial), by repeat (first | (with_reducible first | exact HB.out | apply below_alloc | apply pw_below_drewN | apply below_drew1 | refine bS ?_ yJ.out | refine bS ?_ yM.out | refine bS ?_ yO.out) | exact HB.out)⟩
   ·rw [if_neg c39] at H
    have c39b0 : decide (x4_1 < (xP.length : Int)) = false := decide_eq_false c39
    clear c39
    replace H := Option.bind_eq_some_iff.mp H
    obtain ⟨t180, A670, H⟩ := H
    replace H : ((truchmanref17_Own.f k1 yE yF yI yK yL yN yP yQ yX yY zA x150011_1 (wrap64 (yZ - 1)) t180).bind fun bt183 => (some (bt183.1, bt183.2.1, bt183.2.2.1, bt183.2.2.2.1, bt183.2.2.2.2.1, bt183.2.2.2.2.2.1, bt183.2.2.2.2.2.2.1, bt183.2.2.2.2.2.2.2.1, bt183.2.2.2.2.2.2.2.2.1, bt183.2.2.2.2.2.2.2.2.2.1, bt183.2.2.2.2.2.2.2.2.2.2.1, bt183.2.2.2.2.2.2.2.2.2.2.2.1, bt183.2.2.2.2.2.2.2.2.2.2.2.2.1, bt183.2.2.2.2.2.2.2.2.2.2.2.2.2))) = some (r1, r2, r3, r4, r5, r6, r7, r8, r9, r10, r11, r12, r13, r14) := H
    have A67 := Aside0.mk A670
    clear A670
    replace H := Option.bind_eq_some_iff.mp H
    obtain ⟨⟨t183, t184, t185, t186, t187, t188, t189, t190, t191, t192, t193, t194, t197, t198⟩, A680, H⟩ := H
    replace H : (some (t183, t184, t185, t186, t187, t188, t189, t190, t191, t192, t193, t194, t197, t198)) = some (r1, r2, r3, r4, r5, r6, r7, r8, r9, r10, r11, r12, r13, r14) := H
    have A68 := Aside0.mk A680
    clear A680
    simp only [Option.some.injEq, Prod.mk.injEq] at H
    obtain ⟨rfl, rfl, rfl, rfl, rfl, rfl, rfl, rfl, rfl, rfl, rfl, rfl, rfl, rfl⟩ := H
    have hnb69 := NB139_140.out
    have hnc69 := NB140_139.out
    have hnb70 := xE.out
    have hnc70 := yV.out
    have hcz71_0 : wr.cell? ⟨xA, 0, none⟩ = some (.int .i64 xU) := (bC xB.out 0).trans rfl
    have hcz71_1 : wr.cell? ⟨xA, 1, none⟩ = some (.int .i64 xS) := (bC xB.out 1).trans rfl
    have hcz71_2 : wr.cell? ⟨xA, 2, none⟩ = some (.int .i64 xR) := (bC xB.out 2).trans rfl
    have hcz71_3 : wr.cell? ⟨xA, 3, none⟩ = some (.int .i64 xQ) := (bC xB.out 3).trans rfl
    have hcz71_4 : wr.cell? ⟨xA, 4, none⟩ = some (.int .i64 xO) := (bC xB.out 4).trans rfl
    have hcz71_5 : wr.cell? ⟨xA, 5, none⟩ = some (.int .i64 xN) := (bC xB.out 5).trans rfl
    have hcz71_6 : wr.cell? ⟨xA, 6, none⟩ = some (.int .i64 xL) := (bC xB.out 6).trans rfl
    have hcz71_7 : wr.cell? ⟨xA, 7, none⟩ = some (.int .i64 xJ) := (bC xB.out 7).trans rfl
    have hcz71_8 : wr.cell? ⟨xA, 8, none⟩ = some (.int .i64 xM) := (bC xB.out 8).trans rfl
    have hcz71_9 : wr.cell? ⟨xA, 9, none⟩ = some (.int .i64 xK) := (bC xB.out 9).trans rfl
    have hcz71_10 : wr.cell? ⟨xA, 10, none⟩ = some (.string xH) := (bC xB.out 10).trans rfl
    have hcz71_11 : wr.cell? ⟨xA, 11, none⟩ = some (.slice yB xP.length yA) := (bC xB.out 11).trans rfl
    have hcz71_12 : wr.cell? ⟨xA, 12, none⟩ = some (.int .i64 xI) := (bC xB.out 12).trans rfl
    have hcz71_13 : wr.cell? ⟨xA, 13, none⟩ = some (.slice xV xT.length xW) := (bC xB.out 13).trans rfl
    have hfz71_0 := bZ xB.out 0
    have hfz71_1 := bZ xB.out 1
    have hfz71_2 := bZ xB.out 2
    have hfz71_3 := bZ xB.out 3
    have hfz71_4 := bZ xB.out 4
    have hfz71_5 := bZ xB.out 5
    have hfz71_6 := bZ xB.out 6
    have hfz71_7 := bZ xB.out 7
    have hfz71_8 := bZ xB.out 8
    have hfz71_9 := bZ xB.out 9
    have hfz71_10 := bZ xB.out 10
    have hfz71_11 := bZ xB.out 11
    have hfz71_12 := bZ xB.out 12
    have hfz71_13 := bZ xB.out 13
    go_wp2_with (first | ((with_reducible refine gate_callee (f := 28) rfl ?_); refine goesL_ (some 71) rfl rfl Try.func28 (by kernel_rfl) rfl #[.slice xV xT.length xW, .int .i64 30] rfl (by (try simp only [List.map_toArray, List.map_cons, List.map_nil]); first | done | rfl | (simp only [List.length_drop, List.length_take]; rfl)) ?_; (with_reducible refine (truchmanref01_Few.calls _ _ xT 30 t180 _ ?side1 ?side2 A67.out).mono ?_); (case side1 => repeat (first | exact (Kd.C_below HR0_13.out HB.out) | (with_reducible refine Kd.C_alloc ?_ _) | (with_reducible refine Kd.C_drewN ?_ _) | (with_reducible refine Kd.C_drew ?_))); (case side2 => exact HC0_13.out); rintro e w72 ⟨v181, rfl, ho0, hb⟩; refine ⟨_, rfl, ?_⟩; have xX := Aside0.mk (Kd.R_below (by (with_reducible repeat (first | apply Kd.R_alloc | apply Kd.R_drewN | apply Kd.R_drew)); exact HO_150011.out) hb); have xY := Aside0.mk (Kd.R_lower ho0 (below_size (by repeat (first | (with_reducible first | exact HB.out | apply below_alloc | apply pw_below_drewN | apply below_drew1 | refine bS ?_ yJ.out | refine bS ?_ yM.out | refine bS ?_ yO.out) | exact HB.out)))); have xZ := Aside0.mk (blk_below (g := xA) (o := .cells #[.int .i64 xU, .int .i64 xS, .int .i64 xR, .int .i64 xQ, .int .i64 xO, .int .i64 xN, .int .i64 xL, .int .i64 xJ, .int .i64 xM, .int .i64 xK, .string xH, .slice yB xP.length yA, .int .i64 xI, .slice xV xT.length xW] 32 (0, 0)) (by (with_reducible repeat (first | refine bN ?_ _ | refine bD ?_ | refine bA ?_ _)); exact xB.out) hb); have yC := Aside0.mk (blk_below (g := xF) (o := .cells #[.int .i64 0, .int .i64 0, .int .i64 0, .int .i64 0, .int .i64 0, .int .i64 0, .int .i64 0, .int .i64 0, .int .i64 0, .int .i64 0, .string ⟨#[]⟩, .slice none 0 0, .int .i64 0, .slice none 0 0] 32 (0, 0)) (by (with_reducible repeat (first | refine bN ?_ _ | refine bD ?_ | refine bA ?_ _)); exact xG.out) hb); have yD := Aside0.mk (blk_below (g := xC) (o := .cells #[.int .i64 yE, .int .i64 yF, .int .i64 yI, .int .i64 yK, .int .i64 yL, .int .i64 yN, .int .i64 yP, .int .i64 yQ, .int .i64 yX, .int .i64 yY, .string zA, u150011, .int .i64 (wrap64 (yZ - 1)), .slice none 0 0] 32 (0, 0)) (by (with_reducible repeat (first | refine bN ?_ _ | refine bD ?_ | refine bA ?_ _)); exact xD.out) hb); have yG := Aside0.mk (below_step (by repeat (first | (with_reducible first | exact HB.out | apply below_alloc | apply pw_below_drewN | apply below_drew1 | refine bS ?_ yJ.out | refine bS ?_ yM.out | refine bS ?_ yO.out) | exact HB.out)) hb); clear HO_150011; clear xB; clear xG; clear xD; clear HB; have HO_150011 := xX; have HO182 := xY; have xB := xZ; have xG := yC; have xD := yD; have HB := yG; clear xX xY xZ yC yD yG; (try clear hb); (try clear hb2); (try clear hk); (try clear hi); (try clear ho0); obtain ⟨Ao73, co73, eo73⟩ := Kd.R_slice HO182.out; subst eo73; have hnb74 := yW.out; have hnc74 := yH.out; have hcz75_0 : w72.cell? ⟨xC, 0, none⟩ = some (.int .i64 yE) := (bC xD.out 0).trans rfl; have hcz75_1 : w72.cell? ⟨xC, 1, none⟩ = some (.int .i64 yF) := (bC xD.out 1).trans rfl; have hcz75_2 : w72.cell? ⟨xC, 2, none⟩ = some (.int .i64 yI) := (bC xD.out 2).trans rfl; have hcz75_3 : w72.cell? ⟨xC, 3, none⟩ = some (.int .i64 yK) := (bC xD.out 3).trans rfl; have hcz75_4 : w72.cell? ⟨xC, 4, none⟩ = some (.int .i64 yL) := (bC xD.out 4).trans rfl; have hcz75_5 : w72.cell? ⟨xC, 5, none⟩ = some (.int .i64 yN) := (bC xD.out 5).trans rfl; have hcz75_6 : w72.cell? ⟨xC, 6, none⟩ = some (.int .i64 yP) := (bC xD.out 6).trans rfl; have hcz75_7 : w72.cell? ⟨xC, 7, none⟩ = some (.int .i64 yQ) := (bC xD.out 7).trans rfl; have hcz75_8 : w72.cell? ⟨xC, 8, none⟩ = some (.int .i64 yX) := (bC xD.out 8).trans rfl; have hcz75_9 : w72.cell? ⟨xC, 9, none⟩ = some (.int .i64 yY) := (bC xD.out 9).trans rfl; have hcz75_10 : w72.cell? ⟨xC, 10, none⟩ = some (.string zA) := (bC xD.out 10).trans rfl; have hcz75_11 : w72.cell? ⟨xC, 11, none⟩ = some (u150011) := (bC xD.out 11).trans rfl; have hcz75_12 : w72.cell? ⟨xC, 12, none⟩ = some (.int .i64 (wrap64 (yZ - 1))) := (bC xD.out 12).trans rfl; have hcz75_13 : w72.cell? ⟨xC, 13, none⟩ = some (.slice none 0 0) := (bC xD.out 13).trans rfl; have hfz75_0 := bZ xD.out 0; have hfz75_1 := bZ xD.out 1; have hfz75_2 := bZ xD.out 2; have hfz75_3 := bZ xD.out 3; have hfz75_4 := bZ xD.out 4; have hfz75_5 := bZ xD.out 5; have hfz75_6 := bZ xD.out 6; have hfz75_7 := bZ xD.out 7; have hfz75_8 := bZ xD.out 8; have hfz75_9 := bZ xD.out 9; have hfz75_10 := bZ xD.out 10; have hfz75_11 := bZ xD.out 11; have hfz75_12 := bZ xD.out 12; have hfz75_13 := bZ xD.out 13) | ((with_reducible refine gate_store (t := 30) (p := 72) rfl ?_); refine store_event (t := 30) (p := 72) (v := ?vo_w76) (w1 := (w72.setCell ⟨xC, 13, none⟩ (.slice Ao73 t180.length co73))) ?hg ?ho ?hn ?hr ?_; (case ho => rfl); (case hg => rfl); (case hn => rfl); (case hr => first | (go_simp; done) | (go_simp; rfl)); intro w76 hw; have xX : Aside0 (Kd.R Kd.string 9 w76 w.heap.size (fun _ => True) u150011 x150011_1) := ⟨(by rw [hw]; exact (by (with_reducible repeat (first | apply Kd.R_alloc | apply Kd.R_drewN | apply Kd.R_drew)); exact Kd.R_mono (Kd.R_far (p := ⟨xC, 13, none⟩) (Kd.R_types HO_150011.out xD.out (by decide)) (fun _ hk => by first | exact hk.2 | exact hk.1 | exact hk.1.1 | exact hk.1.2 | exact hk.2.1 | exact hk.2.2 | exact hk) (.slice Ao73 t180.length co73)) (fun _ hk => trivial)))⟩; have xY : Aside0 (Kd.R (Kd.int .u8) 5 w76 w.heap.size (fun _ => True) (.slice Ao73 t180.length co73) t180) := ⟨(by rw [hw]; exact (by (with_reducible repeat (first | apply Kd.R_alloc | apply Kd.R_drewN | apply Kd.R_drew)); exact Kd.R_mono (Kd.R_far (p := ⟨xC, 13, none⟩) (Kd.R_types HO182.out xD.out (by decide)) (fun _ hk => by first | exact hk.2 | exact hk.1 | exact hk.1.1 | exact hk.1.2 | exact hk.2.1 | exact hk.2.2 | exact hk) (.slice Ao73 t180.length co73)) (fun _ hk => trivial)))⟩; have xZ : Aside0 (w76.heap[xA]? = some (.cells #[.int .i64 xU, .int .i64 xS, .int .i64 xR, .int .i64 xQ, .int .i64 xO, .int .i64 xN, .int .i64 xL, .int .i64 xJ, .int .i64 xM, .int .i64 xK, .string xH, .slice yB xP.length yA, .int .i64 xI, .slice xV xT.length xW] 32 (0, 0))) := ⟨(by rw [hw]; exact (by (with_reducible repeat (first | refine bN ?_ _ | refine bD ?_ | refine bA ?_ _)); refine blk_far ?_ xE.out _; (with_reducible repeat (first | refine bN ?_ _ | refine bD ?_ | refine bA ?_ _)); exact xB.out))⟩; have yC : Aside0 (w76.heap[xF]? = some (.cells #[.int .i64 0, .int .i64 0, .int .i64 0, .int .i64 0, .int .i64 0, .int .i64 0, .int .i64 0, .int .i64 0, .int .i64 0, .int .i64 0, .string ⟨#[]⟩, .slice none 0 0, .int .i64 0, .slice none 0 0] 32 (0, 0))) := ⟨(by rw [hw]; exact (by (with_reducible repeat (first | refine bN ?_ _ | refine bD ?_ | refine bA ?_ _)); refine blk_far ?_ yH.out _; (with_reducible repeat (first | refine bN ?_ _ | refine bD ?_ | refine bA ?_ _)); exact xG.out))⟩; have yD : Aside0 (w76.heap[xC]? = some (.cells #[.int .i64 yE, .int .i64 yF, .int .i64 yI, .int .i64 yK, .int .i64 yL, .int .i64 yN, .int .i64 yP, .int .i64 yQ, .int .i64 yX, .int .i64 yY, .string zA, u150011, .int .i64 (wrap64 (yZ - 1)), .slice Ao73 t180.length co73] 32 (0, 0))) := ⟨(by rw [hw]; exact (by (with_reducible repeat (first | refine bN ?_ _ | refine bD ?_ | refine bA ?_ _)); refine blk_put (cs := #[.int .i64 yE, .int .i64 yF, .int .i64 yI, .int .i64 yK, .int .i64 yL, .int .i64 yN, .int .i64 yP, .int .i64 yQ, .int .i64 yX, .int .i64 yY, .string zA, u150011, .int .i64 (wrap64 (yZ - 1)), .slice none 0 0]) ?_ 13 _ rfl; (with_reducible repeat (first | refine bN ?_ _ | refine bD ?_ | refine bA ?_ _)); exact xD.out))⟩; have yG : Aside0 (Below w.heap.size w w76) := ⟨(by rw [hw]; exact (by repeat (first | (with_reducible first | exact HB.out | apply below_alloc | apply pw_below_drewN | apply below_drew1 | refine bS ?_ yJ.out | refine bS ?_ yM.out | refine bS ?_ yO.out) | exact HB.out)))⟩; clear hw; clear HO_150011; clear HO182; clear xB; clear xG; clear xD; clear HB; have HO_150011 := xX; have HO182 := xY; have xB := xZ; have xG := yC; have xD := yD; have HB := yG; clear xX xY xZ yC yD yG; have hcz77_0 : w76.cell? ⟨xC, 0, none⟩ = some (.int .i64 yE) := (bC xD.out 0).trans rfl; have hcz77_1 : w76.cell? ⟨xC, 1, none⟩ = some (.int .i64 yF) := (bC xD.out 1).trans rfl; have hcz77_2 : w76.cell? ⟨xC, 2, none⟩ = some (.int .i64 yI) := (bC xD.out 2).trans rfl; have hcz77_3 : w76.cell? ⟨xC, 3, none⟩ = some (.int .i64 yK) := (bC xD.out 3).trans rfl; have hcz77_4 : w76.cell? ⟨xC, 4, none⟩ = some (.int .i64 yL) := (bC xD.out 4).trans rfl; have hcz77_5 : w76.cell? ⟨xC, 5, none⟩ = some (.int .i64 yN) := (bC xD.out 5).trans rfl; have hcz77_6 : w76.cell? ⟨xC, 6, none⟩ = some (.int .i64 yP) := (bC xD.out 6).trans rfl; have hcz77_7 : w76.cell? ⟨xC, 7, none⟩ = some (.int .i64 yQ) := (bC xD.out 7).trans rfl; have hcz77_8 : w76.cell? ⟨xC, 8, none⟩ = some (.int .i64 yX) := (bC xD.out 8).trans rfl; have hcz77_9 : w76.cell? ⟨xC, 9, none⟩ = some (.int .i64 yY) := (bC xD.out 9).trans rfl; have hcz77_10 : w76.cell? ⟨xC, 10, none⟩ = some (.string zA) := (bC xD.out 10).trans rfl; have hcz77_11 : w76.cell? ⟨xC, 11, none⟩ = some (u150011) := (bC xD.out 11).trans rfl; have hcz77_12 : w76.cell? ⟨xC, 12, none⟩ = some (.int .i64 (wrap64 (yZ - 1))) := (bC xD.out 12).trans rfl; have hcz77_13 : w76.cell? ⟨xC, 13, none⟩ = some (.slice Ao73 t180.length co73) := (bC xD.out 13).trans rfl; have hfz77_0 := bZ xD.out 0; have hfz77_1 := bZ xD.out 1; have hfz77_2 := bZ xD.out 2; have hfz77_3 := bZ xD.out 3; have hfz77_4 := bZ xD.out 4; have hfz77_5 := bZ xD.out 5; have hfz77_6 := bZ xD.out 6; have hfz77_7 := bZ xD.out 7; have hfz77_8 := bZ xD.out 8; have hfz77_9 := bZ xD.out 9; have hfz77_10 := bZ xD.out 10; have hfz77_11 := bZ xD.out 11; have hfz77_12 := bZ xD.out 12; have hfz77_13 := bZ xD.out 13; obtain ⟨Ao78, co78, eo78⟩ := Kd.R_slice HO_150011.out; subst eo78) | ((with_reducible refine gate_callee (f := 29) rfl ?_); refine goesL_ (some 74) rfl rfl Try.func29 (by kernel_rfl) rfl #[.agg #[.int .i64 yE, .int .i64 yF, .int .i64 yI, .int .i64 yK, .int .i64 yL, .int .i64 yN, .int .i64 yP, .int .i64 yQ, .int .i64 yX, .int .i64 yY, .string zA, .slice Ao78 x150011_1.length co78, .int .i64 (wrap64 (yZ - 1)), .slice Ao73 t180.length co73]] rfl (by (try simp only [List.map_toArray, List.map_cons, List.map_nil]); first | done | rfl | (simp only [List.length_drop, List.length_take]; rfl)) ?_; (with_reducible refine (truchmanref17_Own.calls k1 yE yF yI yK yL yN yP yQ yX yY zA (fun k_ => some k_ = (.slice Ao78 x150011_1.length co78 : Value).ownBlock) (.slice Ao78 x150011_1.length co78) x150011_1 (wrap64 (yZ - 1)) (fun k_ => some k_ = (.slice Ao73 t180.length co73 : Value).ownBlock) (.slice Ao73 t180.length co73) t180 t183 t184 t185 t186 t187 t188 t189 t190 t191 t192 t193 t194 t197 t198 w _ ?side1 ?side2 ?side3 A68.out).mono ?_); (case side1 => repeat (first | (with_reducible first | exact HB.out | apply below_alloc | apply pw_below_drewN | apply below_drew1 | refine bS ?_ yJ.out | refine bS ?_ yM.out | refine bS ?_ yO.out) | exact HB.out)); (case side2 => exact Kd.R_tight rfl HO_150011.out); (case side3 => exact Kd.R_tight rfl HO182.out); rintro e w79 ⟨v195, v199, rfl, ho0, ho1, hb, hkp⟩; refine ⟨_, rfl, ?_⟩; have xX := Aside0.mk (blk_kept (by (with_reducible repeat (first | refine bN ?_ _ | refine bD ?_ | refine bA ?_ _)); exact xB.out) hkp (fun hs_ => Or.elim hs_ (fun e_ => (fun e_ => (Kd.R_ne HO_150011.out xB.out (by decide)) e_) e_) (fun e_ => (fun e_ => (Kd.R_ne HO182.out xB.out (by decide)) e_) e_))); have xY := Aside0.mk (blk_kept (by (with_reducible repeat (first | refine bN ?_ _ | refine bD ?_ | refine bA ?_ _)); exact xG.out) hkp (fun hs_ => Or.elim hs_ (fun e_ => (fun e_ => (Kd.R_ne HO_150011.out xG.out (by decide)) e_) e_) (fun e_ => (fun e_ => (Kd.R_ne HO182.out xG.out (by decide)) e_) e_))); have xZ := Aside0.mk (blk_kept (by (with_reducible repeat (first | refine bN ?_ _ | refine bD ?_ | refine bA ?_ _)); exact xD.out) hkp (fun hs_ => Or.elim hs_ (fun e_ => (fun e_ => (Kd.R_ne HO_150011.out xD.out (by decide)) e_) e_) (fun e_ => (fun e_ => (Kd.R_ne HO182.out xD.out (by decide)) e_) e_))); have yC := Aside0.mk (Kd.R_mono (ok' := fun k_ => True) ho0 (fun k_ hk_ => trivial)); have yD := Aside0.mk (Kd.R_mono (ok' := fun k_ => True) ho1 (fun k_ hk_ => trivial)); have yG := Aside0.mk (hb); clear xB; clear xG; clear xD; clear HB; clear HO182; clear HO_150011; have xB := xX; have xG := xY; have xD := xZ; have HO196 := yC; have HO200 := yD; have HB := yG; clear xX xY xZ yC yD yG; (try clear hb); (try clear hkp); (try clear ho0); (try clear ho1); have hcz80_0 : w79.cell? ⟨xF, 0, none⟩ = some (.int .i64 0) := (bC xG.out 0).trans rfl; have hcz80_1 : w79.cell? ⟨xF, 1, none⟩ = some (.int .i64 0) := (bC xG.out 1).trans rfl; have hcz80_2 : w79.cell? ⟨xF, 2, none⟩ = some (.int .i64 0) := (bC xG.out 2).trans rfl; have hcz80_3 : w79.cell? ⟨xF, 3, none⟩ = some (.int .i64 0) := (bC xG.out 3).trans rfl; have hcz80_4 : w79.cell? ⟨xF, 4, none⟩ = some (.int .i64 0) := (bC xG.out 4).trans rfl; have hcz80_5 : w79.cell? ⟨xF, 5, none⟩ = some (.int .i64 0) := (bC xG.out 5).trans rfl; have hcz80_6 : w79.cell? ⟨xF, 6, none⟩ = some (.int .i64 0) := (bC xG.out 6).trans rfl; have hcz80_7 : w79.cell? ⟨xF, 7, none⟩ = some (.int .i64 0) := (bC xG.out 7).trans rfl; have hcz80_8 : w79.cell? ⟨xF, 8, none⟩ = some (.int .i64 0) := (bC xG.out 8).trans rfl; have hcz80_9 : w79.cell? ⟨xF, 9, none⟩ = some (.int .i64 0) := (bC xG.out 9).trans rfl; have hcz80_10 : w79.cell? ⟨xF, 10, none⟩ = some (.string ⟨#[]⟩) := (bC xG.out 10).trans rfl; have hcz80_11 : w79.cell? ⟨xF, 11, none⟩ = some (.slice none 0 0) := (bC xG.out 11).trans rfl; have hcz80_12 : w79.cell? ⟨xF, 12, none⟩ = some (.int .i64 0) := (bC xG.out 12).trans rfl; have hcz80_13 : w79.cell? ⟨xF, 13, none⟩ = some (.slice none 0 0) := (bC xG.out 13).trans rfl; have hfz80_0 := bZ xG.out 0; have hfz80_1 := bZ xG.out 1; have hfz80_2 := bZ xG.out 2; have hfz80_3 := bZ xG.out 3; have hfz80_4 := bZ xG.out 4; have hfz80_5 := bZ xG.out 5; have hfz80_6 := bZ xG.out 6; have hfz80_7 := bZ xG.out 7; have hfz80_8 := bZ xG.out 8; have hfz80_9 := bZ xG.out 9; have hfz80_10 := bZ xG.out 10; have hfz80_11 := bZ xG.out 11; have hfz80_12 := bZ xG.out 12; have hfz80_13 := bZ xG.out 13; obtain ⟨Ao81, co81, eo81⟩ := Kd.R_slice HO196.out; subst eo81; obtain ⟨Ao82, co82, eo82⟩ := Kd.R_slice HO200.out; subst eo82))
    refine bodyPost_ret (results_cell_row rfl _ _ xF 32 #[.int .i64 t183, .int .i64 t184, .int .i64 t185, .int .i64 t186, .int .i64 t187, .int .i64 t188, .int .i64 t189, .int .i64 t190, .int .i64 t191, .int .i64 t192, .string t193, .slice Ao81 t194.length co81, .int .i64 t197, .slice Ao82 t198.length co82] (0, 0) _ rfl (by (with_reducible repeat (first | refine bN ?_ _ | refine bD ?_ | refine bA ?_ _)); refine blk_put (cs := #[.int .i64 t183, .int .i64 t184, .int .i64 t185, .int .i64 t186, .int .i64 t187, .int .i64 t188, .int .i64 t189, .int .i64 t190, .int .i64 t191, .int .i64 t192, .string t193, .slice Ao81 t194.length co81, .int .i64 t197, .slice none 0 0]) ?_ 13 _ rfl; (with_reducible repeat (first | refine bN ?_ _ | refine bD ?_ | refine bA ?_ _)); refine blk_put (cs := #[.int .i64 t183, .int .i64 t184, .int .i64 t185, .int .i64 t186, .int .i64 t187, .int .i64 t188, .int .i64 t189, .int .i64 t190, .int .i64 t191, .int .i64 t192, .string t193, .slice Ao81 t194.length co81, .int .i64 0, .slice none 0 0]) ?_ 12 _ rfl; (with_reducible repeat (first | refine bN ?_ _ | refine bD ?_ | refine bA ?_ _)); refine blk_put (cs := #[.int .i64 t183, .int .i64 t184, .int .i64 t185, .int .i64 t186, .int .i64 t187, .int .i64 t188, .int .i64 t189, .int .i64 t190, .int .i64 t191, .int .i64 t192, .string t193, .slice none 0 0, .int .i64 0, .slice none 0 0]) ?_ 11 _ rfl; (with_reducible repeat (first | refine bN ?_ _ | refine bD ?_ | refine bA ?_ _)); refine blk_put (cs := #[.int .i64 t183, .int .i64 t184, .int .i64 t185, .int .i64 t186, .int .i64 t187, .int .i64 t188, .int .i64 t189, .int .i64 t190, .int .i64 t191, .int .i64 t192, .string ⟨#[]⟩, .slice none 0 0, .int .i64 0, .slice none 0 0]) ?_ 10 _ rfl; (with_reducible repeat (first | refine bN ?_ _ | refine bD ?_ | refine bA ?_ _)); refine blk_put (cs := #[.int .i64 t183, .int .i64 t184, .int .i64 t185, .int .i64 t186, .int .i64 t187, .int .i64 t188, .int .i64 t189, .int .i64 t190, .int .i64 t191, .int .i64 0, .string ⟨#[]⟩, .slice none 0 0, .int .i64 0, .slice none 0 0]) ?_ 9 _ rfl; (with_reducible repeat (first | refine bN ?_ _ | refine bD ?_ | refine bA ?_ _)); refine blk_put (cs := #[.int .i64 t183, .int .i64 t184, .int .i64 t185, .int .i64 t186, .int .i64 t187, .int .i64 t188, .int .i64 t189, .int .i64 t190, .int .i64 0, .int .i64 0, .string ⟨#[]⟩, .slice none 0 0, .int .i64 0, .slice none 0 0]) ?_ 8 _ rfl; (with_reducible repeat (first | refine bN ?_ _ | refine bD ?_ | refine bA ?_ _)); refine blk_put (cs := #[.int .i64 t183, .int .i64 t184, .int .i64 t185, .int .i64 t186, .int .i64 t187, .int .i64 t188, .int .i64 t189, .int .i64 0, .int .i64 0, .int .i64 0, .string ⟨#[]⟩, .slice none 0 0, .int .i64 0, .slice none 0 0]) ?_ 7 _ rfl; (with_reducible repeat (first | refine bN ?_ _ | refine bD ?_ | refine bA ?_ _)); refine blk_put (cs := #[.int .i64 t183, .int .i64 t184, .int .i64 t185, .int .i64 t186, .int .i64 t187, .int .i64 t188, .int .i64 0, .int .i64 0, .int .i64 0, .int .i64 0, .string ⟨#[]⟩, .slice none 0 0, .int .i64 0, .slice none 0 0]) ?_ 6 _ rfl; (with_reducible repeat (first | refine bN ?_ _ | refine bD ?_ | refine bA ?_ _)); refine blk_put (cs := #[.int .i64 t183, .int .i64 t184, .int .i64 t185, .int .i64 t186, .int .i64 t187, .int .i64 0, .int .i64 0, .int .i64 0, .int .i64 0, .int .i64 0, .string ⟨#[]⟩, .slice none 0 0, .int .i64 0, .slice none 0 0]) ?_ 5 _ rfl; (with_reducible repeat (first | refine bN ?_ _ | refine bD ?_ | refine bA ?_ _)); refine blk_put (cs := #[.int .i64 t183, .int .i64 t184, .int .i64 t185, .int .i64 t186, .int .i64 0, .int .i64 0, .int .i64 0, .int .i64 0, .int .i64 0, .int .i64 0, .string ⟨#[]⟩, .slice none 0 0, .int .i64 0, .slice none 0 0]) ?_ 4 _ rfl; (with_reducible repeat (first | refine bN ?_ _ | refine bD ?_ | refine bA ?_ _)); refine blk_put (cs := #[.int .i64 t183, .int .i64 t184, .int .i64 t185, .int .i64 0, .int .i64 0, .int .i64 0, .int .i64 0, .int .i64 0, .int .i64 0, .int .i64 0, .string ⟨#[]⟩, .slice none 0 0, .int .i64 0, .slice none 0 0]) ?_ 3 _ rfl; (with_reducible repeat (first | refine bN ?_ _ | refine bD ?_ | refine bA ?_ _)); refine blk_put (cs := #[.int .i64 t183, .int .i64 t184, .int .i64 0, .int .i64 0, .int .i64 0, .int .i64 0, .int .i64 0, .int .i64 0, .int .i64 0, .int .i64 0, .string ⟨#[]⟩, .slice none 0 0, .int .i64 0, .slice none 0 0]) ?_ 2 _ rfl; (with_reducible repeat (first | refine bN ?_ _ | refine bD ?_ | refine bA ?_ _)); refine blk_put (cs := #[.int .i64 t183, .int .i64 0, .int .i64 0, .int .i64 0, .int .i64 0, .int .i64 0, .int .i64 0, .int .i64 0, .int .i64 0, .int .i64 0, .string ⟨#[]⟩, .slice none 0 0, .int .i64 0, .slice none 0 0]) ?_ 1 _ rfl; (with_reducible repeat (first | refine bN ?_ _ | refine bD ?_ | refine bA ?_ _)); refine blk_put (cs := #[.int .i64 0, .int .i64 0, .int .i64 0, .int .i64 0, .int .i64 0, .int .i64 0, .int .i64 0, .int .i64 0, .int .i64 0, .int .i64 0, .string ⟨#[]⟩, .slice none 0 0, .int .i64 0, .slice none 0 0]) ?_ 0 _ rfl; (with_reducible repeat (first | refine bN ?_ _ | refine bD ?_ | refine bA ?_ _)); exact xG.out) Try.underlying32 rfl (by kernel_rfl)) rfl ?_
    exact ⟨_, _, by first | rfl | (simp [errW_none, errW_some] <;> rfl) | (simp [*, errW_none, errW_some] <;> rfl), by (with_reducible repeat (first | apply Kd.R_alloc | apply Kd.R_drewN | apply Kd.R_drew)); exact Kd.R_mono (Kd.R_far (p := ⟨xF, 13, none⟩) (Kd.R_far (p := ⟨xF, 12, none⟩) (Kd.R_far (p := ⟨xF, 11, none⟩) (Kd.R_far (p := ⟨xF, 10, none⟩) (Kd.R_far (p := ⟨xF, 9, none⟩) (Kd.R_far (p := ⟨xF, 8, none⟩) (Kd.R_far (p := ⟨xF, 7, none⟩) (Kd.R_far (p := ⟨xF, 6, none⟩) (Kd.R_far (p := ⟨xF, 5, none⟩) (Kd.R_far (p := ⟨xF, 4, none⟩) (Kd.R_far (p := ⟨xF, 3, none⟩) (Kd.R_far (p := ⟨xF, 2, none⟩) (Kd.R_far (p := ⟨xF, 1, none⟩) (Kd.R_far (p := ⟨xF, 0, none⟩) (Kd.R_types HO196.out xG.out (by decide)) (fun _ hk => by first | exact hk.2 | exact hk.1 | exact hk.1.1 | exact hk.1.2 | exact hk.2.1 | exact hk.2.2 | exact hk) (.int .i64 t183)) (fun _ hk => by first | exact hk.2 | exact hk.1 | exact hk.1.1 | exact hk.1.2 | exact hk.2.1 | exact hk.2.2 | exact hk) (.int .i64 t184)) (fun _ hk => by first | exact hk.2 | exact hk.1 | exact hk.1.1 | exact hk.1.2 | exact hk.2.1 | exact hk.2.2 | exact hk) (.int .i64 t185)) (fun _ hk => by first | exact hk.2 | exact hk.1 | exact hk.1.1 | exact hk.1.2 | exact hk.2.1 | exact hk.2.2 | exact hk) (.int .i64 t186)) (fun _ hk => by first | exact hk.2 | exact hk.1 | exact hk.1.1 | exact hk.1.2 | exact hk.2.1 | exact hk.2.2 | exact hk) (.int .i64 t187)) (fun _ hk => by first | exact hk.2 | exact hk.1 | exact hk.1.1 | exact hk.1.2 | exact hk.2.1 | exact hk.2.2 | exact hk) (.int .i64 t188)) (fun _ hk => by first | exact hk.2 | exact hk.1 | exact hk.1.1 | exact hk.1.2 | exact hk.2.1 | exact hk.2.2 | exact hk) (.int .i64 t189)) (fun _ hk => by first | exact hk.2 | exact hk.1 | exact hk.1.1 | exact hk.1.2 | exact hk.2.1 | exact hk.2.2 | exact hk) (.int .i64 t190)) (fun _ hk => by first | exact hk.2 | exact hk.1 | exact hk.1.1 | exact hk.1.2 | exact hk.2.1 | exact hk.2.2 | exact hk) (.int .i64 t191)) (fun _ hk => by first | exact hk.2 | exact hk.1 | exact hk.1.1 | exact hk.1.2 | exact hk.2.1 | exact hk.2.2 | exact hk) (.int .i64 t192)) (fun _ hk => by first | exact hk.2 | exact hk.1 | exact hk.1.1 | exact hk.1.2 | exact hk.2.1 | exact hk.2.2 | exact hk) (.string t193)) (fun _ hk => by first | exact hk.2 | exact hk.1 | exact hk.1.1 | exact hk.1.2 | exact hk.2.1 | exact hk.2.2 | exact hk) (.slice Ao81 t194.length co81)) (fun _ hk => by first | exact hk.2 | exact hk.1 | exact hk.1.1 | exact hk.1.2 | exact hk.2.1 | exact hk.2.2 | exact hk) (.int .i64 t197)) (fun _ hk => by first | exact hk.2 | exact hk.1 | exact hk.1.1 | exact hk.1.2 | exact hk.2.1 | exact hk.2.2 | exact hk) (.slice Ao82 t198.length co82)) (fun _ hk => trivial), by (with_reducible repeat (first | apply Kd.R_alloc | apply Kd.R_drewN | apply Kd.R_drew)); exact Kd.R_mono (Kd.R_far (p := ⟨xF, 13, none⟩) (Kd.R_far (p := ⟨xF, 12, none⟩) (Kd.R_far (p := ⟨xF, 11, none⟩) (Kd.R_far (p := ⟨xF, 10, none⟩) (Kd.R_far (p := ⟨xF, 9, none⟩) (Kd.R_far (p := ⟨xF, 8, none⟩) (Kd.R_far (p := ⟨xF, 7, none⟩) (Kd.R_far (p := ⟨xF, 6, none⟩) (Kd.R_far (p := ⟨xF, 5, none⟩) (Kd.R_far (p := ⟨xF, 4, none⟩) (Kd.R_far (p := ⟨xF, 3, none⟩) (Kd.R_far (p := ⟨xF, 2, none⟩) (Kd.R_far (p := ⟨xF, 1, none⟩) (Kd.R_far (p := ⟨xF, 0, none⟩) (Kd.R_types HO200.out xG.out (by decide)) (fun _ hk => by first | exact hk.2 | exact hk.1 | exact hk.1.1 | exact hk.1.2 | exact hk.2.1 | exact hk.2.2 | exact hk) (.int .i64 t183)) (fun _ hk => by first | exact hk.2 | exact hk.1 | exact hk.1.1 | exact hk.1.2 | exact hk.2.1 | exact hk.2.2 | exact hk) (.int .i64 t184)) (fun _ hk => by first | exact hk.2 | exact hk.1 | exact hk.1.1 | exact hk.1.2 | exact hk.2.1 | exact hk.2.2 | exact hk) (.int .i64 t185)) (fun _ hk => by first | exact hk.2 | exact hk.1 | exact hk.1.1 | exact hk.1.2 | exact hk.2.1 | exact hk.2.2 | exact hk) (.int .i64 t186)) (fun _ hk => by first | exact hk.2 | exact hk.1 | exact hk.1.1 | exact hk.1.2 | exact hk.2.1 | exact hk.2.2 | exact hk) (.int .i64 t187)) (fun _ hk => by first | exact hk.2 | exact hk.1 | exact hk.1.1 | exact hk.1.2 | exact hk.2.1 | exact hk.2.2 | exact hk) (.int .i64 t188)) (fun _ hk => by first | exact hk.2 | exact hk.1 | exact hk.1.1 | exact hk.1.2 | exact hk.2.1 | exact hk.2.2 | exact hk) (.int .i64 t189)) (fun _ hk => by first | exact hk.2 | exact hk.1 | exact hk.1.1 | exact hk.1.2 | exact hk.2.1 | exact hk.2.2 | exact hk) (.int .i64 t190)) (fun _ hk => by first | exact hk.2 | exact hk.1 | exact hk.1.1 | exact hk.1.2 | exact hk.2.1 | exact hk.2.2 | exact hk) (.int .i64 t191)) (fun _ hk => by first | exact hk.2 | exact hk.1 | exact hk.1.1 | exact hk.1.2 | exact hk.2.1 | exact hk.2.2 | exact hk) (.int .i64 t192)) (fun _ hk => by first | exact hk.2 | exact hk.1 | exact hk.1.1 | exact hk.1.2 | exact hk.2.1 | exact hk.2.2 | exact hk) (.string t193)) (fun _ hk => by first | exact hk.2 | exact hk.1 | exact hk.1.1 | exact hk.1.2 | exact hk.2.1 | exact hk.2.2 | exact hk) (.slice Ao81 t194.length co81)) (fun _ hk => by first | exact hk.2 | exact hk.1 | exact hk.1.1 | exact hk.1.2 | exact hk.2.1 | exact hk.2.2 | exact hk) (.int .i64 t197)) (fun _ hk => by first | exact hk.2 | exact hk.1 | exact hk.1.1 | exact hk.1.2 | exact hk.2.1 | exact hk.2.2 | exact hk) (.slice Ao82 t198.length co82)) (fun _ hk => trivial), by repeat (first | (with_reducible first | exact HB.out | apply below_alloc | apply pw_below_drewN | apply below_drew1 | refine bS ?_ yJ.out | refine bS ?_ yM.out | refine bS ?_ yO.out) | exact HB.out)⟩

end Go.Proofs.Ytenhnkldhodegaa.R
