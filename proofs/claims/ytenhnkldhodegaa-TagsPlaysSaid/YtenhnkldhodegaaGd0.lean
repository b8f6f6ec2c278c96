-- Printed for Ytenhnkldhodegaa by hprint.py, a program of this session over the kit's print.py, some functions taken from texts by hand.
import Derived.Test.YtenhnkldhodegaaRx2
namespace Go.Proofs.Ytenhnkldhodegaa.R
open Go.RowKit Go.Proofs.YtenhnkldhodegaaW.PrintWords Go.Proofs.YtenhnkldhodegaaW.PrintLast Go.Proofs.YtenhnkldhodegaaW.PrintMore
attribute [local go_sem] max2_int min2_int max_two min_two max_three min_three max_four min_four   -- for this text's walks alone
set_option linter.unusedVariables false
set_option linter.unusedSimpArgs false

/-! ### truchmanref17_Good: function 12 -/
def truchmanref17_Good.l0 : Nat → Int → Int → Int → Int → Int → Int → Int → Int → Int → Int → Int → ByteArray → List ByteArray → Int → List Int → Int → Int → Int → Int → Int → Int → Int → Int → Int → Int → ByteArray → List ByteArray → Int → Option (Int × Int × Int × Int × Int × Int × Int × Int × Int × Int × ByteArray × List ByteArray × Int × List Int)
  | 0, _, _, _, _, _, _, _, _, _, _, _, _, _, _, _, _, _, _, _, _, _, _, _, _, _, _, _, _ => none
  | k + 1, x4, x140000, x140001, x140002, x140003, x140004, x140005, x140006, x140007, x140008, x140009, x140010, x140011, x140012, x140013, x150000, x150001, x150002, x150003, x150004, x150005, x150006, x150007, x150008, x150009, x150010, x150011, x150012 => if x4 < (x140011.length : Int) then (if x4 < 8 then (if 0 ≤ x4 then ((truchmanref01_Short.f (rdOf ByteArray.empty x140011 x4) 40).bind fun t155 => (if x150011.length < 8796093022208 then (truchmanref17_Good.l0 k (wrap64 (x4 + 1)) x140000 x140001 x140002 x140003 x140004 x140005 x140006 x140007 x140008 x140009 x140010 x140011 x140012 x140013 x150000 x150001 x150002 x150003 x150004 x150005 x150006 x150007 x150008 x150009 x150010 (x150011 ++ [t155]) x150012) else (none))) else (none)) else ((truchmanref01_Few.f x140013 30).bind fun t159 => ((truchmanref17_Own.f k x150000 x150001 x150002 x150003 x150004 x150005 x150006 x150007 x150008 x150009 x150010 x150011 x150012 t159).bind fun bt162 => (some (bt162.1, bt162.2.1, bt162.2.2.1, bt162.2.2.2.1, bt162.2.2.2.2.1, bt162.2.2.2.2.2.1, bt162.2.2.2.2.2.2.1, bt162.2.2.2.2.2.2.2.1, bt162.2.2.2.2.2.2.2.2.1, bt162.2.2.2.2.2.2.2.2.2.1, bt162.2.2.2.2.2.2.2.2.2.2.1, bt162.2.2.2.2.2.2.2.2.2.2.2.1, bt162.2.2.2.2.2.2.2.2.2.2.2.2.1, bt162.2.2.2.2.2.2.2.2.2.2.2.2.2))))) else ((truchmanref01_Few.f x140013 30).bind fun t180 => ((truchmanref17_Own.f k x150000 x150001 x150002 x150003 x150004 x150005 x150006 x150007 x150008 x150009 x150010 x150011 x150012 t180).bind fun bt183 => (some (bt183.1, bt183.2.1, bt183.2.2.1, bt183.2.2.2.1, bt183.2.2.2.2.1, bt183.2.2.2.2.2.1, bt183.2.2.2.2.2.2.1, bt183.2.2.2.2.2.2.2.1, bt183.2.2.2.2.2.2.2.2.1, bt183.2.2.2.2.2.2.2.2.2.1, bt183.2.2.2.2.2.2.2.2.2.2.1, bt183.2.2.2.2.2.2.2.2.2.2.2.1, bt183.2.2.2.2.2.2.2.2.2.2.2.2.1, bt183.2.2.2.2.2.2.2.2.2.2.2.2.2))))
def truchmanref17_Good.f (k : Nat) (a0_0 : Int) (a0_1 : Int) (a0_2 : Int) (a0_3 : Int) (a0_4 : Int) (a0_5 : Int) (a0_6 : Int) (a0_7 : Int) (a0_8 : Int) (a0_9 : Int) (a0_10 : ByteArray) (l0_11 : List ByteArray) (a0_12 : Int) (l0_13 : List Int) : Option (Int × Int × Int × Int × Int × Int × Int × Int × Int × Int × ByteArray × List ByteArray × Int × List Int) := (truchmanref17_Kind.f a0_0).bind fun t141 => ((truchmanref01_Around.f a0_1 65536).bind fun t142 => ((truchmanref17_low.f a0_2).bind fun t143 => ((truchmanref17_low.f a0_3).bind fun t144 => ((truchmanref01_Around.f a0_4 65536).bind fun t145 => ((truchmanref17_low.f a0_5).bind fun t146 => ((truchmanref01_Around.f a0_6 256).bind fun t147 => ((truchmanref17_low.f a0_7).bind fun t148 => ((truchmanref01_Around.f a0_8 4611686018427387905).bind fun t150 => ((truchmanref17_low.f a0_9).bind fun t151 => ((truchmanref17_low.f a0_12).bind fun t152 => ((truchmanref01_Short.f a0_10 40).bind fun t153 => (truchmanref17_Good.l0 k 0 a0_0 a0_1 a0_2 a0_3 a0_4 a0_5 a0_6 a0_7 a0_8 a0_9 a0_10 l0_11 a0_12 l0_13 t141 t142 t143 t144 t145 t146 t147 t148 t150 t151 t153 ([] : List ByteArray) (wrap64 (t152 - 1))))))))))))))
theorem truchmanref17_Good.mono_l : ∀ k, (∀ y0 y1 y2 y3 y4 y5 y6 y7 y8 y9 y10 y11 y12 y13 y14 y15 y16 y17 y18 y19 y20 y21 y22 y23 y24 y25 y26 y27, LeO (truchmanref17_Good.l0 k y0 y1 y2 y3 y4 y5 y6 y7 y8 y9 y10 y11 y12 y13 y14 y15 y16 y17 y18 y19 y20 y21 y22 y23 y24 y25 y26 y27) (truchmanref17_Good.l0 (k + 1) y0 y1 y2 y3 y4 y5 y6 y7 y8 y9 y10 y11 y12 y13 y14 y15 y16 y17 y18 y19 y20 y21 y22 y23 y24 y25 y26 y27))
  | 0 => fun _ _ _ _ _ _ _ _ _ _ _ _ _ _ _ _ _ _ _ _ _ _ _ _ _ _ _ _ r h => by simp [truchmanref17_Good.l0] at h
  | k + 1 => by
    have ih0 := truchmanref17_Good.mono_l k
    · intro y0 y1 y2 y3 y4 y5 y6 y7 y8 y9 y10 y11 y12 y13 y14 y15 y16 y17 y18 y19 y20 y21 y22 y23 y24 y25 y26 y27
      unfold truchmanref17_Good.l0
      repeat' first
      | (with_reducible exact ih0 _ _ _ _ _ _ _ _ _ _ _ _ _ _ _ _ _ _ _ _ _ _ _ _ _ _ _ _)
      | (with_reducible exact truchmanref17_Own.mono _ _ _ _ _ _ _ _ _ _ _ _ _ _ _)
      | (with_reducible exact LeO.refl _)
      | (with_reducible exact LeO.none _)
      | (with_reducible refine LeO.ite ?_ ?_)
      | (with_reducible refine LeO.bind ?_ (fun _ => ?_))
      | exact ih0 _ _ _ _ _ _ _ _ _ _ _ _ _ _ _ _ _ _ _ _ _ _ _ _ _ _ _ _
      | exact truchmanref17_Own.mono _ _ _ _ _ _ _ _ _ _ _ _ _ _ _
      | exact LeO.none _
      | refine LeO.ite ?_ ?_
      | refine LeO.bind ?_ (fun _ => ?_)
theorem truchmanref17_Good.mono : ∀ a0 a1 a2 a3 a4 a5 a6 a7 a8 a9 a10 a11 a12 a13 k, LeO (truchmanref17_Good.f k a0 a1 a2 a3 a4 a5 a6 a7 a8 a9 a10 a11 a12 a13) (truchmanref17_Good.f (k + 1) a0 a1 a2 a3 a4 a5 a6 a7 a8 a9 a10 a11 a12 a13) := by
  intro a0 a1 a2 a3 a4 a5 a6 a7 a8 a9 a10 a11 a12 a13 k
  have ih0 := truchmanref17_Good.mono_l k
  unfold truchmanref17_Good.f
  repeat' first
      | (with_reducible exact ih0 _ _ _ _ _ _ _ _ _ _ _ _ _ _ _ _ _ _ _ _ _ _ _ _ _ _ _ _)
      | (with_reducible exact truchmanref17_Own.mono _ _ _ _ _ _ _ _ _ _ _ _ _ _ _)
      | (with_reducible exact LeO.refl _)
      | (with_reducible exact LeO.none _)
      | (with_reducible refine LeO.ite ?_ ?_)
      | (with_reducible refine LeO.bind ?_ (fun _ => ?_))
      | exact ih0 _ _ _ _ _ _ _ _ _ _ _ _ _ _ _ _ _ _ _ _ _ _ _ _ _ _ _ _
      | exact truchmanref17_Own.mono _ _ _ _ _ _ _ _ _ _ _ _ _ _ _
      | exact LeO.none _
      | refine LeO.ite ?_ ?_
      | refine LeO.bind ?_ (fun _ => ?_)
def truchmanref17_Good.T1 : Bool × List (List Nat × List Nat) := (true, [([], []), ([0], [0]), ([1], [1]), ([], []), ([3], [3]), ([4, 2], [4]), ([], []), ([6], [6]), ([7, 5], [7]), ([], []), ([9], [9]), ([10, 8], [10]), ([], []), ([12], [12]), ([13, 11], [13]), ([], []), ([15], [15]), ([16, 14], [16]), ([], []), ([18], [18]), ([19, 17], [19]), ([], []), ([21], [21]), ([22, 20], [22]), ([2, 5, 8, 11, 14, 17, 20, 23], [2, 5, 8, 11, 14, 17, 20, 23]), ([], []), ([25, 24, 23, 0, 1, 2, 3, 4, 5, 6, 7, 8, 9, 10, 11, 12, 13, 14, 15, 16, 17, 18, 19, 20, 21, 22, 23, 24, 25], [24, 25])])
def truchmanref17_Good.B1 : List Nat := [0, 1, 3, 0, 8, 31, 0, 64, 255, 0, 512, 2047, 0, 4096, 16383, 0, 32768, 131071, 0, 262144, 1048575, 0, 2097152, 8388607, 16777215, 0, 67108863]
theorem truchmanref17_Good.tab1 : rtab .any (opsOf Try.f12 1) = truchmanref17_Good.T1 := by kernel_rfl
theorem truchmanref17_Good.bits1 : waitsOk truchmanref17_Good.T1.2 truchmanref17_Good.B1 = true := by kernel_rfl
def truchmanref17_Good.T9 : Bool × List (List Nat × List Nat) := (true, [([], []), ([0], [0]), ([], []), ([2], [2]), ([], []), ([3, 4], [3, 4]), ([5], [5]), ([6], [6]), ([7], [7]), ([1, 8, 7], [1, 8]), ([0, 1, 2, 3, 4, 5, 6, 7, 8, 9], []), ([10, 9, 9, 0, 1, 2, 3, 4, 5, 6, 7, 8, 9], [9, 10])])
def truchmanref17_Good.B9 : List Nat := [0, 1, 0, 4, 0, 28, 60, 124, 252, 511, 1023, 2047]
theorem truchmanref17_Good.tab9 : rtab .any (opsOf Try.f12 9) = truchmanref17_Good.T9 := by kernel_rfl
theorem truchmanref17_Good.bits9 : waitsOk truchmanref17_Good.T9.2 truchmanref17_Good.B9 = true := by kernel_rfl
end Go.Proofs.Ytenhnkldhodegaa.R
