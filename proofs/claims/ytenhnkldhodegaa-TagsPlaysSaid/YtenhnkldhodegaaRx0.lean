-- Printed for Ytenhnkldhodegaa by hprint.py, a program of this session over the kit's print.py, some functions taken from texts by hand.
import Derived.Test.YtenhnkldhodegaaProg
import Derived.Below
import Derived.Deep.Draws
import Derived.Deep.AppendLies
import Derived.Maps.AppendAt
import Derived.OwnWalk
import Derived.Laws.BytesArg
import Derived.Laws.MakeOwn
import Derived.Laws.OwnMore
import Derived.Deep.OwnRows
import Derived.Tactics
import Derived.Lib.ConvBytes
import Derived.Laws.Slices
import Derived.WalkKit
import Derived.KernelRfl
import Derived.RowKit3
import Derived.Deep.LoopGhost
import Derived.Deep.QuietTactic
import Derived.BigQuiet
import Derived.WideLaws
import Derived.Deep.DeepCutAuto
import Derived.Deep.CutBlock
import Derived.Deep.RegionHeld3
import Derived.Laws.Rows
import Derived.Lib.AppendStr
import Derived.ArgAppend
import Derived.Laws.IdiomCopy
import Derived.OrdersHeld
import Derived.Laws.BitsLemmas
import Derived.RowKit
import Derived.Test.YtenhnkldhodegaaWWords
import Derived.Test.YtenhnkldhodegaaWLast
import Derived.Test.YtenhnkldhodegaaWTab
import Derived.Test.YtenhnkldhodegaaWFour
import Derived.Test.YtenhnkldhodegaaWQPut
import Derived.Test.YtenhnkldhodegaaWApart
import Derived.Test.YtenhnkldhodegaaWArr
import Derived.Test.YtenhnkldhodegaaWZeros
import Derived.Test.YtenhnkldhodegaaWFoot
import Derived.Test.YtenhnkldhodegaaWKept
import Derived.Test.YtenhnkldhodegaaWShare
import Derived.Test.YtenhnkldhodegaaWN
import Derived.Test.YtenhnkldhodegaaWFootNe
import Derived.Test.YtenhnkldhodegaaWAt
import Derived.Test.YtenhnkldhodegaaWEqStruct
import Derived.Test.YtenhnkldhodegaaWRepsOne
import Derived.Test.YtenhnkldhodegaaWInv
import Derived.Test.YtenhnkldhodegaaWInvWords
import Derived.Test.YtenhnkldhodegaaWGuard
import Derived.Test.YtenhnkldhodegaaWNEv
import Derived.Test.YtenhnkldhodegaaWMore
namespace Go.Proofs.Ytenhnkldhodegaa.R
open Go.RowKit Go.Proofs.YtenhnkldhodegaaW.PrintWords Go.Proofs.YtenhnkldhodegaaW.PrintLast Go.Proofs.YtenhnkldhodegaaW.PrintMore
attribute [local go_sem] max2_int min2_int max_two min_two max_three min_three max_four min_four   -- for this text's walks alone
set_option linter.unusedVariables false
set_option linter.unusedSimpArgs false



def errW : Option Int → Value
  | none => .nilIface
  | some c => .iface 0 (.int .i64 c)
theorem errW_none : errW none = .nilIface := rfl
theorem errW_some (c : Int) : errW (some c) = .iface 0 (.int .i64 c) := rfl

theorem info3 : (Try.prog.info? 3).map (fun i => (i.zero, i.size, i.bytes)) = some (some (.int .i64 0), 1, 8) := by kernel_rfl
theorem info5 : (Try.prog.info? 5).map (fun i => (i.zero, i.size, i.bytes)) = some (some (.int .u8 0), 1, 1) := by kernel_rfl
theorem info9 : (Try.prog.info? 9).map (fun i => (i.zero, i.size, i.bytes)) = some (some (.string ⟨#[]⟩), 1, 16) := by kernel_rfl
theorem info32 : (Try.prog.info? 32).map (fun i => (i.zero, i.size, i.bytes)) = some (some (.agg #[(.int .i64 0), (.int .i64 0), (.int .i64 0), (.int .i64 0), (.int .i64 0), (.int .i64 0), (.int .i64 0), (.int .i64 0), (.int .i64 0), (.int .i64 0), (.string ⟨#[]⟩), (.slice none 0 0), (.int .i64 0), (.slice none 0 0)]), 14, 152) := by kernel_rfl
-- the values' own types
def rd_L3 (xs : List (List ByteArray)) (i : Int) : (List ByteArray) := xs.getD i.toNat ([] : List ByteArray)
theorem at_L3 {w : World} {A : Option Addr} {n : Nat} {xs : List (List ByteArray)} (h : Kd.C (Kd.slice 9 Kd.string) w A n xs) (i : Int) (h0 : 0 ≤ i) (h1 : i < n) : ∃ ad A0 c0, A = some ad ∧ w.cell? (ad.add i.toNat) = some (.slice A0 (rd_L3 xs i).length c0) ∧ (rd_L3 xs i).length ≤ c0 ∧ Kd.string.C w A0 (rd_L3 xs i).length (rd_L3 xs i) := by
  obtain ⟨ad, c, e, _, hK, hc0⟩ := Kd.C_get h ([] : List ByteArray) i h0 h1
  have hc : ∀ j u, c[j]? = some u → w.cell? (ad.add (i.toNat * 1 + j)) = some u := hc0
  obtain ⟨A0, c0, rfl, l0, g0⟩ := hK
  exact ⟨ad, A0, c0, e, by have hq := hc 0 _ rfl; rwa [Nat.mul_one, Nat.add_zero] at hq, l0, g0⟩

def rd_L4 (xs : List (List Int)) (i : Int) : (List Int) := xs.getD i.toNat ([] : List Int)
theorem at_L4 {w : World} {A : Option Addr} {n : Nat} {xs : List (List Int)} (h : Kd.C (Kd.slice 5 (Kd.int .u8)) w A n xs) (i : Int) (h0 : 0 ≤ i) (h1 : i < n) : ∃ ad A0 c0, A = some ad ∧ w.cell? (ad.add i.toNat) = some (.slice A0 (rd_L4 xs i).length c0) ∧ (rd_L4 xs i).length ≤ c0 ∧ (Kd.int .u8).C w A0 (rd_L4 xs i).length (rd_L4 xs i) := by
  obtain ⟨ad, c, e, _, hK, hc0⟩ := Kd.C_get h ([] : List Int) i h0 h1
  have hc : ∀ j u, c[j]? = some u → w.cell? (ad.add (i.toNat * 1 + j)) = some u := hc0
  obtain ⟨A0, c0, rfl, l0, g0⟩ := hK
  exact ⟨ad, A0, c0, e, by have hq := hc 0 _ rfl; rwa [Nat.mul_one, Nat.add_zero] at hq, l0, g0⟩

/-! #### struct type 32 -/
structure S32 where
  f0 : Int
  f1 : Int
  f2 : Int
  f3 : Int
  f4 : Int
  f5 : Int
  f6 : Int
  f7 : Int
  f8 : Int
  f9 : Int
  f10 : ByteArray
  f11 : (List ByteArray)
  f12 : Int
  f13 : (List Int)
def z32 : S32 := ⟨(0 : Int), (0 : Int), (0 : Int), (0 : Int), (0 : Int), (0 : Int), (0 : Int), (0 : Int), (0 : Int), (0 : Int), (⟨#[]⟩ : ByteArray), ([] : List ByteArray), (0 : Int), ([] : List Int)⟩
def k32 : Kd S32 := Kd.iso (Kd.pair (Kd.int .i64) (Kd.pair (Kd.int .i64) (Kd.pair (Kd.int .i64) (Kd.pair (Kd.int .i64) (Kd.pair (Kd.int .i64) (Kd.pair (Kd.int .i64) (Kd.pair (Kd.int .i64) (Kd.pair (Kd.int .i64) (Kd.pair (Kd.int .i64) (Kd.pair (Kd.int .i64) (Kd.pair Kd.string (Kd.pair (Kd.slice 9 Kd.string) (Kd.pair (Kd.int .i64) (Kd.slice 5 (Kd.int .u8))))))))))))))) (fun x : S32 => (x.f0, x.f1, x.f2, x.f3, x.f4, x.f5, x.f6, x.f7, x.f8, x.f9, x.f10, x.f11, x.f12, x.f13))
theorem k32_open {w : World} {x : S32} {cs : List Value} (h : k32.K w x cs) : ∃ A11 c11 A13 c13, cs = [.int .i64 x.f0, .int .i64 x.f1, .int .i64 x.f2, .int .i64 x.f3, .int .i64 x.f4, .int .i64 x.f5, .int .i64 x.f6, .int .i64 x.f7, .int .i64 x.f8, .int .i64 x.f9, .string x.f10, .slice A11 x.f11.length c11, .int .i64 x.f12, .slice A13 x.f13.length c13] ∧ x.f11.length ≤ c11 ∧ Kd.string.C w A11 x.f11.length x.f11 ∧ x.f13.length ≤ c13 ∧ (Kd.int .u8).C w A13 x.f13.length x.f13 := by
  obtain ⟨_, _, rfl, rfl, ⟨_, _, rfl, rfl, ⟨_, _, rfl, rfl, ⟨_, _, rfl, rfl, ⟨_, _, rfl, rfl, ⟨_, _, rfl, rfl, ⟨_, _, rfl, rfl, ⟨_, _, rfl, rfl, ⟨_, _, rfl, rfl, ⟨_, _, rfl, rfl, ⟨_, _, rfl, rfl, ⟨_, _, rfl, ⟨A11, c11, rfl, l11, g11⟩, ⟨_, _, rfl, rfl, ⟨A13, c13, rfl, l13, g13⟩⟩⟩⟩⟩⟩⟩⟩⟩⟩⟩⟩⟩⟩ := h
  exact ⟨A11, c11, A13, c13, rfl, l11, g11, l13, g13⟩
theorem k32_openM {w : World} {base : Nat} {ok : Nat → Prop} {x : S32} {cs : List Value} (h : k32.M w base ok x cs) : ∃ v11 v13, cs = [.int .i64 x.f0, .int .i64 x.f1, .int .i64 x.f2, .int .i64 x.f3, .int .i64 x.f4, .int .i64 x.f5, .int .i64 x.f6, .int .i64 x.f7, .int .i64 x.f8, .int .i64 x.f9, .string x.f10, v11, .int .i64 x.f12, v13] ∧ Kd.string.R 9 w base ok v11 x.f11 ∧ (Kd.int .u8).R 5 w base ok v13 x.f13 := by
  obtain ⟨_, _, rfl, rfl, ⟨_, _, rfl, rfl, ⟨_, _, rfl, rfl, ⟨_, _, rfl, rfl, ⟨_, _, rfl, rfl, ⟨_, _, rfl, rfl, ⟨_, _, rfl, rfl, ⟨_, _, rfl, rfl, ⟨_, _, rfl, rfl, ⟨_, _, rfl, rfl, ⟨_, _, rfl, rfl, ⟨_, _, rfl, ⟨v11, rfl, g11⟩, ⟨_, _, rfl, rfl, ⟨v13, rfl, g13⟩⟩⟩⟩⟩⟩⟩⟩⟩⟩⟩⟩⟩⟩ := h
  exact ⟨v11, v13, rfl, g11, g13⟩
theorem k32_mk (w : World) (x : S32) {A11 : Option Addr} {c11 : Nat} (l11 : x.f11.length ≤ c11) (g11 : Kd.string.C w A11 x.f11.length x.f11) {A13 : Option Addr} {c13 : Nat} (l13 : x.f13.length ≤ c13) (g13 : (Kd.int .u8).C w A13 x.f13.length x.f13) : k32.K w x [.int .i64 x.f0, .int .i64 x.f1, .int .i64 x.f2, .int .i64 x.f3, .int .i64 x.f4, .int .i64 x.f5, .int .i64 x.f6, .int .i64 x.f7, .int .i64 x.f8, .int .i64 x.f9, .string x.f10, .slice A11 x.f11.length c11, .int .i64 x.f12, .slice A13 x.f13.length c13] := ⟨[.int .i64 x.f0], [.int .i64 x.f1, .int .i64 x.f2, .int .i64 x.f3, .int .i64 x.f4, .int .i64 x.f5, .int .i64 x.f6, .int .i64 x.f7, .int .i64 x.f8, .int .i64 x.f9, .string x.f10, .slice A11 x.f11.length c11, .int .i64 x.f12, .slice A13 x.f13.length c13], rfl, rfl, ⟨[.int .i64 x.f1], [.int .i64 x.f2, .int .i64 x.f3, .int .i64 x.f4, .int .i64 x.f5, .int .i64 x.f6, .int .i64 x.f7, .int .i64 x.f8, .int .i64 x.f9, .string x.f10, .slice A11 x.f11.length c11, .int .i64 x.f12, .slice A13 x.f13.length c13], rfl, rfl, ⟨[.int .i64 x.f2], [.int .i64 x.f3, .int .i64 x.f4, .int .i64 x.f5, .int .i64 x.f6, .int .i64 x.f7, .int .i64 x.f8, .int .i64 x.f9, .string x.f10, .slice A11 x.f11.length c11, .int .i64 x.f12, .slice A13 x.f13.length c13], rfl, rfl, ⟨[.int .i64 x.f3], [.int .i64 x.f4, .int .i64 x.f5, .int .i64 x.f6, .int .i64 x.f7, .int .i64 x.f8, .int .i64 x.f9, .string x.f10, .slice A11 x.f11.length c11, .int .i64 x.f12, .slice A13 x.f13.length c13], rfl, rfl, ⟨[.int .i64 x.f4], [.int .i64 x.f5, .int .i64 x.f6, .int .i64 x.f7, .int .i64 x.f8, .int .i64 x.f9, .string x.f10, .slice A11 x.f11.length c11, .int .i64 x.f12, .slice A13 x.f13.length c13], rfl, rfl, ⟨[.int .i64 x.f5], [.int .i64 x.f6, .int .i64 x.f7, .int .i64 x.f8, .int .i64 x.f9, .string x.f10, .slice A11 x.f11.length c11, .int .i64 x.f12, .slice A13 x.f13.length c13], rfl, rfl, ⟨[.int .i64 x.f6], [.int .i64 x.f7, .int .i64 x.f8, .int .i64 x.f9, .string x.f10, .slice A11 x.f11.length c11, .int .i64 x.f12, .slice A13 x.f13.length c13], rfl, rfl, ⟨[.int .i64 x.f7], [.int .i64 x.f8, .int .i64 x.f9, .string x.f10, .slice A11 x.f11.length c11, .int .i64 x.f12, .slice A13 x.f13.length c13], rfl, rfl, ⟨[.int .i64 x.f8], [.int .i64 x.f9, .string x.f10, .slice A11 x.f11.length c11, .int .i64 x.f12, .slice A13 x.f13.length c13], rfl, rfl, ⟨[.int .i64 x.f9], [.string x.f10, .slice A11 x.f11.length c11, .int .i64 x.f12, .slice A13 x.f13.length c13], rfl, rfl, ⟨[.string x.f10], [.slice A11 x.f11.length c11, .int .i64 x.f12, .slice A13 x.f13.length c13], rfl, rfl, ⟨[.slice A11 x.f11.length c11], [.int .i64 x.f12, .slice A13 x.f13.length c13], rfl, ⟨A11, c11, rfl, l11, g11⟩, ⟨[.int .i64 x.f12], [.slice A13 x.f13.length c13], rfl, rfl, ⟨A13, c13, rfl, l13, g13⟩⟩⟩⟩⟩⟩⟩⟩⟩⟩⟩⟩⟩⟩
theorem k32_mkM (w : World) (base : Nat) (ok : Nat → Prop) (x : S32) {v11 : Value} (g11 : Kd.string.R 9 w base ok v11 x.f11) {v13 : Value} (g13 : (Kd.int .u8).R 5 w base ok v13 x.f13) : k32.M w base ok x [.int .i64 x.f0, .int .i64 x.f1, .int .i64 x.f2, .int .i64 x.f3, .int .i64 x.f4, .int .i64 x.f5, .int .i64 x.f6, .int .i64 x.f7, .int .i64 x.f8, .int .i64 x.f9, .string x.f10, v11, .int .i64 x.f12, v13] := ⟨[.int .i64 x.f0], [.int .i64 x.f1, .int .i64 x.f2, .int .i64 x.f3, .int .i64 x.f4, .int .i64 x.f5, .int .i64 x.f6, .int .i64 x.f7, .int .i64 x.f8, .int .i64 x.f9, .string x.f10, v11, .int .i64 x.f12, v13], rfl, rfl, ⟨[.int .i64 x.f1], [.int .i64 x.f2, .int .i64 x.f3, .int .i64 x.f4, .int .i64 x.f5, .int .i64 x.f6, .int .i64 x.f7, .int .i64 x.f8, .int .i64 x.f9, .string x.f10, v11, .int .i64 x.f12, v13], rfl, rfl, ⟨[.int .i64 x.f2], [.int .i64 x.f3, .int .i64 x.f4, .int .i64 x.f5, .int .i64 x.f6, .int .i64 x.f7, .int .i64 x.f8, .int .i64 x.f9, .string x.f10, v11, .int .i64 x.f12, v13], rfl, rfl, ⟨[.int .i64 x.f3], [.int .i64 x.f4, .int .i64 x.f5, .int .i64 x.f6, .int .i64 x.f7, .int .i64 x.f8, .int .i64 x.f9, .string x.f10, v11, .int .i64 x.f12, v13], rfl, rfl, ⟨[.int .i64 x.f4], [.int .i64 x.f5, .int .i64 x.f6, .int .i64 x.f7, .int .i64 x.f8, .int .i64 x.f9, .string x.f10, v11, .int .i64 x.f12, v13], rfl, rfl, ⟨[.int .i64 x.f5], [.int .i64 x.f6, .int .i64 x.f7, .int .i64 x.f8, .int .i64 x.f9, .string x.f10, v11, .int .i64 x.f12, v13], rfl, rfl, ⟨[.int .i64 x.f6], [.int .i64 x.f7, .int .i64 x.f8, .int .i64 x.f9, .string x.f10, v11, .int .i64 x.f12, v13], rfl, rfl, ⟨[.int .i64 x.f7], [.int .i64 x.f8, .int .i64 x.f9, .string x.f10, v11, .int .i64 x.f12, v13], rfl, rfl, ⟨[.int .i64 x.f8], [.int .i64 x.f9, .string x.f10, v11, .int .i64 x.f12, v13], rfl, rfl, ⟨[.int .i64 x.f9], [.string x.f10, v11, .int .i64 x.f12, v13], rfl, rfl, ⟨[.string x.f10], [v11, .int .i64 x.f12, v13], rfl, rfl, ⟨[v11], [.int .i64 x.f12, v13], rfl, ⟨v11, rfl, g11⟩, ⟨[.int .i64 x.f12], [v13], rfl, rfl, ⟨v13, rfl, g13⟩⟩⟩⟩⟩⟩⟩⟩⟩⟩⟩⟩⟩⟩
theorem k32_openF {W : World} {ok : Nat → Prop} {x : S32} {cs : List Value} (h : Kd.FK k32 W ok x cs) : ∃ A11 c11 A13 c13, cs = [.int .i64 x.f0, .int .i64 x.f1, .int .i64 x.f2, .int .i64 x.f3, .int .i64 x.f4, .int .i64 x.f5, .int .i64 x.f6, .int .i64 x.f7, .int .i64 x.f8, .int .i64 x.f9, .string x.f10, .slice A11 x.f11.length c11, .int .i64 x.f12, .slice A13 x.f13.length c13] ∧ x.f11.length ≤ c11 ∧ Kd.F Kd.string W ok A11 x.f11.length x.f11 ∧ x.f13.length ≤ c13 ∧ Kd.F (Kd.int .u8) W ok A13 x.f13.length x.f13 := by
  obtain ⟨A11, c11, A13, c13, rfl, l11, _, l13, _⟩ := k32_open (Kd.FK_now h)
  exact ⟨A11, c11, A13, c13, rfl, l11, (fun W' hW => by obtain ⟨A11_, c11_, A13_, c13_, he, l11_, g11_, l13_, g13_⟩ := k32_open (h W' hW); injection (Option.some.inj (show some (Value.slice A11 x.f11.length c11) = some (Value.slice A11_ x.f11.length c11_) from congrArg (fun l => l[11]?) he)) with ha_ _ _; rw [ha_]; exact g11_), l13, (fun W' hW => by obtain ⟨A11_, c11_, A13_, c13_, he, l11_, g11_, l13_, g13_⟩ := k32_open (h W' hW); injection (Option.some.inj (show some (Value.slice A13 x.f13.length c13) = some (Value.slice A13_ x.f13.length c13_) from congrArg (fun l => l[13]?) he)) with ha_ _ _; rw [ha_]; exact g13_)⟩
theorem k32_mkF (W : World) (ok : Nat → Prop) (x : S32) {A11 : Option Addr} {c11 : Nat} (l11 : x.f11.length ≤ c11) (g11 : Kd.F Kd.string W ok A11 x.f11.length x.f11) {A13 : Option Addr} {c13 : Nat} (l13 : x.f13.length ≤ c13) (g13 : Kd.F (Kd.int .u8) W ok A13 x.f13.length x.f13) : Kd.FK k32 W ok x [.int .i64 x.f0, .int .i64 x.f1, .int .i64 x.f2, .int .i64 x.f3, .int .i64 x.f4, .int .i64 x.f5, .int .i64 x.f6, .int .i64 x.f7, .int .i64 x.f8, .int .i64 x.f9, .string x.f10, .slice A11 x.f11.length c11, .int .i64 x.f12, .slice A13 x.f13.length c13] := fun W2 hW => k32_mk W2 x l11 (g11 W2 hW) l13 (g13 W2 hW)
def rd_T32 (xs : List S32) (i : Int) : S32 := xs.getD i.toNat z32
theorem at_T32 {w : World} {A : Option Addr} {n : Nat} {xs : List S32} (h : Kd.C k32 w A n xs) (i : Int) (h0 : 0 ≤ i) (h1 : i < n) : ∃ ad A11 c11 A13 c13, A = some ad ∧ w.cell? (ad.add (i.toNat * 14)) = some (.int .i64 (rd_T32 xs i).f0) ∧ w.cell? ⟨(ad.add (i.toNat * 14)).block, (ad.add (i.toNat * 14)).off + 1, none⟩ = some (.int .i64 (rd_T32 xs i).f1) ∧ w.cell? ⟨(ad.add (i.toNat * 14)).block, (ad.add (i.toNat * 14)).off + 2, none⟩ = some (.int .i64 (rd_T32 xs i).f2) ∧ w.cell? ⟨(ad.add (i.toNat * 14)).block, (ad.add (i.toNat * 14)).off + 3, none⟩ = some (.int .i64 (rd_T32 xs i).f3) ∧ w.cell? ⟨(ad.add (i.toNat * 14)).block, (ad.add (i.toNat * 14)).off + 4, none⟩ = some (.int .i64 (rd_T32 xs i).f4) ∧ w.cell? ⟨(ad.add (i.toNat * 14)).block, (ad.add (i.toNat * 14)).off + 5, none⟩ = some (.int .i64 (rd_T32 xs i).f5) ∧ w.cell? ⟨(ad.add (i.toNat * 14)).block, (ad.add (i.toNat * 14)).off + 6, none⟩ = some (.int .i64 (rd_T32 xs i).f6) ∧ w.cell? ⟨(ad.add (i.toNat * 14)).block, (ad.add (i.toNat * 14)).off + 7, none⟩ = some (.int .i64 (rd_T32 xs i).f7) ∧ w.cell? ⟨(ad.add (i.toNat * 14)).block, (ad.add (i.toNat * 14)).off + 8, none⟩ = some (.int .i64 (rd_T32 xs i).f8) ∧ w.cell? ⟨(ad.add (i.toNat * 14)).block, (ad.add (i.toNat * 14)).off + 9, none⟩ = some (.int .i64 (rd_T32 xs i).f9) ∧ w.cell? ⟨(ad.add (i.toNat * 14)).block, (ad.add (i.toNat * 14)).off + 10, none⟩ = some (.string (rd_T32 xs i).f10) ∧ w.cell? ⟨(ad.add (i.toNat * 14)).block, (ad.add (i.toNat * 14)).off + 11, none⟩ = some (.slice A11 (rd_T32 xs i).f11.length c11) ∧ w.cell? ⟨(ad.add (i.toNat * 14)).block, (ad.add (i.toNat * 14)).off + 12, none⟩ = some (.int .i64 (rd_T32 xs i).f12) ∧ w.cell? ⟨(ad.add (i.toNat * 14)).block, (ad.add (i.toNat * 14)).off + 13, none⟩ = some (.slice A13 (rd_T32 xs i).f13.length c13) ∧ (rd_T32 xs i).f11.length ≤ c11 ∧ Kd.string.C w A11 (rd_T32 xs i).f11.length (rd_T32 xs i).f11 ∧ (rd_T32 xs i).f13.length ≤ c13 ∧ (Kd.int .u8).C w A13 (rd_T32 xs i).f13.length (rd_T32 xs i).f13 := by
  obtain ⟨ad, c, e, _, hK, hc0⟩ := Kd.C_get h z32 i h0 h1
  have hc : ∀ j u, c[j]? = some u → w.cell? (ad.add (i.toNat * 14 + j)) = some u := hc0
  obtain ⟨A11, c11, A13, c13, rfl, l11, g11, l13, g13⟩ := k32_open hK
  exact ⟨ad, A11, c11, A13, c13, e, hc 0 _ rfl, by rw [← add_field _ _ 1 (by omega)]; exact hc 1 _ rfl, by rw [← add_field _ _ 2 (by omega)]; exact hc 2 _ rfl, by rw [← add_field _ _ 3 (by omega)]; exact hc 3 _ rfl, by rw [← add_field _ _ 4 (by omega)]; exact hc 4 _ rfl, by rw [← add_field _ _ 5 (by omega)]; exact hc 5 _ rfl, by rw [← add_field _ _ 6 (by omega)]; exact hc 6 _ rfl, by rw [← add_field _ _ 7 (by omega)]; exact hc 7 _ rfl, by rw [← add_field _ _ 8 (by omega)]; exact hc 8 _ rfl, by rw [← add_field _ _ 9 (by omega)]; exact hc 9 _ rfl, by rw [← add_field _ _ 10 (by omega)]; exact hc 10 _ rfl, by rw [← add_field _ _ 11 (by omega)]; exact hc 11 _ rfl, by rw [← add_field _ _ 12 (by omega)]; exact hc 12 _ rfl, by rw [← add_field _ _ 13 (by omega)]; exact hc 13 _ rfl, l11, g11, l13, g13⟩

theorem at_len {α : Type} {R : α → List Value → Prop} {size : Nat} {w : World} {A : Option Addr} {n m : Nat} {ps : List α} (h : ReadsRow R size w A n ps) (e : n = m) : ReadsRow R size w A m ps := e ▸ h


end Go.Proofs.Ytenhnkldhodegaa.R
