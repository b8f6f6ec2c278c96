import Derived.Test.YtenhnkldhodegaaT22
import Derived.Outline
import Derived.Shelf.Abstract
import Derived.Deep.LoopGhost
import Derived.Deep.Draws
import Derived.Laws.EntriesVeiled
import Derived.Laws.ResultCell
import Derived.Laws.Rows
import Derived.Deep.QuietTactic
import Derived.Deep.RegionWith
import Derived.BigQuiet
import Derived.Deep.MidRow
import Derived.Laws.Tables
import Derived.Deep.WholeRow
import Derived.Lib.SliceRun
import Derived.LaidEql
import Derived.RowKitTokens
import Derived.Stop.Asserts
import Derived.Laws.CopyRow
import Derived.Lib.BufferRead
import Derived.Lib.SlBytesRow
import Derived.Test.YtenhnkldhodegaaGd0
import Derived.Test.YtenhnkldhodegaaGd1
namespace Go.Proofs.Ytenhnkldhodegaa.R
open Go.RowKit Go.Proofs.YtenhnkldhodegaaW.PrintWords Go.Proofs.YtenhnkldhodegaaW.PrintLast Go.Proofs.YtenhnkldhodegaaW.PrintMore
attribute [local go_sem] max2_int min2_int max_two min_two max_three min_three max_four min_four   -- for this text's walks alone
set_option linter.unusedVariables false
set_option linter.unusedSimpArgs false
theorem row_head {α : Type} {d : Kd α} {e base : Nat} {ok : Nat → Prop} {w : World} {A : Option Addr} {n c : Nat} {xs : List α} (h : d.R e w base ok (.slice A n c) xs) : A = none ∨ ∃ g o, A = some ⟨g, o, none⟩ := by
  cases A with
  | none => exact .inl rfl
  | some a =>
    obtain ⟨g, rfl⟩ := Kd.R_head h
    exact .inr ⟨g, 0, rfl⟩
set_option maxRecDepth 100000 in
theorem good_ok (a0 a1 a2 a3 a4 a5 a6 a7 a8 a9 : Int) (s : ByteArray) (A : Option Addr) (c : Nat) (ns : List ByteArray) (a12 : Int) (D : Option Addr) (d : Nat) (bs : List Int) (r0 r1 r2 r3 r4 r5 r6 r7 r8 r9 : Int) (rs : ByteArray) (rn : List ByteArray) (r12 : Int) (rb : List Int)
    (h : truchmanref17_Good.f 100 a0 a1 a2 a3 a4 a5 a6 a7 a8 a9 s ns a12 bs = some (r0, r1, r2, r3, r4, r5, r6, r7, r8, r9, rs, rn, r12, rb)) (w : World) (hN : Kd.C Kd.string w A ns.length ns) (hc : ns.length ≤ c) (hB : Kd.C (Kd.int .u8) w D bs.length bs) (hd : bs.length ≤ d) :
    Calls Try.prog 12 #[.agg #[.int .i64 a0, .int .i64 a1, .int .i64 a2, .int .i64 a3, .int .i64 a4, .int .i64 a5, .int .i64 a6, .int .i64 a7, .int .i64 a8, .int .i64 a9, .string s, .slice A ns.length c, .int .i64 a12, .slice D bs.length d]] w fun e w' => ∃ A' c' D' d', e = .returned (.agg #[.int .i64 r0, .int .i64 r1, .int .i64 r2, .int .i64 r3, .int .i64 r4, .int .i64 r5, .int .i64 r6, .int .i64 r7, .int .i64 r8, .int .i64 r9, .string rs, .slice A' rn.length c', .int .i64 r12, .slice D' rb.length d']) ∧ Kd.R Kd.string 9 w' w.heap.size (fun _ => True) (.slice A' rn.length c') rn ∧ Kd.R (Kd.int .u8) 5 w' w.heap.size (fun _ => True) (.slice D' rb.length d') rb ∧ Below w.heap.size w w' := by
  refine (truchmanref17_Good.calls 100 a0 a1 a2 a3 a4 a5 a6 a7 a8 a9 s A c ns a12 D d bs r0 r1 r2 r3 r4 r5 r6 r7 r8 r9 rs rn r12 rb w hN hc hB hd h).mono ?_
  rintro e w' ⟨v1, v2, rfl, hR1, hR2, hb⟩
  obtain ⟨A', c', rfl, -, -⟩ := Kd.R_reads hR1
  obtain ⟨D', d', rfl, -, -⟩ := Kd.R_reads hR2
  exact ⟨A', c', D', d', rfl, hR1, hR2, hb⟩
set_option maxRecDepth 100000 in
theorem put_any (b : Nat) (most : Int) (css : List (List Value)) (i0 t i2 i3 i4 i5 i6 i7 i8 i9 : Int) (s : ByteArray) (A : Option Addr) (c : Nat) (ns : List ByteArray) (i12 : Int) (D : Option Addr) (d : Nat) (bs : List Int) (w : World) (hT : TagsIn w b most css) (hf : ¬ findN css t < css.length) (hm : (css.length : Int) < most) (hm8 : most ≤ 8)
    (hN : Kd.C Kd.string w A ns.length ns) (hB : Kd.C (Kd.int .u8) w D bs.length bs) (hnl : ns.length ≤ 1000) (hbl : bs.length ≤ 1000000) :
    Calls Try.prog 10 #[.pointer (some ⟨b, 0, none⟩), .agg #[.int .i64 i0, .int .i64 t, .int .i64 i2, .int .i64 i3, .int .i64 i4, .int .i64 i5, .int .i64 i6, .int .i64 i7, .int .i64 i8, .int .i64 i9, .string s, .slice A ns.length c, .int .i64 i12, .slice D bs.length d]] w fun e w' => e = .returned (.int .i64 0) ∧ ∃ A' c' D' d' w1, Kd.R Kd.string 9 w1 w.heap.size (fun _ => True) (.slice A' ns.length c') ns ∧ Kd.R (Kd.int .u8) 5 w1 w.heap.size (fun _ => True) (.slice D' bs.length d') bs ∧ Below w.heap.size w w1 ∧ w1.grownBy w' (some b) ∧
      TagsIn w' b most (css ++ [[.int .i64 i0, .int .i64 t, .int .i64 i2, .int .i64 i3, .int .i64 i4, .int .i64 i5, .int .i64 i6, .int .i64 i7, .int .i64 i8, .int .i64 i9, .string s, .slice A' ns.length c', .int .i64 i12, .slice D' bs.length d']]) := by
  refine (put_ok b most t css [.int .i64 i0, .int .i64 t, .int .i64 i2, .int .i64 i3, .int .i64 i4, .int .i64 i5, .int .i64 i6, .int .i64 i7, .int .i64 i8, .int .i64 i9, .string s, .slice A ns.length c, .int .i64 i12, .slice D bs.length d]
    (fun cs' w' => ∃ A' c' D' d', cs' = [.int .i64 i0, .int .i64 t, .int .i64 i2, .int .i64 i3, .int .i64 i4, .int .i64 i5, .int .i64 i6, .int .i64 i7, .int .i64 i8, .int .i64 i9, .string s, .slice A' ns.length c', .int .i64 i12, .slice D' bs.length d'] ∧ Kd.R Kd.string 9 w' w.heap.size (fun _ => True) (.slice A' ns.length c') ns ∧ Kd.R (Kd.int .u8) 5 w' w.heap.size (fun _ => True) (.slice D' bs.length d') bs)
    ⟨_, _, _, _, _, _, _, _, _, _, _, _, _, _, _, _, _, rfl⟩ w hT hf hm hm8 ?_).mono ?_
  · intro W hW
    refine (own_ok i0 t i2 i3 i4 i5 i6 i7 i8 i9 s A c ns i12 D d bs W (Kd.C_below hN hW) (Kd.C_below hB hW) hnl hbl).mono ?_
    rintro e w' ⟨A', c', D', d', rfl, h1, h2, hb⟩
    exact ⟨_, rfl, ⟨_, _, _, _, _, _, _, _, _, _, _, _, _, _, _, _, _, rfl⟩, ⟨A', c', D', d', rfl, Kd.R_lower h1 hW.size, Kd.R_lower h2 hW.size⟩, hb⟩
  · rintro e w' ⟨rfl, cs', w1, -, ⟨A', c', D', d', rfl, h1, h2⟩, hb, hg, hT'⟩
    exact ⟨rfl, A', c', D', d', w1, h1, h2, hb, hg, hT'⟩

end Go.Proofs.Ytenhnkldhodegaa.R
