import Derived.Test.YtenhnkldhodegaaT28
import Derived.Outline
import Derived.Shelf.Abstract
import Derived.Deep.LoopGhost
import Derived.Deep.Draws
import Derived.Laws.EntriesVeiled
import Derived.Laws.ResultCell
import Derived.Laws.Rows
import Derived.Deep.QuietTactic
import Derived.Deep.RegionWith
import Derived.BigQuiet
import Derived.Deep.MidRow
import Derived.Laws.Tables
import Derived.Deep.WholeRow
import Derived.Lib.SliceRun
import Derived.LaidEql
import Derived.RowKitTokens
import Derived.Stop.Asserts
import Derived.Laws.CopyRow
import Derived.Lib.BufferRead
import Derived.Lib.SlBytesRow
import Derived.Test.YtenhnkldhodegaaGd0
import Derived.Test.YtenhnkldhodegaaGd1
import Derived.Test.YtenhnkldhodegaaT25
import Derived.Test.YtenhnkldhodegaaT26
import Derived.Test.YtenhnkldhodegaaT27
namespace Go.Proofs.Ytenhnkldhodegaa.R
open Go.RowKit Go.Proofs.YtenhnkldhodegaaW.PrintWords Go.Proofs.YtenhnkldhodegaaW.PrintLast Go.Proofs.YtenhnkldhodegaaW.PrintMore
attribute [local go_sem] max2_int min2_int max_two min_two max_three min_three max_four min_four   -- for this text's walks alone
set_option linter.unusedVariables false
set_option linter.unusedSimpArgs false
theorem TagsOwns.walk (a0 a1 a2 a3 a4 a5 a6 a7 a8 a9 : Int) (s : ByteArray) (A : Option Addr) (c : Nat) (ns : List ByteArray) (a12 : Int) (D : Option Addr) (d : Nat) (bs : List Int) (y : Int) (w : World) (hN : Kd.C Kd.string w A ns.length ns) (hc : ns.length ≤ c) (hB : Kd.C (Kd.int .u8) w D bs.length bs) (hd : bs.length ≤ d)
    (h0 : i64 a0) (h1 : i64 a1) (h2 : i64 a2) (h3 : i64 a3) (h4 : i64 a4) (h5 : i64 a5) (h6 : i64 a6) (h7 : i64 a7) (h8 : i64 a8) (h9 : i64 a9) (h12 : i64 a12) :
    Calls Try.prog 4 #[.agg #[.int .i64 a0, .int .i64 a1, .int .i64 a2, .int .i64 a3, .int .i64 a4, .int .i64 a5, .int .i64 a6, .int .i64 a7, .int .i64 a8, .int .i64 a9, .string s, .slice A ns.length c, .int .i64 a12, .slice D bs.length d], .int .u8 y] w fun e w' => e = .returned (.bool true) ∧ Below w.heap.size w w' := by
  obtain ⟨r0, r2, r3, r4, r5, r6, r7, r8, r9, rs, rn, r12, rb, hG, hrn, hrb⟩ := good_f a0 a1 a2 a3 a4 a5 a6 a7 a8 a9 s ns a12 bs h0 h1 h2 h3 h4 h5 h6 h7 h8 h9 h12
  generalize arF a1 65536 = r1 at hG
  by_cases hn : 0 < rn.length
  · by_cases hm : 0 < rb.length
    · exact TagsOwns.walk_ND a0 a1 a2 a3 a4 a5 a6 a7 a8 a9 s A c ns a12 D d bs y w hN hc hB hd r0 r1 r2 r3 r4 r5 r6 r7 r8 r9 rs rn r12 rb hG hrn hrb hn hm
    · exact TagsOwns.walk_Nd a0 a1 a2 a3 a4 a5 a6 a7 a8 a9 s A c ns a12 D d bs y w hN hc hB hd r0 r1 r2 r3 r4 r5 r6 r7 r8 r9 rs rn r12 rb hG hrn hrb hn hm
  · by_cases hm : 0 < rb.length
    · exact TagsOwns.walk_nD a0 a1 a2 a3 a4 a5 a6 a7 a8 a9 s A c ns a12 D d bs y w hN hc hB hd r0 r1 r2 r3 r4 r5 r6 r7 r8 r9 rs rn r12 rb hG hrn hrb hn hm
    · exact TagsOwns.walk_nd a0 a1 a2 a3 a4 a5 a6 a7 a8 a9 s A c ns a12 D d bs y w hN hc hB hd r0 r1 r2 r3 r4 r5 r6 r7 r8 r9 rs rn r12 rb hG hrn hrb hn hm

end Go.Proofs.Ytenhnkldhodegaa.R
