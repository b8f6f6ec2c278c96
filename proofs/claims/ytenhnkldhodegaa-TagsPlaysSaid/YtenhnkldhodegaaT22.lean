import Derived.Test.YtenhnkldhodegaaT21
import Derived.Outline
import Derived.Shelf.Abstract
import Derived.Deep.LoopGhost
import Derived.Deep.Draws
import Derived.Laws.EntriesVeiled
import Derived.Laws.ResultCell
import Derived.Laws.Rows
import Derived.Deep.QuietTactic
import Derived.Deep.RegionWith
import Derived.BigQuiet
import Derived.Deep.MidRow
import Derived.Laws.Tables
import Derived.Deep.WholeRow
import Derived.Lib.SliceRun
import Derived.LaidEql
import Derived.RowKitTokens
import Derived.Stop.Asserts
import Derived.Laws.CopyRow
import Derived.Lib.BufferRead
import Derived.Lib.SlBytesRow
import Derived.Test.YtenhnkldhodegaaGd0
namespace Go.Proofs.Ytenhnkldhodegaa.R
open Go.RowKit Go.Proofs.YtenhnkldhodegaaW.PrintWords Go.Proofs.YtenhnkldhodegaaW.PrintLast Go.Proofs.YtenhnkldhodegaaW.PrintMore
attribute [local go_sem] max2_int min2_int max_two min_two max_three min_three max_four min_four   -- for this text's walks alone
set_option linter.unusedVariables false
set_option linter.unusedSimpArgs false
theorem own_f (k : Nat) (hk : 14 < k) (a0 a1 a2 a3 a4 a5 a6 a7 a8 a9 : Int) (s : ByteArray) (ns : List ByteArray) (a12 : Int) (bs : List Int) :
    ∃ r2 r3 r4 r5 r6 r7 r8 r9 rs rn r12 rb, truchmanref17_Own.f k a0 a1 a2 a3 a4 a5 a6 a7 a8 a9 s ns a12 bs = some (a0, a1, r2, r3, r4, r5, r6, r7, r8, r9, rs, rn, r12, rb) ∧ rn.length ≤ ns.length ∧ rb.length ≤ bs.length := by
  unfold truchmanref17_Own.f
  obtain ⟨t0, h0⟩ := keep_f a0 102 a2 k (by omega)
  obtain ⟨t1, h1⟩ := keep_f a0 119 a3 k (by omega)
  obtain ⟨t2, h2⟩ := keep_f a0 116 a4 k (by omega)
  obtain ⟨t3, h3⟩ := keep_f a0 122 a5 k (by omega)
  obtain ⟨t4, h4⟩ := keep_f a0 109 a6 k (by omega)
  obtain ⟨t5, h5⟩ := keep_f a0 112 a7 k (by omega)
  obtain ⟨t6, h6⟩ := keep_f a0 111 a8 k (by omega)
  obtain ⟨t7, h7⟩ := keep_f a0 99 a9 k (by omega)
  obtain ⟨t8, h8⟩ := keep_f a0 115 a12 k (by omega)
  obtain ⟨t9, h9⟩ := has_f a0 110 k (by omega)
  rw [h0, h1, h2, h3, h4, h5, h6, h7, h8, h9]
  simp only [Option.bind_some]
  obtain ⟨k, rfl⟩ : ∃ j, k = j + 1 := ⟨k - 1, by omega⟩
  obtain ⟨u, hu⟩ := has_f a0 108 k (by omega)
  obtain ⟨v, hv⟩ := has_f a0 100 k (by omega)
  have key : ∀ s', ∃ r2 r3 r4 r5 r6 r7 r8 r9 rs rn r12 rb, truchmanref17_Own.j0 (k + 1) a0 a0 a1 a2 a3 a4 a5 a6 a7 a8 a9 s ns a12 bs a0 a1 t0 t1 t2 t3 t4 t5 t6 t7 s' t8 = some (a0, a1, r2, r3, r4, r5, r6, r7, r8, r9, rs, rn, r12, rb) ∧ rn.length ≤ ns.length ∧ rb.length ≤ bs.length := by
    intro s'
    simp only [truchmanref17_Own.j0, hu, hv, Option.bind_some]
    cases u <;> cases v <;> simp only [Bool.false_eq_true, if_false, if_true] <;> exact ⟨_, _, _, _, _, _, _, _, _, _, _, _, rfl, by simp, by simp⟩
  cases t9 with
  | true => exact key s
  | false => exact key ⟨#[]⟩
theorem few_f (l : List Int) : ∃ r, truchmanref01_Few.f l 30 = some r ∧ r.length ≤ 30 := by
  unfold truchmanref01_Few.f
  have hm : 0 ≤ mn (l.length : Int) 30 ∧ mn (l.length : Int) 30 ≤ l.length ∧ mn (l.length : Int) 30 ≤ 30 := by
    unfold mn
    split <;> omega
  have hl : (l.take (mn (l.length : Int) 30).toNat).length ≤ 30 := by
    rw [List.length_take]; omega
  rw [if_pos hm.1, if_pos hm.2.1, if_pos (by simp only [List.length_nil]; omega)]
  exact ⟨_, rfl, by simpa using hl⟩
theorem good_l0 (a0 a1 a2 a3 a4 a5 a6 a7 a8 a9 : Int) (s : ByteArray) (ns : List ByteArray) (a12 : Int) (bs : List Int) (b0 b1 b2 b3 b4 b5 b6 b7 b8 b9 : Int) (bS : ByteArray) (b12 : Int) : ∀ (k i : Nat) (acc : List ByteArray), i ≤ 8 → 30 - i < k → acc.length = i →
    ∃ r2 r3 r4 r5 r6 r7 r8 r9 rs rn r12 rb, truchmanref17_Good.l0 k i a0 a1 a2 a3 a4 a5 a6 a7 a8 a9 s ns a12 bs b0 b1 b2 b3 b4 b5 b6 b7 b8 b9 bS acc b12 = some (b0, b1, r2, r3, r4, r5, r6, r7, r8, r9, rs, rn, r12, rb) ∧ rn.length ≤ 8 ∧ rb.length ≤ 30
  | 0, i, _, _, h, _ => absurd h (by omega)
  | k + 1, i, acc, hi, hk, ha => by
    have tail : ∃ r2 r3 r4 r5 r6 r7 r8 r9 rs rn r12 rb, ((truchmanref01_Few.f bs 30).bind fun t => (truchmanref17_Own.f k b0 b1 b2 b3 b4 b5 b6 b7 b8 b9 bS acc b12 t).bind fun bt => some (bt.1, bt.2.1, bt.2.2.1, bt.2.2.2.1, bt.2.2.2.2.1, bt.2.2.2.2.2.1, bt.2.2.2.2.2.2.1, bt.2.2.2.2.2.2.2.1, bt.2.2.2.2.2.2.2.2.1, bt.2.2.2.2.2.2.2.2.2.1, bt.2.2.2.2.2.2.2.2.2.2.1, bt.2.2.2.2.2.2.2.2.2.2.2.1, bt.2.2.2.2.2.2.2.2.2.2.2.2.1, bt.2.2.2.2.2.2.2.2.2.2.2.2.2)) = some (b0, b1, r2, r3, r4, r5, r6, r7, r8, r9, rs, rn, r12, rb) ∧ rn.length ≤ 8 ∧ rb.length ≤ 30 := by
      obtain ⟨f, hf, hf30⟩ := few_f bs
      obtain ⟨r2, r3, r4, r5, r6, r7, r8, r9, rs, rn, r12, rb, ho, h1, h2⟩ := own_f k (by omega) b0 b1 b2 b3 b4 b5 b6 b7 b8 b9 bS acc b12 f
      refine ⟨r2, r3, r4, r5, r6, r7, r8, r9, rs, rn, r12, rb, ?_, by omega, by omega⟩
      rw [hf]
      simp only [Option.bind_some]
      rw [ho]
      rfl
    unfold truchmanref17_Good.l0
    by_cases h : (i : Int) < (ns.length : Int)
    · rw [if_pos h]
      by_cases h8 : (i : Int) < 8
      · obtain ⟨t, ht⟩ := short_f (rdOf ByteArray.empty ns (i : Int))
        have hw : wrap64 ((i : Int) + 1) = ((i + 1 : Nat) : Int) := by unfold wrap64; omega
        rw [if_pos h8, if_pos (by omega), ht]
        simp only [Option.bind_some]
        rw [if_pos (by omega), hw]
        exact good_l0 a0 a1 a2 a3 a4 a5 a6 a7 a8 a9 s ns a12 bs b0 b1 b2 b3 b4 b5 b6 b7 b8 b9 bS b12 k (i + 1) (acc ++ [t]) (by omega) (by omega) (by simp [ha])
      · rw [if_neg h8]
        exact tail
    · rw [if_neg h]
      exact tail
def i64 (a : Int) : Prop := -9223372036854775808 ≤ a ∧ a ≤ 9223372036854775807
/-- A request that may be is made of any. -/
theorem good_f (a0 a1 a2 a3 a4 a5 a6 a7 a8 a9 : Int) (s : ByteArray) (ns : List ByteArray) (a12 : Int) (bs : List Int) (h0 : i64 a0) (h1 : i64 a1) (h2 : i64 a2) (h3 : i64 a3) (h4 : i64 a4) (h5 : i64 a5) (h6 : i64 a6) (h7 : i64 a7) (h8 : i64 a8) (h9 : i64 a9) (h12 : i64 a12) :
    ∃ r0 r2 r3 r4 r5 r6 r7 r8 r9 rs rn r12 rb, truchmanref17_Good.f 100 a0 a1 a2 a3 a4 a5 a6 a7 a8 a9 s ns a12 bs = some (r0, arF a1 65536, r2, r3, r4, r5, r6, r7, r8, r9, rs, rn, r12, rb) ∧ rn.length ≤ 8 ∧ rb.length ≤ 30 := by
  obtain ⟨t0, e0⟩ := kind_f a0 h0
  obtain ⟨ts, es⟩ := short_f s
  unfold truchmanref17_Good.f
  rw [e0, around_f a1 _ (by omega) h1, low_f a2 h2, low_f a3 h3, around_f a4 _ (by omega) h4, low_f a5 h5, around_f a6 _ (by omega) h6, low_f a7 h7, around_f a8 _ (by omega) h8, low_f a9 h9, low_f a12 h12, es]
  simp only [Option.bind_some]
  obtain ⟨r2, r3, r4, r5, r6, r7, r8, r9, rs, rn, r12, rb, h, b1, b2⟩ := good_l0 a0 a1 a2 a3 a4 a5 a6 a7 a8 a9 s ns a12 bs t0 (arF a1 65536) (arF a2 4294967296) (arF a3 4294967296) (arF a4 65536) (arF a5 4294967296) (arF a6 256) (arF a7 4294967296) (arF a8 4611686018427387905) (arF a9 4294967296) ts (wrap64 (arF a12 4294967296 - 1)) 100 0 [] (by omega) (by omega) rfl
  exact ⟨t0, r2, r3, r4, r5, r6, r7, r8, r9, rs, rn, r12, rb, h, b1, b2⟩

end Go.Proofs.Ytenhnkldhodegaa.R
