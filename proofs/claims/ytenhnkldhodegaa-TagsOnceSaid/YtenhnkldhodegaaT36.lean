import Derived.Test.YtenhnkldhodegaaT34
import Derived.Outline
import Derived.Shelf.Abstract
import Derived.Deep.LoopGhost
import Derived.Deep.Draws
import Derived.Laws.EntriesVeiled
import Derived.Laws.ResultCell
import Derived.Laws.Rows
import Derived.Deep.QuietTactic
import Derived.Deep.RegionWith
import Derived.BigQuiet
import Derived.Deep.MidRow
import Derived.Laws.Tables
import Derived.Deep.WholeRow
import Derived.Lib.SliceRun
import Derived.LaidEql
import Derived.RowKitTokens
import Derived.Stop.Asserts
import Derived.Laws.CopyRow
import Derived.Lib.BufferRead
import Derived.Lib.SlBytesRow
import Derived.Test.YtenhnkldhodegaaGd0
import Derived.Test.YtenhnkldhodegaaGd1
import Derived.Deep.Slices
import Derived.Deep.Strs
import Derived.ChangeSlices
import Derived.Test.YtenhnkldhodegaaT35
namespace Go.Proofs.Ytenhnkldhodegaa.R
open Go.RowKit Go.Proofs.YtenhnkldhodegaaW.PrintWords Go.Proofs.YtenhnkldhodegaaW.PrintLast Go.Proofs.YtenhnkldhodegaaW.PrintMore
attribute [local go_sem] max2_int min2_int max_two min_two max_three min_three max_four min_four   -- for this text's walks alone
set_option linter.unusedVariables false
set_option linter.unusedSimpArgs false
theorem TagsOnce.walk (A0 : Option Addr) (c0 : Nat) (l0 : List S32) (A1 : Option Addr) (c1 : Nat) (l1 : List Int) (w : World) (hr0 : Kd.C k32 w A0 l0.length l0) (hi0 : ∀ q ∈ l0, I64 q) (hr1 : Kd.C (Kd.int .i64) w A1 l1.length l1) (hi1 : ∀ x ∈ l1, i64 x) :
    Calls Try.prog 5 #[.slice A0 l0.length c0, .slice A1 l1.length c1] w fun e w' => e = .returned (.bool true) ∧ Below w.heap.size w w' := by
  by_cases h : l0.length ≤ 8
  · exact TagsOnce.walk_short A0 c0 l0 A1 c1 l1 w hr0 hi0 hr1 hi1 h
  · exact TagsOnce.walk_long A0 c0 l0 A1 c1 l1 w hr0 hi0 hr1 hi1 (by omega)
section
open Go.ChangeShapes Go.WideShapes
variable {H : Type} {enc : TypeId × Value → H} {W : World} {base : Nat} {sp : Nat → Bool} {fuel : Nat}
/-- A row of numbers, opened. -/
theorem open_nums {cs : List Value} {x : DataW H × List MemPlace} (h : DataW.trod enc Try.prog W base sp true fuel 23 cs = some x) :
    ∃ (A : Option Addr) (c : Nat) (bs : List Int), cs = [.slice A bs.length c] ∧ Kd.C (Kd.int .i64) W A bs.length bs ∧ ∀ a ∈ bs, i64 a := by
  rcases open_ints Try.underlying23 Try.underlying3 (by kernel_rfl) h with ⟨hcs, _⟩ | ⟨a, len, cap, zs, hcs, _, hl, hm, hz, _, hcell, hwz⟩
  · exact ⟨none, 0, [], hcs, ⟨rfl, by simp, fun h0 => absurd h0 (by simp)⟩, by simp⟩
  · have hlz : len ≤ zs.length := by rw [hz]; split <;> omega
    have hb : len ≤ 9223372036854775807 := by unfold maxLen at hm; omega
    have e1 : (zs.take len).length = len := by simp; omega
    refine ⟨some a, cap, zs.take len, by rw [e1]; exact hcs, ⟨rfl, by rw [e1]; exact hb, fun _ => ⟨a, rfl, fun j p hj => ?_⟩⟩, fun z hz' => wf_i64 (hwz z (List.mem_of_mem_take hz'))⟩
    have hj1 : j < len := by
      have := (List.getElem?_eq_some_iff.1 hj).1
      omega
    have hp : zs.getD j 0 = p := by
      have hj2 : j < zs.length := by omega
      simp [List.getElem?_take, hj1, hj2] at hj
      simp [List.getD, hj2, hj]
    subst hp
    refine ⟨[.int .i64 (zs.getD j 0)], rfl, rfl, fun i u hu => ?_⟩
    have hi : i < 1 := by simpa using (List.getElem?_eq_some_iff.1 hu).1
    obtain rfl : i = 0 := by omega
    have hu' : Value.int .i64 (zs.getD j 0) = u := by simpa using hu
    subst hu'
    simpa [Kd.int, Kd.scalar] using hcell j (by omega)
/-- A row of requests, opened. -/
theorem open_asks {cs : List Value} {x : DataW H × List MemPlace} (h : DataW.trod enc Try.prog W base sp true fuel 40 cs = some x) :
    ∃ (A : Option Addr) (c : Nat) (l : List S32), cs = [.slice A l.length c] ∧ Kd.C k32 W A l.length l ∧ ∀ q ∈ l, I64 q := by
  rcases Go.Deep.open_slice Try.underlying40 h with ⟨hcs, _⟩ | ⟨a, len, cap, m, fu, D, Pl, hcs, _, hl, hm, hmm, _, hcell⟩
  · exact ⟨none, 0, [], hcs, ⟨rfl, by simp, fun h0 => absurd h0 (by simp)⟩, by simp⟩
  · have hlm : len ≤ m := by rw [hmm]; split <;> omega
    have hb : len ≤ 9223372036854775807 := by unfold maxLen at hm; omega
    have hC : Try.prog.cellsOf 32 = 14 := by kernel_rfl
    have each : ∀ i, i < len → ∃ q : S32, I64 q ∧ ∃ c, c.length = 14 ∧ k32.K W q c ∧ ∀ j u, c[j]? = some u → W.cell? (a.add (i * 14 + j)) = some u := by
      intro i hi
      obtain ⟨cs', hc, ht'⟩ := hcell i (by omega)
      rw [hC] at hc
      obtain ⟨_, hcl, hat⟩ := World.cells?_some hc
      obtain ⟨a0, a1, a2, a3, a4, a5, a6, a7, a8, a9, s, A, c, ns, a12, D, d, bs, e, hI, hN, hn, hB, hd⟩ := open_ask ht'
      refine ⟨⟨a0, a1, a2, a3, a4, a5, a6, a7, a8, a9, s, ns, a12, bs⟩, hI, cs', hcl, ?_, fun j u hu => ?_⟩
      · rw [e]
        exact k32_mk W ⟨a0, a1, a2, a3, a4, a5, a6, a7, a8, a9, s, ns, a12, bs⟩ hn hN hd hB
      · have hj := (List.getElem?_eq_some_iff.1 hu).1
        rw [← Go.Deep.add_add, hat j (by omega)]
        exact hu
    haveI : Inhabited S32 := ⟨z32⟩
    obtain ⟨Q, hQ⟩ := Go.Deep.choose_lt each
    refine ⟨some a, cap, (List.range len).map Q, by simpa using hcs, ⟨rfl, by simpa using hb, fun _ => ⟨a, rfl, fun j p hj => ?_⟩⟩, fun q hq => ?_⟩
    · have hj1 : j < len := by
        have := (List.getElem?_eq_some_iff.1 hj).1
        simpa using this
      have hp : Q j = p := by simpa [hj1] using hj
      subst hp
      obtain ⟨c, h1, h2, h3⟩ := (hQ j hj1).2
      exact ⟨c, h1, h2, h3⟩
    · obtain ⟨i, hi, rfl⟩ := List.mem_map.1 hq
      exact (hQ i (List.mem_range.1 hi)).1
end

end Go.Proofs.Ytenhnkldhodegaa.R
