import Derived.Test.YtenhnkldhodegaaT22
import Derived.Outline
import Derived.Shelf.Abstract
import Derived.Deep.LoopGhost
import Derived.Deep.Draws
import Derived.Laws.EntriesVeiled
import Derived.Laws.ResultCell
import Derived.Laws.Rows
import Derived.Deep.QuietTactic
import Derived.Deep.RegionWith
import Derived.BigQuiet
import Derived.Deep.MidRow
import Derived.Deep.Strs
import Derived.Deep.Slices
import Derived.ChangeSlices
namespace Go.Proofs.Ytenhnkldhodegaa.R
open Go.RowKit Go.Proofs.YtenhnkldhodegaaW.PrintWords Go.Proofs.YtenhnkldhodegaaW.PrintLast Go.Proofs.YtenhnkldhodegaaW.PrintMore
attribute [local go_sem] max2_int min2_int max_two min_two max_three min_three max_four min_four   -- for this text's walks alone
set_option linter.unusedVariables false
set_option linter.unusedSimpArgs false
section
open Go.ChangeShapes Go.WideShapes
variable {H : Type} {enc : TypeId × Value → H} {W : World} {base : Nat} {sp : Nat → Bool} {fuel : Nat}
/-- A row of texts, opened. -/
theorem open_names {cs : List Value} {x : DataW H × List MemPlace} (h : DataW.trod enc Try.prog W base sp true fuel 29 cs = some x) :
    ∃ (A : Option Addr) (c : Nat) (ns : List ByteArray), cs = [.slice A ns.length c] ∧ Kd.C Kd.string W A ns.length ns ∧ ns.length ≤ c := by
  rcases Go.Deep.open_strs Try.underlying29 Try.underlying9 (by kernel_rfl) h with ⟨hcs, _⟩ | ⟨a, len, cap, m, Sx, hcs, _, hl, hm, hmm, _, hcell⟩
  · exact ⟨none, 0, [], hcs, ⟨rfl, by simp, fun h0 => absurd h0 (by simp)⟩, by simp⟩
  · have hlm : len ≤ m := by rw [hmm]; split <;> omega
    have hb : len ≤ 9223372036854775807 := by unfold maxLen at hm; omega
    refine ⟨some a, cap, (List.range len).map Sx, by simpa using hcs, ⟨rfl, by simpa using hb, fun _ => ⟨a, rfl, fun j p hj => ?_⟩⟩, by simpa using hl⟩
    have hj1 : j < len := by
      have := (List.getElem?_eq_some_iff.1 hj).1
      simpa using this
    have hp : Sx j = p := by simpa [hj1] using hj
    subst hp
    refine ⟨[.string (Sx j)], rfl, rfl, fun i u hu => ?_⟩
    have hi : i < 1 := by simpa using (List.getElem?_eq_some_iff.1 hu).1
    obtain rfl : i = 0 := by omega
    have hu' : Value.string (Sx j) = u := by simpa using hu
    subst hu'
    simpa [Kd.string, Kd.scalar] using (hcell j (by omega)).1
/-- A row of bytes, opened. -/
theorem open_bytes {cs : List Value} {x : DataW H × List MemPlace} (h : DataW.trod enc Try.prog W base sp true fuel 30 cs = some x) :
    ∃ (A : Option Addr) (c : Nat) (bs : List Int), cs = [.slice A bs.length c] ∧ Kd.C (Kd.int .u8) W A bs.length bs ∧ bs.length ≤ c := by
  rcases open_ints Try.underlying30 Try.underlying5 (by kernel_rfl) h with ⟨hcs, _⟩ | ⟨a, len, cap, zs, hcs, _, hl, hm, hz, _, hcell, _⟩
  · exact ⟨none, 0, [], hcs, ⟨rfl, by simp, fun h0 => absurd h0 (by simp)⟩, by simp⟩
  · have hlz : len ≤ zs.length := by rw [hz]; split <;> omega
    have hb : len ≤ 9223372036854775807 := by unfold maxLen at hm; omega
    have e1 : (zs.take len).length = len := by simp; omega
    refine ⟨some a, cap, zs.take len, by rw [e1]; exact hcs, ⟨rfl, by rw [e1]; exact hb, fun _ => ⟨a, rfl, fun j p hj => ?_⟩⟩, by rw [e1]; exact hl⟩
    have hj1 : j < len := by
      have := (List.getElem?_eq_some_iff.1 hj).1
      omega
    have hp : zs.getD j 0 = p := by
      have hj2 : j < zs.length := by omega
      simp [List.getElem?_take, hj1, hj2] at hj
      simp [List.getD, hj2, hj]
    subst hp
    refine ⟨[.int .u8 (zs.getD j 0)], rfl, rfl, fun i u hu => ?_⟩
    have hi : i < 1 := by simpa using (List.getElem?_eq_some_iff.1 hu).1
    obtain rfl : i = 0 := by omega
    have hu' : Value.int .u8 (zs.getD j 0) = u := by simpa using hu
    subst hu'
    simpa [Kd.int, Kd.scalar] using hcell j (by omega)
set_option maxRecDepth 100000 in
/-- A request, opened. -/
theorem open_ask {cs : List Value} {x : DataW H × List MemPlace} (h : DataW.trod enc Try.prog W base sp true fuel 32 cs = some x) :
    ∃ (a0 a1 a2 a3 a4 a5 a6 a7 a8 a9 : Int) (s : ByteArray) (A : Option Addr) (c : Nat) (ns : List ByteArray) (a12 : Int) (D : Option Addr) (d : Nat) (bs : List Int), cs = [.int .i64 a0, .int .i64 a1, .int .i64 a2, .int .i64 a3, .int .i64 a4, .int .i64 a5, .int .i64 a6, .int .i64 a7, .int .i64 a8, .int .i64 a9, .string s, .slice A ns.length c, .int .i64 a12, .slice D bs.length d] ∧
      (i64 a0 ∧ i64 a1 ∧ i64 a2 ∧ i64 a3 ∧ i64 a4 ∧ i64 a5 ∧ i64 a6 ∧ i64 a7 ∧ i64 a8 ∧ i64 a9 ∧ i64 a12) ∧ Kd.C Kd.string W A ns.length ns ∧ ns.length ≤ c ∧ Kd.C (Kd.int .u8) W D bs.length bs ∧ bs.length ≤ d := by
  obtain ⟨ys, n', _, _, hcl0, hyl, hfl⟩ := DataW.trod_struct Try.underlying32 h
  have hC : Try.prog.cellsOf 32 = 14 := by kernel_rfl
  have hcl : cs.length = 14 := hcl0.trans hC
  have hyl' : ys.length = 14 := hyl
  clear hyl hcl0 h
  match cs, hcl, ys, hyl' with
  | [c0, c1, c2, c3, c4, c5, c6, c7, c8, c9, c10, c11, c12, c13], _, [y0, y1, y2, y3, y4, y5, y6, y7, y8, y9, y10, y11, y12, y13], _ =>
    have f0 := hfl 0 _ rfl
    have f1 := hfl 1 _ rfl
    have f2 := hfl 2 _ rfl
    have f3 := hfl 3 _ rfl
    have f4 := hfl 4 _ rfl
    have f5 := hfl 5 _ rfl
    have f6 := hfl 6 _ rfl
    have f7 := hfl 7 _ rfl
    have f8 := hfl 8 _ rfl
    have f9 := hfl 9 _ rfl
    have f10 := hfl 10 _ rfl
    have f11 := hfl 11 _ rfl
    have f12 := hfl 12 _ rfl
    have f13 := hfl 13 _ rfl
    simp only [List.getElem?_cons_zero, List.getElem?_cons_succ] at f0 f1 f2 f3 f4 f5 f6 f7 f8 f9 f10 f11 f12 f13
    obtain ⟨n0, e0, -, g0⟩ := DataW.trod_int Try.underlying3 f0
    injection e0 with e0 _
    obtain ⟨n1, e1, -, g1⟩ := DataW.trod_int Try.underlying3 f1
    injection e1 with e1 _
    obtain ⟨n2, e2, -, g2⟩ := DataW.trod_int Try.underlying3 f2
    injection e2 with e2 _
    obtain ⟨n3, e3, -, g3⟩ := DataW.trod_int Try.underlying3 f3
    injection e3 with e3 _
    obtain ⟨n4, e4, -, g4⟩ := DataW.trod_int Try.underlying3 f4
    injection e4 with e4 _
    obtain ⟨n5, e5, -, g5⟩ := DataW.trod_int Try.underlying3 f5
    injection e5 with e5 _
    obtain ⟨n6, e6, -, g6⟩ := DataW.trod_int Try.underlying3 f6
    injection e6 with e6 _
    obtain ⟨n7, e7, -, g7⟩ := DataW.trod_int Try.underlying3 f7
    injection e7 with e7 _
    obtain ⟨n8, e8, -, g8⟩ := DataW.trod_int Try.underlying3 f8
    injection e8 with e8 _
    obtain ⟨n9, e9, -, g9⟩ := DataW.trod_int Try.underlying3 f9
    injection e9 with e9 _
    obtain ⟨n12, e12, -, g12⟩ := DataW.trod_int Try.underlying3 f12
    injection e12 with e12 _
    obtain ⟨s, e10, -, -⟩ := DataW.trod_string Try.underlying9 f10
    injection e10 with e10 _
    obtain ⟨A, c, ns, e11, hN, hc⟩ := open_names f11
    injection e11 with e11 _
    obtain ⟨D, d, bs, e13, hD, hd⟩ := open_bytes f13
    injection e13 with e13 _
    exact ⟨n0, n1, n2, n3, n4, n5, n6, n7, n8, n9, s, A, c, ns, n12, D, d, bs, by rw [e0, e1, e2, e3, e4, e5, e6, e7, e8, e9, e10, e11, e12, e13], ⟨R.wf_i64 g0, R.wf_i64 g1, R.wf_i64 g2, R.wf_i64 g3, R.wf_i64 g4, R.wf_i64 g5, R.wf_i64 g6, R.wf_i64 g7, R.wf_i64 g8, R.wf_i64 g9, R.wf_i64 g12⟩, hN, hc, hD, hd⟩
end

end Go.Proofs.Ytenhnkldhodegaa.R
