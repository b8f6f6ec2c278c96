-- Turned from a text that the print wrote; the walk is by hand.
import Derived.Test.YtbjmgmngomlmfaaRows
import Derived.Test.YtbjmgmngomlmfaaT24
import Derived.WalkKit
import Derived.ProofKit
import Derived.OpenShut
import Derived.ShutString
import Derived.ChangeOld
import Derived.Below
import Derived.SizedLaws
import Derived.Deep.Grids
import Derived.Deep.Slices
namespace Go.Proofs.Ytbjmgmngomlmfaa.inodePlays
open Go.ChangeShapes Go.WideShapes Go.ChangeAt Go.RowKit
open Go.ChangeMaps (open_string shut_string)
set_option linter.unusedVariables false
theorem laidOut : laidOutB Try.prog = true := by kernel_rfl
theorem spot_none {w : World} {a : Addr} {v : Value} (h : w.cell? a = some v) : a.spot = none := by
  unfold World.cell? at h
  split at h
  · split at h
    · cases h
    · rename_i hs; simpa using hs
  · cases h
theorem own : ownKnob Try.prog.godebug = none := by kernel_rfl
set_option maxRecDepth 100000 in
/-- What is done, one after the other: each four whole numbers. -/
theorem open_os {H : Type} {enc : TypeId × Value → H} {W : World} {base : Nat} {d : DataW H} {p : List MemPlace} {A : Option Addr} {l cap : Nat} (h : DataW.Trod enc Try.prog W base (fun _ => true) true 45 (.slice A l cap) d p) :
    ∃ (len : Nat) (os : Nat → Int × Int × Int × Int), ((∃ A' cap', Value.slice A l cap = .slice A' 0 cap') ∧ len = 0) ∨ ∃ blk off cap', Value.slice A l cap = .slice (some ⟨blk, off, none⟩) len cap' ∧ len ≤ 9223372036854775807 ∧ blk < W.heap.size ∧ ∀ i, i < len → (-9223372036854775808 ≤ (os i).1 ∧ (os i).1 ≤ 9223372036854775807) ∧ (-9223372036854775808 ≤ (os i).2.1 ∧ (os i).2.1 ≤ 9223372036854775807) ∧
      W.cell? ⟨blk, off + i * 4, none⟩ = some (.int .i64 (os i).1) ∧ W.cell? ⟨blk, off + i * 4 + 1, none⟩ = some (.int .i64 (os i).2.1) ∧ W.cell? ⟨blk, off + i * 4 + 2, none⟩ = some (.int .i64 (os i).2.2.1) ∧ W.cell? ⟨blk, off + i * 4 + 3, none⟩ = some (.int .i64 (os i).2.2.2) := by
  obtain ⟨fuel, hf⟩ := h
  have hC : Try.prog.cellsOf 50 = 4 := by kernel_rfl
  rcases Go.Deep.open_slice Try.underlying45 hf with ⟨hcs, _⟩ | ⟨x, n, c, m, fu, D, Pl, hcs, _, hl, hm, hmm, _, hcell⟩
  · simp [Value.cells] at hcs
    obtain ⟨rfl, rfl, rfl⟩ := hcs
    exact ⟨0, fun _ => (0, 0, 0, 0), .inl ⟨⟨_, _, rfl⟩, rfl⟩⟩
  · simp [Value.cells] at hcs
    obtain ⟨rfl, rfl, rfl⟩ := hcs
    simp only [if_true] at hmm
    by_cases h0 : l = 0
    · subst h0
      exact ⟨0, fun _ => (0, 0, 0, 0), .inl ⟨⟨_, _, rfl⟩, rfl⟩⟩
    · have each : ∀ i, i < l → ∃ o : Int × Int × Int × Int, ((Lit.int .i64 o.1).wf = true ∧ (Lit.int .i64 o.2.1).wf = true) ∧ W.cell? ((x.add (i * 4)).add 0) = some (.int .i64 o.1) ∧ W.cell? ((x.add (i * 4)).add 1) = some (.int .i64 o.2.1) ∧ W.cell? ((x.add (i * 4)).add 2) = some (.int .i64 o.2.2.1) ∧ W.cell? ((x.add (i * 4)).add 3) = some (.int .i64 o.2.2.2) := by
        intro i hi
        obtain ⟨cs', hc, ht'⟩ := hcell i (by omega)
        rw [hC] at hc
        obtain ⟨_, hcl, hat⟩ := World.cells?_some hc
        obtain ⟨ys, n', _, _, _, hyl, hfl⟩ := DataW.trod_struct Try.underlying50 ht'
        have hyl' : ys.length = 3 := hyl
        clear hyl ht'
        match cs', hcl, ys, hyl' with
        | [c0, c1, c2, c3], _, [y0, y1, y2], _ =>
          have f0 := hfl 0 _ rfl
          have f1 := hfl 1 _ rfl
          have f2 := hfl 2 _ rfl
          simp only [List.getElem?_cons_zero, List.getElem?_cons_succ] at f0 f1 f2
          obtain ⟨n0, e0, -, g0⟩ := DataW.trod_int Try.underlying3 f0
          obtain ⟨n1, e1, -, g1⟩ := DataW.trod_int Try.underlying3 f1
          obtain ⟨zs, n'', _, _, _, hzl, hgl⟩ := DataW.trod_struct Try.underlying29 f2
          have hzl' : zs.length = 2 := hzl
          clear hzl
          match zs, hzl' with
          | [z0, z1], _ =>
            have s0 := hgl 0 _ rfl
            have s1 := hgl 1 _ rfl
            simp only [List.getElem?_cons_zero, List.getElem?_cons_succ] at s0 s1
            obtain ⟨n2, e2, -, -⟩ := DataW.trod_int Try.underlying3 s0
            obtain ⟨n3, e3, -, -⟩ := DataW.trod_int Try.underlying3 s1
            injection e0 with e0 _
            injection e1 with e1 _
            injection e2 with e2 _
            injection e3 with e3 _
            subst e0 e1 e2 e3
            exact ⟨(n0, n1, n2, n3), ⟨g0, g1⟩, hat 0 (by omega), hat 1 (by omega), hat 2 (by omega), hat 3 (by omega)⟩
      obtain ⟨os, hos⟩ := Go.Deep.choose_lt each
      have hc0 := (hos 0 (by omega)).2.1
      have hs : x.spot = none := spot_none (by simpa [Addr.add] using hc0)
      obtain ⟨blk, off, sp⟩ := x
      simp only at hs
      subst hs
      refine ⟨l, os, .inr ⟨blk, off, _, rfl, by unfold maxLen at hm; omega, ?_, fun i hi => ?_⟩⟩
      · have := World.block_lt_of_cell? W _ hc0
        simpa [Addr.add] using this
      · obtain ⟨⟨g0, g1⟩, k0, k1, k2, k3⟩ := hos i hi
        rw [Addr.add_lit, Addr.add_lit] at k0 k1 k2 k3
        exact ⟨R.wf_i64 g0, R.wf_i64 g1, by simpa using k0, k1, k2, k3⟩
set_option maxRecDepth 100000 in
theorem lifted (os : Os) (started : os.Started) (H : Type) (enc : TypeId × Value → H) :
    ReturnsInHanded {} Try.checked os 5 .any (Rows.inodePlaysSpec.pre6 enc Try.prog Try.f5 Rows.inodePlaysRow.domain false) (Rows.inodePlaysSpec.post enc Try.prog Try.f5 false true false false) := by
  refine returnsInHanded_of_change_sized (C := Try.checked) own started (by kernel_rfl) Try.func5
    (ChangeSpec.witness6 (enc := enc) (C := Try.checked) false ⟨#[], #[.int .i64 0, .slice none 0 0], []⟩ 8 (by kernel_rfl) (by kernel_rfl) (by kernel_rfl) (by kernel_rfl)) ?_
  intro W base args ds gs before hval0 hW hcnd hsz0 _
  have hsz : (DataW.weightsEach Try.prog (Try.f5.params.toList ++ Rows.inodePlaysSpec.plain.varTypes Try.prog) (ds ++ gs)).all (· ≤ reachBytes) = true := hsz0
  have hval : ∀ (j : Nat) t v, Try.f5.params[j]? = some t → args[j]? = some v → Value.okWide Try.prog W .any base t v := hval0
  have hW' := hW
  obtain ⟨p, q, hA0, hV, rfl, hfz, hnd⟩ := hW
  have hA : DataW.TrodAll enc Try.prog W 0 (fun _ => true) true Try.f5.params.toList args.toList ds p := hA0
  rw [Try.params5] at hA hval hsz
  obtain ⟨v0, vs0, d0, ds0, p0, q0, hargs, rfl, rfl, h0, r0⟩ := trodAll_cons hA
  obtain ⟨v1, vs1, d1, ds1, p1, q1, rfl, rfl, rfl, h1, r1⟩ := trodAll_cons r0
  obtain ⟨rfl, rfl, rfl⟩ := trodAll_nil r1
  obtain rfl : args = #[v0, v1] := by cases args; simp_all
  obtain ⟨rfl, rfl⟩ := trodVars_none hV
  obtain ⟨a0, rfl, rfl, rfl, w0⟩ := open_int Try.underlying3 (hval 0 3 v0 rfl rfl) h0
  obtain ⟨A1, l1, cap1, rfl⟩ := okWide_slice Try.underlying45 (hval 1 45 v1 rfl rfl)
  have k1 := h1
  have lt1 : ∀ x ∈ p1, x.block < W.heap.size := by obtain ⟨m, hm⟩ := k1; exact DataW.trod_lt m _ _ _ hm
  obtain ⟨len, os, H2⟩ := open_os h1
  clear hA0 hval0 hsz0 hsz
  refine (R.InodePlays.walk a0 _ len os W (R.wf_i64 w0) H2).mono fun e W' ⟨he, bel⟩ => ?_
  subst he
  exact ⟨_, rfl, _, _, _, [], _, [], hW', trodAll_mk1 (shut_bool Try.underlying4 _), (trodAll_cons_mk (shut_int Try.underlying3 w0) (trodAll_cons_mk (Below.trod laidOut (by kernel_rfl) (of_decide_eq_true (by kernel_rfl)) k1 bel lt1) trodAll_mk0)), rfl, bel.frame _, fun h => by cases h⟩
theorem over : Rows.inodePlaysRow.holds Try.pinned (OpenSpec.ofChange Rows.inodePlaysSpec) :=
  OpenClaim.holds_of_wide 5 Try.f5 rfl rfl rfl rfl rfl rfl rfl ⟨rfl, rfl, rfl, rfl, rfl⟩ rfl rfl rfl rfl rfl (by kernel_rfl) Try.func5 (by kernel_rfl)
    (of_decide_eq_true (by kernel_rfl)) (by unfold Func.isWrapper; first | (rw [if_pos (by decide +kernel)]; kernel_rfl) | (rw [if_neg (by decide +kernel)]; exact ⟨rfl, rfl⟩))
    (fun os started H enc _ => lifted os started H enc)
theorem proved : Rows.InodePlaysSaid := over
#print axioms proved
end Go.Proofs.Ytbjmgmngomlmfaa.inodePlays
namespace Go.Proofs.Ytbjmgmngomlmfaa
/-- The row, under a short name, for the claim. -/
theorem inodePlays_holds : Rows.InodePlaysSaid := inodePlays.proved
end Go.Proofs.Ytbjmgmngomlmfaa
