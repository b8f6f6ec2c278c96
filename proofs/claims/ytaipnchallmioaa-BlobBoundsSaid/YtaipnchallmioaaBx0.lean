-- Printed for Ytaipnchallmioaa by hprint.py, a program of this session over the kit's print.py, some functions taken from texts by hand.
import Derived.Test.YtaipnchallmioaaProg
import Derived.Below
import Derived.Deep.Draws
import Derived.Deep.AppendLies
import Derived.Maps.AppendAt
import Derived.OwnWalk
import Derived.Laws.BytesArg
import Derived.Laws.MakeOwn
import Derived.Laws.OwnMore
import Derived.Deep.OwnRows
import Derived.Tactics
import Derived.Lib.ConvBytes
import Derived.Laws.Slices
import Derived.WalkKit
import Derived.KernelRfl
import Derived.RowKit3
import Derived.Deep.LoopGhost
import Derived.Deep.QuietTactic
import Derived.BigQuiet
import Derived.WideLaws
import Derived.Deep.DeepCutAuto
import Derived.Deep.CutBlock
import Derived.Deep.RegionHeld3
import Derived.Laws.Rows
import Derived.Lib.AppendStr
import Derived.ArgAppend
import Derived.Laws.IdiomCopy
import Derived.OrdersHeld
import Derived.Laws.BitsLemmas
import Derived.RowKit
import Derived.Laws.CopyOwn
import Derived.Lib.SliceRun
import Derived.Lib.SlBytesConst
import Derived.Laws.IdiomStrings
import Derived.Test.YtaipnchallmioaaWWords
import Derived.Test.YtaipnchallmioaaWLast
import Derived.Test.YtaipnchallmioaaWTab
import Derived.Test.YtaipnchallmioaaWFour
import Derived.Test.YtaipnchallmioaaWQPut
import Derived.Test.YtaipnchallmioaaWApart
import Derived.Test.YtaipnchallmioaaWArr
import Derived.Test.YtaipnchallmioaaWZeros
import Derived.Test.YtaipnchallmioaaWFoot
import Derived.Test.YtaipnchallmioaaWKept
import Derived.Test.YtaipnchallmioaaWShare
import Derived.Test.YtaipnchallmioaaWN
import Derived.Test.YtaipnchallmioaaWFootNe
import Derived.Test.YtaipnchallmioaaWAt
import Derived.Test.YtaipnchallmioaaWEqStruct
import Derived.Test.YtaipnchallmioaaWRepsOne
import Derived.Test.YtaipnchallmioaaWInv
import Derived.Test.YtaipnchallmioaaWInvWords
import Derived.Test.YtaipnchallmioaaWGuard
import Derived.Test.YtaipnchallmioaaWNEv
import Derived.Test.YtaipnchallmioaaWMore
namespace Go.Proofs.Ytaipnchallmioaa.B
open Go.RowKit Go.Proofs.YtaipnchallmioaaW.PrintWords Go.Proofs.YtaipnchallmioaaW.PrintLast Go.Proofs.YtaipnchallmioaaW.PrintMore
attribute [local go_sem] max2_int min2_int max_two min_two max_three min_three max_four min_four   -- for this text's walks alone
set_option linter.unusedVariables false
set_option linter.unusedSimpArgs false



def errW : Option Int → Value
  | none => .nilIface
  | some c => .iface 0 (.int .i64 c)
theorem errW_none : errW none = .nilIface := rfl
theorem errW_some (c : Int) : errW (some c) = .iface 0 (.int .i64 c) := rfl

theorem info3 : (Try.prog.info? 3).map (fun i => (i.zero, i.size, i.bytes)) = some (some (.int .i64 0), 1, 8) := by kernel_rfl
theorem info5 : (Try.prog.info? 5).map (fun i => (i.zero, i.size, i.bytes)) = some (some (.int .u8 0), 1, 1) := by kernel_rfl
-- the values' own types
def rd_L1 (xs : List (List Int)) (i : Int) : (List Int) := xs.getD i.toNat ([] : List Int)
theorem at_L1 {w : World} {A : Option Addr} {n : Nat} {xs : List (List Int)} (h : Kd.C (Kd.slice 5 (Kd.int .u8)) w A n xs) (i : Int) (h0 : 0 ≤ i) (h1 : i < n) : ∃ ad A0 c0, A = some ad ∧ w.cell? (ad.add i.toNat) = some (.slice A0 (rd_L1 xs i).length c0) ∧ (rd_L1 xs i).length ≤ c0 ∧ (Kd.int .u8).C w A0 (rd_L1 xs i).length (rd_L1 xs i) := by
  obtain ⟨ad, c, e, _, hK, hc0⟩ := Kd.C_get h ([] : List Int) i h0 h1
  have hc : ∀ j u, c[j]? = some u → w.cell? (ad.add (i.toNat * 1 + j)) = some u := hc0
  obtain ⟨A0, c0, rfl, l0, g0⟩ := hK
  exact ⟨ad, A0, c0, e, by have hq := hc 0 _ rfl; rwa [Nat.mul_one, Nat.add_zero] at hq, l0, g0⟩

theorem at_len {α : Type} {R : α → List Value → Prop} {size : Nat} {w : World} {A : Option Addr} {n m : Nat} {ps : List α} (h : ReadsRow R size w A n ps) (e : n = m) : ReadsRow R size w A m ps := e ▸ h

/-! A row that '[]byte(s)' made (it bears the run-time's mark one place behind its last cell), appended to and stored into. -/
def OwnM (w : World) (base : Nat) (v : Value) (xs : List Int) : Prop :=
  ∃ g cap cur fr, v = .slice (some ⟨g, 0, none⟩) xs.length cap ∧ base ≤ g ∧ w.heap[g]? = some (.cells cur 5 fr) ∧ xs.length ≤ cap ∧ cap ≤ maxLen ∧ cur.size = cap ∧ cur.toList.take xs.length = nums .u8 xs ∧ (fr = (0, 0) ∨ fr = (cap, cap + 1))
theorem OwnM.below {w w1 : World} {base : Nat} {v : Value} {xs : List Int} (h : OwnM w base v xs) (hb : Below w.heap.size w w1) : OwnM w1 base v xs := by
  obtain ⟨g, cap, cur, fr, rfl, hg, hh, r⟩ := h
  exact ⟨g, cap, cur, fr, rfl, hg, (hb.block g (Array.getElem?_eq_some_iff.1 hh).1).trans hh, r⟩
theorem OwnM.cell {w : World} {base : Nat} {g n cap : Nat} {xs : List Int} (h : OwnM w base (.slice (some ⟨g, 0, none⟩) n cap) xs) (j : Nat) (hj : j < xs.length) : w.cell? ⟨g, j, none⟩ = some (.int .u8 (xs.getD j 0)) ∧ w.frozen? ⟨g, j, none⟩ = false := by
  obtain ⟨g', cap', cur, fr, he, hg, hh, h1, h2, h3, h4, h5⟩ := h
  injection he with he1 he2 he3
  injection he1 with he1; injection he1 with he1
  subst he1; subst he2; subst he3
  constructor
  · rw [cell_of_row _ _ _ _ _ _ hh]
    have h6 : (cur.toList.take xs.length)[j]? = (nums .u8 xs)[j]? := by rw [h4]
    rw [List.getElem?_take, if_pos hj] at h6
    simp only [Array.getElem?_toList] at h6
    rw [h6]
    simp [nums, List.getElem?_eq_getElem hj, List.getD_eq_getElem?_getD]
  · rcases h5 with rfl | rfl
    · simp [World.frozen?, hh]
    · simp only [World.frozen?, hh, Bool.and_eq_false_iff, decide_eq_false_iff_not]
      left; omega
theorem OwnM.reads {w : World} {base : Nat} {v : Value} {xs : List Int} (h : OwnM w base v xs) : ∃ g cap, v = .slice (some ⟨g, 0, none⟩) xs.length cap ∧ base ≤ g ∧ xs.length ≤ cap ∧ xs.length ≤ 9223372036854775807 ∧ g < w.heap.size := by
  obtain ⟨g, cap, cur, fr, rfl, hg, hh, h1, h2, _⟩ := h
  exact ⟨g, cap, rfl, hg, h1, by simp only [maxLen] at h2; omega, (Array.getElem?_eq_some_iff.1 hh).1⟩
theorem OwnM.set {w : World} {base : Nat} {g n cap : Nat} {xs : List Int} (h : OwnM w base (.slice (some ⟨g, 0, none⟩) n cap) xs) (j : Nat) (x : Int) (hj : j < xs.length) :
    OwnM (w.setCell ⟨g, j, none⟩ (.int .u8 x)) base (.slice (some ⟨g, 0, none⟩) n cap) (xs.set j x) := by
  obtain ⟨g', cap', cur, fr, he, hg, hh, h1, h2, h3, h4, h5⟩ := h
  injection he with he1 he2 he3
  injection he1 with he1; injection he1 with he1
  subst he1; subst he2; subst he3
  refine ⟨g, cap, cur.setIfInBounds j (.int .u8 x), fr, by rw [List.length_set], hg, ?_, by rw [List.length_set]; exact h1, h2, by simp [h3], ?_, h5⟩
  · rw [setCell_eq_setRow w g j cur _ fr _ hh]; exact setRow_heap w g cur _ _ fr hh
  · rw [List.length_set, Array.toList_setIfInBounds, List.take_set, h4]; simp [nums, List.map_set]
theorem OwnM.string {P : Program} {w : World} {base : Nat} {src dst : TypeId} {v : Value} {xs : List Int} (hs : P.underlying src = some (.slice 5)) (he : P.underlying 5 = some (.int .u8)) (hd : P.underlying dst = some .string)
    (h : OwnM w base v xs) (n : Nat) (hn : n ≤ xs.length) (g cap : Nat) (hv : v = .slice (some ⟨g, 0, none⟩) xs.length cap) : (convert src dst (.slice (some ⟨g, 0, none⟩) n cap)).run P w = .ok (.string (strOfNums (xs.take n))) w := by
  subst hv
  have hl : (xs.take n).length = n := by rw [List.length_take]; omega
  refine run_convert_bytes_arg w src 5 hs he g 0 n cap (xs.take n) hl (fun i hi => ?_) dst hd
  have := (h.cell i (by rw [List.length_take] at hl; omega)).1
  rw [Nat.zero_add, this]
  congr 2
  rw [List.getD_eq_getElem?_getD, List.getD_eq_getElem?_getD, List.getElem?_take, if_pos (by omega)]
theorem OwnM.made {P : Program} (w : World) (base : Nat) (hb : base ≤ w.heap.size) (src dst : TypeId) (s : ByteArray) (hs : P.underlying src = some .string) (hd : P.underlying dst = some (.slice 5)) (he : P.underlying 5 = some (.int .u8)) (hm : s.size ≤ 140737488355328) :
    ∃ v w1, (convert src dst (.string s)).run P w = .ok v w1 ∧ OwnM w1 base v (bytesOf s) ∧ Below w.heap.size w w1 := by
  have hr := run_bytes_of_string (P := P) w src dst 5 s hs hd he
  have hge := grownCap_ge w s.size 0 5
  have hle := grownCap_le_maxLen w s.size 0 5 (by simp only [maxLen]; omega)
  have hsz : (bytesRow s (grownCap w s.size 0 5)).size = grownCap w s.size 0 5 := by
    unfold bytesRow; simp only [Array.size_append, Array.size_map, Array.size_replicate]; have : s.data.size = s.size := rfl; omega
  have hlen : (bytesOf s).length = s.size := by unfold bytesOf; simp
  refine ⟨_, _, hr, ⟨w.heap.size, grownCap w s.size 0 5, _, _, by rw [hlen], hb, heap_alloc_new w.drew _, by rw [hlen]; exact hge, hle, hsz, ?_, .inr (by rw [hsz])⟩, below_alloc (below_drew (Below.refl _ _)) _⟩
  rw [hlen]
  have e1 : (bytesRow s (grownCap w s.size 0 5)).toList = nums .u8 (bytesOf s) ++ List.replicate (grownCap w s.size 0 5 - s.size) (.int .u8 0) := by
    unfold bytesRow bytesOf nums; simp
  rw [e1, ← hlen]
  have e2 : (nums .u8 (bytesOf s)).length = (bytesOf s).length := nums_length _ _
  rw [← e2, List.take_left]
theorem cut_mark {P : Program} (t : TypeId) (ht : P.underlying t = some (.slice 5)) (hinfo : (P.info? 5).map (fun i => (i.zero, i.size, i.bytes)) = some (some (.int .u8 0), 1, 1)) (A : Option Addr) (cap : Nat) (xs : List Int) (hc : xs.length ≤ cap) (n : Nat) (hn : n ≤ xs.length) :
    ∀ W : World, (Instr.slice t (.slice A xs.length cap) none (some (.int .i64 (n : Int))) none).run P W = .ok (.slice A n cap) W := by
  obtain ⟨i0, hi, _, hsz, _⟩ := info_parts hinfo
  obtain ⟨hcut, _, _⟩ := print_take_of (P := P) (Value.int .u8) 0 t 5 .i64 ht hi hsz A cap xs (n : Int) (by omega) (by omega) hc
  intro W
  have := hcut W
  rwa [List.length_take, Int.toNat_natCast, Nat.min_eq_left hn] at this
section
variable {P : Program}
theorem OwnM.run_append {w : World} {base : Nat} {v : Value} {xs : List Int} (h : OwnM w base v xs) (t ty : TypeId) (ht : P.underlying t = some (.slice 5)) (hinfo : (P.info? 5).map (fun i => (i.zero, i.size, i.bytes)) = some (some (.int .u8 0), 1, 1))
    (hbase : base ≤ w.heap.size) (y : Int) (hl : xs.length + 1 ≤ 140737488355328) :
    ∃ v1 w1, (Builtin.append_ #[t, t] ty #[v, .slice (some ⟨w.heap.size, 0, none⟩) 1 1]).run P (w.alloc (.cells #[.int .u8 y] 5)) = .ok v1 w1 ∧ OwnM w1 base v1 (xs ++ [y]) ∧ Below base w w1 := by
  obtain ⟨i0, hi, hzz⟩ := Option.map_eq_some_iff.1 hinfo
  simp only [Prod.mk.injEq] at hzz
  obtain ⟨hz0, hz1, hz2⟩ := hzz
  obtain ⟨g, cap, cur, fr, rfl, hg, hh, h1, h2, h3, h4, h5⟩ := h
  have hgl : g < w.heap.size := (Array.getElem?_eq_some_iff.1 hh).1
  have hh' : (w.alloc (.cells #[.int .u8 y] 5)).heap[g]? = some (.cells cur 5 fr) := by rw [Below.heap_alloc _ _ _ hgl]; exact hh
  have hxl : (nums .u8 xs).length = xs.length := nums_length _ _
  have hnews : ∀ j u, [Value.int .u8 y][j]? = some u → (w.alloc (.cells #[.int .u8 y] 5)).cell? ((⟨w.heap.size, 0, none⟩ : Addr).add j) = some u := cell_one_new _ _ _
  by_cases hroom : xs.length + 1 ≤ cap
  · have hf := run_firstCells_some (P := P) (w.alloc (.cells #[.int .u8 y] 5)) i0.size 1 ⟨w.heap.size, 0, none⟩ 1 1 [.int .u8 y] (by rw [hz1]; rfl) hnews
    have hlt : xs.length < cur.size := by omega
    have hcell : (w.alloc (.cells #[.int .u8 y] 5)).cell? ⟨g, xs.length, none⟩ = some cur[xs.length] := by rw [cell_of_row _ _ _ _ _ _ hh']; simp [hlt]
    have hfro : (w.alloc (.cells #[.int .u8 y] 5)).frozen? ⟨g, xs.length, none⟩ = false := by
      rcases h5 with rfl | rfl
      · simp [World.frozen?, hh']
      · simp only [World.frozen?, hh', Bool.and_eq_false_iff, decide_eq_false_iff_not]; left; omega
    have hst : (storeCells ⟨g, xs.length, none⟩ [.int .u8 y] 0).run P (w.alloc (.cells #[.int .u8 y] 5)) = .ok () ((w.alloc (.cells #[.int .u8 y] 5)).setCell ⟨g, xs.length, none⟩ (.int .u8 y)) := by
      have hadd : (⟨g, xs.length, none⟩ : Addr).add 0 = ⟨g, xs.length, none⟩ := by rw [show (⟨g, xs.length, none⟩ : Addr).add 0 = (⟨g, xs.length, none⟩ : Addr).add 0 from rfl]; unfold Addr.add; split <;> simp_all
      simp only [storeCells, hadd, Sem.run_bind]
      rw [run_store P _ _ _ _ rfl, hcell]
      simp [hfro]
    refine ⟨.slice (some ⟨g, 0, none⟩) (xs.length + 1) cap, (w.alloc (.cells #[.int .u8 y] 5)).setCell ⟨g, xs.length, none⟩ (.int .u8 y), ?_, ⟨g, cap, cur.setIfInBounds xs.length (.int .u8 y), fr, by simp, hg, ?_, by simpa using hroom, h2, by simp [h3], ?_, h5⟩, ?_⟩
    · have hadd0 : (⟨g, 0, none⟩ : Addr).add xs.length = ⟨g, xs.length, none⟩ := add_plain g xs.length
      simp [Builtin.append_, run_underlying ht, sizeOf, typeInfo, hi, hz1, Builtin.lenOf, hroom, hadd0, hst]
      rw [hz1] at hf
      simp [hf, hst]
    · rw [setCell_eq_setRow _ g _ cur _ fr _ hh']; exact setRow_heap _ g cur _ _ fr hh'
    · rw [List.length_append, List.length_singleton, Array.toList_setIfInBounds, List.take_add_one]
      rw [List.take_set_of_le (Nat.le_refl _), h4]
      have : (cur.toList.set xs.length (.int .u8 y))[xs.length]? = some (.int .u8 y) := by simp [hlt]
      rw [this]; simp [nums]
    · exact ((Below.refl _ _).alloc hbase _).setCell hg _
  · have holds : ∀ j u, (nums .u8 xs)[j]? = some u → (w.alloc (.cells #[.int .u8 y] 5)).cell? ((⟨g, 0, none⟩ : Addr).add j) = some u := by
      intro j u hu
      rw [add_plain, cell_of_row _ _ _ _ _ _ hh']
      rw [← h4, List.getElem?_take] at hu
      split at hu
      · simpa using hu
      · cases hu
    have hr := run_append_grow (P := P) (w.alloc (.cells #[.int .u8 y] 5)) t ty 5 i0 (.int .u8 0) ht hi hz0 ⟨g, 0, none⟩ xs.length cap (nums .u8 xs) (by rw [hz1, hxl]; omega) holds ⟨w.heap.size, 0, none⟩ 1 1 [.int .u8 y] (by rw [hz1]; rfl) hnews (by omega) (by omega) (by rw [hz2]; exact growslice_fits (by omega) (by omega))
    have hge := grownCap_ge (w.alloc (.cells #[.int .u8 y] 5)) (xs.length + 1) cap 5
    have hle := grownCap_le_maxLen (w.alloc (.cells #[.int .u8 y] 5)) (xs.length + 1) cap 5 (by simp only [maxLen]; omega)
    refine ⟨_, _, hr, ⟨(w.alloc (.cells #[.int .u8 y] 5)).heap.size, _, _, (0, 0), by simp, by simp; omega, heap_alloc_new (w.alloc (.cells #[.int .u8 y] 5)).drew _, by simpa using hge, hle, ?_, ?_, .inl rfl⟩, ?_⟩
    · simp only [Array.size_append, List.size_toArray, size_zeroCells, hxl, List.length_singleton]
      have : (Value.int .u8 0).cells.size = 1 := rfl
      rw [this]; omega
    · simp only [Array.toList_append, List.length_append, List.length_singleton]
      rw [show xs.length + 1 = (nums .u8 xs ++ [Value.int .u8 y]).length from by simp [hxl], List.take_left]
      simp [nums]
    · exact (((Below.refl _ _).alloc hbase _).drew).alloc (by simp; omega) _
theorem wpList_append_mark {w : World} {ops : Array Oper} {rest : List Oper} {o : Oper} {a : Act} {Q : Exit → Act → World → Prop} (base : Nat) (hgd : o.guard = none) (s x : Operand) (t : TypeId)
    (ho : o.op = .call { callee := .builtin .append, args := #[s, x], argTypes := #[t, t] })
    (ht : P.underlying t = some (.slice 5)) (hinfo : (P.info? 5).map (fun i => (i.zero, i.size, i.bytes)) = some (some (.int .u8 0), 1, 1))
    (v : Value) (xs : List Int) (y : Int) (hs : a.eval s = v) (hx : a.eval x = .slice (some ⟨w.heap.size, 0, none⟩) 1 1) (HO : OwnM w base v xs) (hbase : base ≤ w.heap.size) (hl : xs.length + 1 ≤ 140737488355328)
    (h : ∀ v1 w1, OwnM w1 base v1 (xs ++ [y]) → Below base w w1 → wpList P ops Q rest (a.put o.dst v1) w1) : wpList P ops Q (o :: rest) a (w.alloc (.cells #[.int .u8 y] 5)) := by
  refine wpList_plain hgd fun K hK => ?_
  obtain ⟨v', w', hr, h2, h3⟩ := HO.run_append (P := P) t o.type ht hinfo hbase y hl
  unfold Oper.wp execOp
  simp only [ho, resolve, invoke, builtin, Sem.run_bind, Sem.run_pure, Result.andThen_ok, List.map_toArray, List.map_cons, List.map_nil, hs, hx, hr]
  exact hK _ _ (h v' w' h2 h3)
end

end Go.Proofs.Ytaipnchallmioaa.B
