import Derived.Test.YtenhnkldhodegaaT31
import Derived.Outline
import Derived.Shelf.Abstract
import Derived.Deep.LoopGhost
import Derived.Deep.Draws
import Derived.Laws.EntriesVeiled
import Derived.Laws.ResultCell
import Derived.Laws.Rows
import Derived.Deep.QuietTactic
import Derived.Deep.RegionWith
import Derived.BigQuiet
import Derived.Deep.MidRow
import Derived.Laws.Tables
import Derived.Deep.WholeRow
import Derived.Lib.SliceRun
import Derived.LaidEql
import Derived.RowKitTokens
import Derived.Stop.Asserts
import Derived.Laws.CopyRow
import Derived.Lib.BufferRead
import Derived.Lib.SlBytesRow
import Derived.Test.YtenhnkldhodegaaGd0
import Derived.Test.YtenhnkldhodegaaGd1
namespace Go.Proofs.Ytenhnkldhodegaa.R
open Go.RowKit Go.Proofs.YtenhnkldhodegaaW.PrintWords Go.Proofs.YtenhnkldhodegaaW.PrintLast Go.Proofs.YtenhnkldhodegaaW.PrintMore
attribute [local go_sem] max2_int min2_int max_two min_two max_three min_three max_four min_four   -- for this text's walks alone
set_option linter.unusedVariables false
set_option linter.unusedSimpArgs false
theorem ask_at {w : World} {A : Option Addr} {n : Nat} {xs : List S32} {q : S32} (h : Kd.C k32 w A n xs) (i : Nat) (hq : xs[i]? = some q) : ∃ ad A11 c11 A13 c13, A = some ad ∧ w.cell? (ad.add (i * 14)) = some (.int .i64 q.f0) ∧ w.cell? ⟨(ad.add (i * 14)).block, (ad.add (i * 14)).off + 1, none⟩ = some (.int .i64 q.f1) ∧ w.cell? ⟨(ad.add (i * 14)).block, (ad.add (i * 14)).off + 2, none⟩ = some (.int .i64 q.f2) ∧ w.cell? ⟨(ad.add (i * 14)).block, (ad.add (i * 14)).off + 3, none⟩ = some (.int .i64 q.f3) ∧ w.cell? ⟨(ad.add (i * 14)).block, (ad.add (i * 14)).off + 4, none⟩ = some (.int .i64 q.f4) ∧ w.cell? ⟨(ad.add (i * 14)).block, (ad.add (i * 14)).off + 5, none⟩ = some (.int .i64 q.f5) ∧ w.cell? ⟨(ad.add (i * 14)).block, (ad.add (i * 14)).off + 6, none⟩ = some (.int .i64 q.f6) ∧ w.cell? ⟨(ad.add (i * 14)).block, (ad.add (i * 14)).off + 7, none⟩ = some (.int .i64 q.f7) ∧ w.cell? ⟨(ad.add (i * 14)).block, (ad.add (i * 14)).off + 8, none⟩ = some (.int .i64 q.f8) ∧ w.cell? ⟨(ad.add (i * 14)).block, (ad.add (i * 14)).off + 9, none⟩ = some (.int .i64 q.f9) ∧ w.cell? ⟨(ad.add (i * 14)).block, (ad.add (i * 14)).off + 10, none⟩ = some (.string q.f10) ∧ w.cell? ⟨(ad.add (i * 14)).block, (ad.add (i * 14)).off + 11, none⟩ = some (.slice A11 q.f11.length c11) ∧ w.cell? ⟨(ad.add (i * 14)).block, (ad.add (i * 14)).off + 12, none⟩ = some (.int .i64 q.f12) ∧ w.cell? ⟨(ad.add (i * 14)).block, (ad.add (i * 14)).off + 13, none⟩ = some (.slice A13 q.f13.length c13) ∧ q.f11.length ≤ c11 ∧ Kd.string.C w A11 q.f11.length q.f11 ∧ q.f13.length ≤ c13 ∧ (Kd.int .u8).C w A13 q.f13.length q.f13 := by
  obtain ⟨hi, e⟩ := List.getElem?_eq_some_iff.1 hq
  have hr : rd_T32 xs (i : Int) = q := by simp [rd_T32, e, hi]
  have hn : n = xs.length := h.1.symm
  have := at_T32 h (i : Int) (by omega) (by omega)
  rw [Int.toNat_natCast, hr] at this
  exact this
def I64 (q : S32) : Prop := i64 q.f0 ∧ i64 q.f1 ∧ i64 q.f2 ∧ i64 q.f3 ∧ i64 q.f4 ∧ i64 q.f5 ∧ i64 q.f6 ∧ i64 q.f7 ∧ i64 q.f8 ∧ i64 q.f9 ∧ i64 q.f12
theorem typed_ne {w0 W W1 : World} {V : Value} {os : List S32} (h : Kd.R k32 32 W w0.heap.size (fun _ => True) V os) (hb : Below W.heap.size W W1) {k : Nat} {cells : Array Value} {t : Nat} (ht : t = 9 ∨ t = 5) (hc : W1.heap[k]? = some (.cells cells t (0, 0))) : some k ≠ V.ownBlock := by
  intro e
  obtain ⟨inner, ho⟩ := Kd.R_own h
  obtain ⟨cs, hcs⟩ := own_typed ho k e.symm
  have hk := (Array.getElem?_eq_some_iff.1 hcs).1
  rw [hb.block k hk, hcs] at hc
  simp at hc
  rcases ht with h | h <;> simp [h] at hc
/-- A request of rows of its own, as an element that is made. -/
theorem ask_made {w0 W W1 : World} {V : Value} {os : List S32} {b1 : Nat} (h : Kd.R k32 32 W w0.heap.size (fun _ => True) V os) (hb : Below W.heap.size W W1) (hw : w0.heap.size ≤ b1) {r0 r1 r2 r3 r4 r5 r6 r7 r8 r9 r12 : Int} {rs : ByteArray} {rn : List ByteArray} {rb : List Int} {AX DX : Option Addr} {cX dX : Nat} (h1 : Kd.R Kd.string 9 W1 b1 (fun _ => True) (.slice AX rn.length cX) rn) (h2 : Kd.R (Kd.int .u8) 5 W1 b1 (fun _ => True) (.slice DX rb.length dX) rb) :
    k32.M W1 w0.heap.size (fun k => some k ≠ V.ownBlock) (⟨r0, r1, r2, r3, r4, r5, r6, r7, r8, r9, rs, rn, r12, rb⟩ : S32) [.int .i64 r0, .int .i64 r1, .int .i64 r2, .int .i64 r3, .int .i64 r4, .int .i64 r5, .int .i64 r6, .int .i64 r7, .int .i64 r8, .int .i64 r9, .string rs, .slice AX rn.length cX, .int .i64 r12, .slice DX rb.length dX] := by
  refine k32_mkM W1 w0.heap.size _ (⟨r0, r1, r2, r3, r4, r5, r6, r7, r8, r9, rs, rn, r12, rb⟩ : S32) ?_ ?_
  · refine Kd.R_lower (Kd.R_mono (Kd.R_bound h1) (fun k hk => ?_)) hw
    obtain ⟨-, -, -, t, ht, cells, hc⟩ := hk
    refine typed_ne h hb (t := t) ?_ hc
    simpa [Kd.string, Kd.scalar] using Or.inl (b := t = 5) (by simpa [Kd.string, Kd.scalar] using ht)
  · refine Kd.R_lower (Kd.R_mono (Kd.R_bound h2) (fun k hk => ?_)) hw
    obtain ⟨-, -, -, t, ht, cells, hc⟩ := hk
    refine typed_ne h hb (t := t) (.inr ?_) hc
    simpa [Kd.int, Kd.scalar] using ht
/-- One request in a block of its own, as a row. -/
theorem one_row {W : World} {x : Obj} {okp : Nat → Prop} {base : Nat} {q : S32} {v0 v1 v2 v3 v4 v5 v6 v7 v8 v9 v10 v11 v12 v13 : Value} (h : k32.M ((W.alloc x).alloc (.cells #[v0, v1, v2, v3, v4, v5, v6, v7, v8, v9, v10, v11, v12, v13] 32)) base okp q [v0, v1, v2, v3, v4, v5, v6, v7, v8, v9, v10, v11, v12, v13]) :
    ReadsRow (k32.M ((W.alloc x).alloc (.cells #[v0, v1, v2, v3, v4, v5, v6, v7, v8, v9, v10, v11, v12, v13] 32)) base okp) 14 ((W.alloc x).alloc (.cells #[v0, v1, v2, v3, v4, v5, v6, v7, v8, v9, v10, v11, v12, v13] 32)) (some ⟨W.heap.size + 1, 0, none⟩) 1 [q] := by
  refine ⟨rfl, by omega, fun _ => ⟨_, rfl, fun j p hj => ?_⟩⟩
  have hj0 : j = 0 := by
    have := (List.getElem?_eq_some_iff.1 hj).1
    simp at this
    omega
  subst hj0
  have hp : q = p := by simpa using hj
  subst hp
  refine ⟨_, rfl, h, fun i u hu => ?_⟩
  rw [Addr.add_lit, World.cell?_alloc_at _ _ _ _ (by simp)]
  simpa using hu
theorem box_kept {w0 W w2 w4 : World} {V : Value} {os : List S32} {x y : Obj} (h : Kd.R k32 32 W w0.heap.size (fun _ => True) V os) (hb : Below W.heap.size W w2) (hg : ((w2.alloc x).alloc y).grownBy w4 V.ownBlock) : w4.heap[w2.heap.size]? = some x := by
  refine (hg.block _ (by simp; omega) ?_).trans (((below_alloc (Below.refl (w2.alloc x).heap.size _) y).block _ (by simp)).trans (heap_alloc_new w2 x))
  intro e
  obtain ⟨inner, ho⟩ := Kd.R_own h
  have := ho.lt _ e.symm
  have := hb.size
  omega
theorem asks_tags {os : List S32} {i : Nat} (hl : os.length = i) (h : ∀ (j : Nat) (q : S32), os[j]? = some q → q.f1 = j ∧ q.f11.length ≤ 8 ∧ q.f13.length ≤ 30) : ∀ q ∈ os, q.f1 ≠ (i : Int) := by
  intro q hq
  obtain ⟨j, hj, e⟩ := List.mem_iff_getElem.1 hq
  have := (h j q (by rw [← e]; exact List.getElem?_eq_getElem hj)).1
  omega
theorem asks_more {os : List S32} {i : Nat} {q : S32} (hl : os.length = i) (h : ∀ (j : Nat) (q : S32), os[j]? = some q → q.f1 = j ∧ q.f11.length ≤ 8 ∧ q.f13.length ≤ 30) (h1 : q.f1 = i) (h2 : q.f11.length ≤ 8) (h3 : q.f13.length ≤ 30) : ∀ (j : Nat) (p : S32), (os ++ [q])[j]? = some p → p.f1 = j ∧ p.f11.length ≤ 8 ∧ p.f13.length ≤ 30 := by
  intro j p hj
  by_cases hjl : j < os.length
  · rw [List.getElem?_append_left hjl] at hj
    exact h j p hj
  · have hj' := (List.getElem?_eq_some_iff.1 hj).1
    simp at hj'
    rw [List.getElem?_append_right (by omega), show j - os.length = 0 by omega] at hj
    simp at hj
    subst hj
    exact ⟨by rw [h1]; omega, h2, h3⟩
theorem names_kept {w0 W W1 W2 : World} {V : Value} {os : List S32} {b1 : Nat} {v : Value} {rn : List ByteArray} (h : Kd.R k32 32 W w0.heap.size (fun _ => True) V os) (hb : Below W.heap.size W W1) (h1 : Kd.R Kd.string 9 W1 b1 (fun _ => True) v rn) (hg : W1.grownBy W2 V.ownBlock) : Kd.R Kd.string 9 W2 b1 (fun _ => True) v rn := by
  refine Kd.R_mono (Kd.R_grown (Kd.R_mono (Kd.R_bound h1) (ok' := fun k => some k ≠ V.ownBlock) (fun k hk => ?_)) hg (fun k hk => hk)) (fun _ _ => trivial)
  obtain ⟨-, -, -, t, ht, cells, hc⟩ := hk
  refine typed_ne h hb (t := t) (.inl ?_) hc
  simpa [Kd.string, Kd.scalar] using ht
theorem bytes_kept {w0 W W1 W2 : World} {V : Value} {os : List S32} {b1 : Nat} {v : Value} {rb : List Int} (h : Kd.R k32 32 W w0.heap.size (fun _ => True) V os) (hb : Below W.heap.size W W1) (h1 : Kd.R (Kd.int .u8) 5 W1 b1 (fun _ => True) v rb) (hg : W1.grownBy W2 V.ownBlock) : Kd.R (Kd.int .u8) 5 W2 b1 (fun _ => True) v rb := by
  refine Kd.R_mono (Kd.R_grown (Kd.R_mono (Kd.R_bound h1) (ok' := fun k => some k ≠ V.ownBlock) (fun k hk => ?_)) hg (fun k hk => hk)) (fun _ _ => trivial)
  obtain ⟨-, -, -, t, ht, cells, hc⟩ := hk
  refine typed_ne h hb (t := t) (.inr ?_) hc
  simpa [Kd.int, Kd.scalar] using ht
/-- Pick takes one that was put, once. -/
theorem once_pick {w0 W : World} {b : Nat} {m : Int} {V : Value} {css : List (List Value)} {ps os : List S32} {sn : List Bool} (h : OnceIn w0 b m V W css ps os) (hL : LeftOf ps os sn) (k : Nat) (hk : k < ps.length) :
    Calls Try.prog 13 #[.pointer (some ⟨b, 0, none⟩), .int .i64 k] W fun e w' => ∃ (q : S32) (t : Nat) (A : Option Addr) (c : Nat) (D : Option Addr) (d : Nat) (css' : List (List Value)) (ps' : List S32), e = .returned (.tuple #[.agg #[.int .i64 q.f0, .int .i64 t, .int .i64 q.f2, .int .i64 q.f3, .int .i64 q.f4, .int .i64 q.f5, .int .i64 q.f6, .int .i64 q.f7, .int .i64 q.f8, .int .i64 q.f9, .string q.f10, .slice A q.f11.length c, .int .i64 q.f12, .slice D q.f13.length d], .int .i64 0]) ∧
      q.f1 = t ∧ os[t]? = some q ∧ sn[t]? = some false ∧ ps'.length + 1 = ps.length ∧ OnceIn w0 b m V w' css' ps' os ∧ LeftOf ps' os (sn.set t true) ∧ (∀ r ∈ ps', r.f1 ≠ (t : Int)) ∧ Kd.R Kd.string 9 w' w0.heap.size (fun _ => True) (.slice A q.f11.length c) q.f11 ∧ Kd.R (Kd.int .u8) 5 w' w0.heap.size (fun _ => True) (.slice D q.f13.length d) q.f13 ∧ W.grownBy w' (some b) := by
  have hkc : k < css.length := by rw [h.hl]; exact hk
  refine (pick_ok b k m css W h.ht hkc).mono ?_
  rintro e w' ⟨rfl, hg, hT⟩
  have hM := h.hc k _ _ (List.getElem?_eq_getElem hkc) (List.getElem?_eq_getElem hk)
  have hM' := ask_move (W1 := w') hM (fun k cells t ht hlt hc => hg.block k hlt (by
    intro e
    cases e
    rw [h.ht.row] at hc
    simp at hc
    rcases ht with h | h <;> simp [h] at hc))
  obtain ⟨v11, v13, he, h11, h13⟩ := k32_openM hM'
  obtain ⟨A, c, rfl, -, -⟩ := Kd.R_reads h11
  obtain ⟨D, d, rfl, -, -⟩ := Kd.R_reads h13
  obtain ⟨t, e1, e2, e3⟩ := hL.each ps[k] (List.getElem_mem _)
  refine ⟨ps[k], t, A, c, D, d, css.eraseIdx k, ps.eraseIdx k, by rw [he, e1], e1, e2, e3, ?_, h.pick hg hT, hL.next hk e1, fun r hr => ?_, h11, h13, hg⟩
  · rw [List.length_eraseIdx, if_pos hk]
    omega
  · have := (mem_erase_ne hL hk hr).2
    rw [e1] at this
    exact this
theorem seen_set {W : World} {g : Nat} {sn : List Bool} (h : W.heap[g]? = some (.cells (sn.map Value.bool).toArray 4 (0, 0))) (t : Nat) : (W.setCell ⟨g, t, none⟩ (.bool true)).heap[g]? = some (.cells ((sn.set t true).map Value.bool).toArray 4 (0, 0)) :=
  blk_put h t (.bool true) (by simp)
theorem seen_new (W : World) (n : Nat) : (W.alloc (.cells (madeCells #[.bool false] n) 4)).heap[W.heap.size]? = some (.cells ((List.replicate n false).map Value.bool).toArray 4 (0, 0)) := by
  rw [heap_alloc_new]
  congr 2
  apply Array.toList_inj.1
  rw [toList_madeCells_one]
  simp
theorem seen_at {W : World} {g t : Nat} {sn : List Bool} {x : Bool} (h : W.heap[g]? = some (.cells (sn.map Value.bool).toArray 4 (0, 0))) (ht : sn[t]? = some x) : W.cell? ⟨g, t, none⟩ = some (.bool x) := by
  rw [cell_of_row _ _ _ _ _ _ h]
  simp [ht]
theorem own_at {w : World} {base : Nat} {ok : Nat → Prop} {A : Option Addr} {n c : Nat} {xs : List S32} {q : S32} (h : Kd.R k32 32 w base ok (.slice A n c) xs) (i : Nat) (hq : xs[i]? = some q) : ∃ ad A11 c11 A13 c13, A = some ad ∧ w.cell? (ad.add (i * 14)) = some (.int .i64 q.f0) ∧ w.cell? ⟨(ad.add (i * 14)).block, (ad.add (i * 14)).off + 1, none⟩ = some (.int .i64 q.f1) ∧ w.cell? ⟨(ad.add (i * 14)).block, (ad.add (i * 14)).off + 2, none⟩ = some (.int .i64 q.f2) ∧ w.cell? ⟨(ad.add (i * 14)).block, (ad.add (i * 14)).off + 3, none⟩ = some (.int .i64 q.f3) ∧ w.cell? ⟨(ad.add (i * 14)).block, (ad.add (i * 14)).off + 4, none⟩ = some (.int .i64 q.f4) ∧ w.cell? ⟨(ad.add (i * 14)).block, (ad.add (i * 14)).off + 5, none⟩ = some (.int .i64 q.f5) ∧ w.cell? ⟨(ad.add (i * 14)).block, (ad.add (i * 14)).off + 6, none⟩ = some (.int .i64 q.f6) ∧ w.cell? ⟨(ad.add (i * 14)).block, (ad.add (i * 14)).off + 7, none⟩ = some (.int .i64 q.f7) ∧ w.cell? ⟨(ad.add (i * 14)).block, (ad.add (i * 14)).off + 8, none⟩ = some (.int .i64 q.f8) ∧ w.cell? ⟨(ad.add (i * 14)).block, (ad.add (i * 14)).off + 9, none⟩ = some (.int .i64 q.f9) ∧ w.cell? ⟨(ad.add (i * 14)).block, (ad.add (i * 14)).off + 10, none⟩ = some (.string q.f10) ∧ w.cell? ⟨(ad.add (i * 14)).block, (ad.add (i * 14)).off + 11, none⟩ = some (.slice A11 q.f11.length c11) ∧ w.cell? ⟨(ad.add (i * 14)).block, (ad.add (i * 14)).off + 12, none⟩ = some (.int .i64 q.f12) ∧ w.cell? ⟨(ad.add (i * 14)).block, (ad.add (i * 14)).off + 13, none⟩ = some (.slice A13 q.f13.length c13) ∧ q.f11.length ≤ c11 ∧ Kd.string.C w A11 q.f11.length q.f11 ∧ q.f13.length ≤ c13 ∧ (Kd.int .u8).C w A13 q.f13.length q.f13 ∧ (A13 = none ∨ ∃ g o, A13 = some ⟨g, o, none⟩) := by
  obtain ⟨A', c', he, hl, hr⟩ := OwnRow.reads h.2
  injection he with h1 h2 h3
  subst h1 h2 h3
  obtain ⟨hi, e⟩ := List.getElem?_eq_some_iff.1 hq
  obtain ⟨ad, cs, hA, -, hM, hc0⟩ := ReadsRow.get_ hr z32 (i : Int) (by omega) (by omega)
  rw [Int.toNat_natCast] at hM hc0
  rw [show xs.getD i z32 = q by simp [hi, e]] at hM
  have hc : ∀ j u, cs[j]? = some u → w.cell? (ad.add (i * 14 + j)) = some u := hc0
  obtain ⟨v11, v13, rfl, g11, g13⟩ := k32_openM hM
  obtain ⟨A11, c11, rfl, l11, k11⟩ := Kd.R_reads g11
  obtain ⟨A13, c13, rfl, l13, k13⟩ := Kd.R_reads g13
  exact ⟨ad, A11, c11, A13, c13, hA, hc 0 _ rfl, by rw [← add_field _ _ 1 (by omega)]; exact hc 1 _ rfl, by rw [← add_field _ _ 2 (by omega)]; exact hc 2 _ rfl, by rw [← add_field _ _ 3 (by omega)]; exact hc 3 _ rfl, by rw [← add_field _ _ 4 (by omega)]; exact hc 4 _ rfl, by rw [← add_field _ _ 5 (by omega)]; exact hc 5 _ rfl, by rw [← add_field _ _ 6 (by omega)]; exact hc 6 _ rfl, by rw [← add_field _ _ 7 (by omega)]; exact hc 7 _ rfl, by rw [← add_field _ _ 8 (by omega)]; exact hc 8 _ rfl, by rw [← add_field _ _ 9 (by omega)]; exact hc 9 _ rfl, by rw [← add_field _ _ 10 (by omega)]; exact hc 10 _ rfl, by rw [← add_field _ _ 11 (by omega)]; exact hc 11 _ rfl, by rw [← add_field _ _ 12 (by omega)]; exact hc 12 _ rfl, by rw [← add_field _ _ 13 (by omega)]; exact hc 13 _ rfl, l11, k11, l13, k13, row_head g13⟩

end Go.Proofs.Ytenhnkldhodegaa.R
