import Derived.Test.YtenhnkldhodegaaT32
import Derived.Outline
import Derived.Shelf.Abstract
import Derived.Deep.LoopGhost
import Derived.Deep.Draws
import Derived.Laws.EntriesVeiled
import Derived.Laws.ResultCell
import Derived.Laws.Rows
import Derived.Deep.QuietTactic
import Derived.Deep.RegionWith
import Derived.BigQuiet
import Derived.Deep.MidRow
import Derived.Laws.Tables
import Derived.Deep.WholeRow
import Derived.Lib.SliceRun
import Derived.LaidEql
import Derived.RowKitTokens
import Derived.Stop.Asserts
import Derived.Laws.CopyRow
import Derived.Lib.BufferRead
import Derived.Lib.SlBytesRow
import Derived.Test.YtenhnkldhodegaaGd0
import Derived.Test.YtenhnkldhodegaaGd1
import Derived.Deep.Slices
import Derived.Test.YtenhnkldhodegaaGd1
namespace Go.Proofs.Ytenhnkldhodegaa.R
open Go.RowKit Go.Proofs.YtenhnkldhodegaaW.PrintWords Go.Proofs.YtenhnkldhodegaaW.PrintLast Go.Proofs.YtenhnkldhodegaaW.PrintMore
attribute [local go_sem] max2_int min2_int max_two min_two max_three min_three max_four min_four   -- for this text's walks alone
set_option linter.unusedVariables false
set_option linter.unusedSimpArgs false
/-! The document's list of requests (truchmanref22): Find, Put. -/
def findQ (l : List S32) (tag : Int) : Nat := l.findIdx fun q => decide (q.f1 = tag)
def findQI (l : List S32) (tag : Int) : Int := if findQ l tag < l.length then (findQ l tag : Int) else -1
theorem findQ_hit {l : List S32} {tag : Int} {k : Nat} {q : S32} (hk : l[k]? = some q) (h : q.f1 = tag) (ha : ∀ (j : Nat) (p : S32), j < k → l[j]? = some p → p.f1 ≠ tag) : findQ l tag = k := by
  obtain ⟨hl, e⟩ := List.getElem?_eq_some_iff.1 hk
  unfold findQ
  rw [List.findIdx_eq hl]
  refine ⟨by rw [e]; simp [h], fun j hj => ?_⟩
  have := ha j _ hj (List.getElem?_eq_getElem (by omega))
  simp [this]
theorem findQ_miss {l : List S32} {tag : Int} (ha : ∀ (j : Nat) (p : S32), l[j]? = some p → p.f1 ≠ tag) : findQ l tag = l.length := by
  unfold findQ
  rw [List.findIdx_eq_length]
  intro q hq
  obtain ⟨j, hj, e⟩ := List.mem_iff_getElem.1 hq
  have := ha j q (by rw [← e]; exact List.getElem?_eq_getElem hj)
  simp [this]
theorem findQ_css {w0 W : World} {b : Nat} {m : Int} {V : Value} {css : List (List Value)} {ps os : List S32} (h : OnceIn w0 b m V W css ps os) (tag : Int) : findN css tag = findQ ps tag := by
  have hm : css.map tagOf = ps.map (·.f1) := by
    refine List.ext_getElem (by simp [h.hl]) (fun j h1 h2 => ?_)
    simp only [List.getElem_map]
    exact h.tag j (by simpa using h1) (by simpa using h2)
  unfold findN findQ
  rw [show (fun c => decide (tagOf c = tag)) = (fun t : Int => decide (t = tag)) ∘ tagOf from rfl, show (fun q : S32 => decide (q.f1 = tag)) = (fun t : Int => decide (t = tag)) ∘ (·.f1) from rfl, ← List.findIdx_map, ← List.findIdx_map, hm]
set_option maxRecDepth 100000 in
set_option maxHeartbeats 8000000 in
theorem refFind_ok (A : Option Addr) (c : Nat) (l : List S32) (tag : Int) (w : World) (h : Kd.C k32 w A l.length l) :
    Calls Try.prog 23 #[.slice A l.length c, .int .i64 tag] w fun e w' => e = .returned (.int .i64 (findQI l tag)) ∧ Below w.heap.size w w' := by
  have HC := Aside0.mk h
  have hu := Try.underlying32
  have hlm : l.length ≤ 9223372036854775807 := h.2.1
  clear h
  go_enter Try.func23, Try.ntmps23
  go_wp2
  go_loopg [5] l.length (fun gg s5 wv => ∃ i : Nat, i ≤ l.length ∧ l.length - i ≤ gg ∧ s5 = .int .i64 i ∧ Aside (Below w.heap.size w wv) ∧ Aside (∀ (j : Nat) (p : S32), j < i → l[j]? = some p → p.f1 ≠ tag))
  case atStart => exact ⟨0, Nat.zero_le _, by omega, rfl, Below.refl _ _, fun j p hj => absurd hj (by omega)⟩
  case round =>
    obtain ⟨i, hi, hig, rfl, BV, HA⟩ := hrel
    by_cases hlt : i < l.length
    · have hltz : (i : Int) < l.length := by omega
      obtain ⟨q, hq⟩ : ∃ q, l[i]? = some q := ⟨_, List.getElem?_eq_getElem hlt⟩
      obtain ⟨ad, A11, c11, A13, c13, rfl, z0, z1, -⟩ := ask_at (Kd.C_below HC.out BV.out) i hq
      by_cases he : q.f1 = tag
      · have hf := findQ_hit hq he HA.out
        subst he
        go_wp2
        go_ret
        exact ⟨by rw [show findQI l q.f1 = (i : Int) by unfold findQI; rw [hf, if_pos hlt]]; rfl, BV.out⟩
      · go_wp2
        go_roundg (l.length - (i + 1))
        case measure => omega
        case rel => exact ⟨i + 1, by omega, by omega, by go_num, BV.out, fun j p hj hp => (by
          by_cases hji : j = i
          · subst hji; rw [hq] at hp; cases hp; exact he
          · exact HA.out j p (by omega) hp)⟩
    · have hltz : ¬ (i : Int) < l.length := by omega
      have hf : findQ l tag = l.length := findQ_miss (fun j p hp => HA.out j p (by have := (List.getElem?_eq_some_iff.1 hp).1; omega) hp)
      go_wp2
      go_ret
      exact ⟨by rw [show findQI l tag = -1 by unfold findQI; rw [hf, if_neg (Nat.lt_irrefl _)]]; rfl, BV.out⟩
/-- A request in a new block, as a row of one. -/
theorem one_row1 {W : World} {okp : Nat → Prop} {base : Nat} {q : S32} {v0 v1 v2 v3 v4 v5 v6 v7 v8 v9 v10 v11 v12 v13 : Value} (h : k32.M (W.alloc (.cells #[v0, v1, v2, v3, v4, v5, v6, v7, v8, v9, v10, v11, v12, v13] 32)) base okp q [v0, v1, v2, v3, v4, v5, v6, v7, v8, v9, v10, v11, v12, v13]) :
    ReadsRow (k32.M (W.alloc (.cells #[v0, v1, v2, v3, v4, v5, v6, v7, v8, v9, v10, v11, v12, v13] 32)) base okp) 14 (W.alloc (.cells #[v0, v1, v2, v3, v4, v5, v6, v7, v8, v9, v10, v11, v12, v13] 32)) (some ⟨W.heap.size, 0, none⟩) 1 [q] := by
  refine ⟨rfl, by omega, fun _ => ⟨_, rfl, fun j p hj => ?_⟩⟩
  have hj0 : j = 0 := by
    have := (List.getElem?_eq_some_iff.1 hj).1
    simp at this
    omega
  subst hj0
  have hp : q = p := by simpa using hj
  subst hp
  refine ⟨_, rfl, h, fun i u hu => ?_⟩
  rw [Addr.add_lit, World.cell?_alloc_at _ _ _ _ rfl]
  simpa using hu
/-- The elements of a row of the call's own, as they may stand in another one. -/
theorem rows_made {w0 W : World} {A : Option Addr} {n c : Nat} {l : List S32} (h : Kd.R k32 32 W w0.heap.size (fun _ => True) (.slice A n c) l) : n = l.length ∧ n ≤ c ∧ ReadsRow (k32.M W w0.heap.size (fun _ => True)) 14 W A l.length l := by
  obtain ⟨A', c', he, hl, hr⟩ := OwnRow.reads h.2
  injection he with h1 h2 h3
  subst h1 h2 h3
  exact ⟨rfl, hl, hr.imp_ (Below.refl _ _) (fun _ _ hp => k32.M_mono (fun _ _ => trivial) hp)⟩
theorem rows_take {R : S32 → List Value → Prop} {W : World} {A : Option Addr} {l : List S32} (h : ReadsRow R 14 W A l.length l) (k : Nat) (hk : k ≤ l.length) : ReadsRow R 14 W A k (l.take k) := by
  refine ⟨by simp; omega, by have := h.2.1; omega, fun h0 => ?_⟩
  obtain ⟨ad, e, hc⟩ := h.2.2 (by omega)
  refine ⟨ad, e, fun j p hj => hc j p ?_⟩
  rw [List.getElem?_take] at hj
  split at hj
  · exact hj
  · cases hj
theorem rows_drop {R : S32 → List Value → Prop} {W : World} {ad : Addr} {l : List S32} (h : ReadsRow R 14 W (some ad) l.length l) (k : Nat) (hk : k ≤ l.length) : ReadsRow R 14 W (some (ad.add (k * 14))) (l.length - k) (l.drop k) := by
  refine ⟨by simp, by have := h.2.1; omega, fun h0 => ?_⟩
  obtain ⟨ad', e, hc⟩ := h.2.2 (by omega)
  cases e
  refine ⟨_, rfl, fun j p hj => ?_⟩
  rw [List.getElem?_drop] at hj
  obtain ⟨c, h1, h2, h3⟩ := hc (k + j) p hj
  refine ⟨c, h1, h2, fun i u hu => ?_⟩
  rw [← h3 i u hu, Go.Deep.add_add]
  congr 2
  omega
def putSQ (most : Int) (ps : List S32) (q : S32) : List S32 := if findQ ps q.f1 < ps.length then ps else if most ≤ ps.length then ps else ps ++ [q]
def putCQ (most : Int) (ps : List S32) (tag : Int) : Int := if findQ ps tag < ps.length then 7 else if most ≤ ps.length then 5 else 0
set_option maxRecDepth 100000 in
set_option maxHeartbeats 20000000 in
theorem refPut_ok {w0 W : World} {VA : Option Addr} {n vc : Nat} {ps : List S32} (hV : Kd.R k32 32 W w0.heap.size (fun _ => True) (.slice VA n vc) ps) (hB : Below w0.heap.size w0 W) (r0 t r2 r3 r4 r5 r6 r7 r8 r9 : Int) (rs : ByteArray) (AX : Option Addr) (cX : Nat) (rn : List ByteArray) (r12 : Int) (DX : Option Addr) (dX : Nat) (rb : List Int) (most : Int)
    (hA : Kd.R Kd.string 9 W w0.heap.size (fun _ => True) (.slice AX rn.length cX) rn) (hD : Kd.R (Kd.int .u8) 5 W w0.heap.size (fun _ => True) (.slice DX rb.length dX) rb) (hl : ps.length ≤ 1000) :
    Calls Try.prog 20 #[.slice VA n vc, .agg #[.int .i64 r0, .int .i64 t, .int .i64 r2, .int .i64 r3, .int .i64 r4, .int .i64 r5, .int .i64 r6, .int .i64 r7, .int .i64 r8, .int .i64 r9, .string rs, .slice AX rn.length cX, .int .i64 r12, .slice DX rb.length dX], .int .i64 most] W fun e w' => ∃ VB vb, e = .returned (.tuple #[.slice VB (putSQ most ps (⟨r0, t, r2, r3, r4, r5, r6, r7, r8, r9, rs, rn, r12, rb⟩ : S32)).length vb, .int .i64 (putCQ most ps t)]) ∧ Kd.R k32 32 w' w0.heap.size (fun _ => True) (.slice VB (putSQ most ps (⟨r0, t, r2, r3, r4, r5, r6, r7, r8, r9, rs, rn, r12, rb⟩ : S32)).length vb) (putSQ most ps (⟨r0, t, r2, r3, r4, r5, r6, r7, r8, r9, rs, rn, r12, rb⟩ : S32)) ∧ Below W.heap.size W w' := by
  obtain ⟨rfl, hnc, -⟩ := rows_made hV
  have hF := fun W1 (h : Below W.heap.size W W1) => refFind_ok VA vc ps t W1 (Kd.C_below (Kd.R_reads' hV).2.2 h)
  have hu := Try.underlying32
  have HV := Aside0.mk hV
  have HB := Aside0.mk hB
  have HA := Aside0.mk hA
  have HD := Aside0.mk hD
  clear hV hB hA hD
  by_cases hf : findQ ps t < ps.length
  · rw [show findQI ps t = (findQ ps t : Int) by unfold findQI; rw [if_pos hf]] at hF
    rw [show putSQ most ps (⟨r0, t, r2, r3, r4, r5, r6, r7, r8, r9, rs, rn, r12, rb⟩ : S32) = ps by unfold putSQ; rw [if_pos hf], show putCQ most ps t = 7 by unfold putCQ; rw [if_pos hf]]
    generalize findQ ps t = k at hf hF
    go_enter Try.func20, Try.ntmps20
    go_wp2_with (go_at_call 23; (with_reducible refine (hF _ (below_alloc (Below.refl _ _) _)).mono ?_); rintro e w1 ⟨rfl, hb1⟩)
    go_ret2
    have hb := below_step (below_alloc (Below.refl W.heap.size W) _) hb1
    exact ⟨VA, vc, rfl, Kd.R_below HV.out hb, hb⟩
  · rw [show findQI ps t = -1 by unfold findQI; rw [if_neg hf]] at hF
    by_cases hm : most ≤ ps.length
    · rw [show putSQ most ps (⟨r0, t, r2, r3, r4, r5, r6, r7, r8, r9, rs, rn, r12, rb⟩ : S32) = ps by unfold putSQ; rw [if_neg hf, if_pos hm], show putCQ most ps t = 5 by unfold putCQ; rw [if_neg hf, if_pos hm]]
      go_enter Try.func20, Try.ntmps20
      go_wp2_with (go_at_call 23; (with_reducible refine (hF _ (below_alloc (Below.refl _ _) _)).mono ?_); rintro e w1 ⟨rfl, hb1⟩)
      go_ret2
      have hb := below_step (below_alloc (Below.refl W.heap.size W) _) hb1
      exact ⟨VA, vc, rfl, Kd.R_below HV.out hb, hb⟩
    · rw [show putSQ most ps (⟨r0, t, r2, r3, r4, r5, r6, r7, r8, r9, rs, rn, r12, rb⟩ : S32) = ps ++ [(⟨r0, t, r2, r3, r4, r5, r6, r7, r8, r9, rs, rn, r12, rb⟩ : S32)] by unfold putSQ; rw [if_neg hf, if_neg hm], show putCQ most ps t = 0 by unfold putCQ; rw [if_neg hf, if_neg hm]]
      clear hf
      go_enter Try.func20, Try.ntmps20
      go_wp2_with (first
        | (go_at_call 23; (with_reducible refine (hF _ (below_alloc (Below.refl _ _) _)).mono ?_); rintro e w1 ⟨rfl, hb1⟩; go_loud (have hbW := below_step (below_alloc (Below.refl W.heap.size W) (.cells #[.int .i64 r0, .int .i64 t, .int .i64 r2, .int .i64 r3, .int .i64 r4, .int .i64 r5, .int .i64 r6, .int .i64 r7, .int .i64 r8, .int .i64 r9, .string rs, .slice AX rn.length cX, .int .i64 r12, .slice DX rb.length dX] 32)) hb1); go_loud (have hx1 := (hb1.block W.heap.size (by simp)).trans (heap_alloc_new W _)); go_loud (have hV1 := Kd.R_below HV.out hbW); go_loud (have hA1 := Kd.R_below HA.out hbW); go_loud (have hD1 := Kd.R_below HD.out hbW); go_loud (have hr1 := (rows_made hV1).2.2))
        | ((with_reducible refine gate_builtin (b := .append) (xs := #[.tmp 20, .tmp 21]) rfl ?_); at_builtin; go_loud (refine Kd.R_append_rows k32 (w0 := w0) w0.heap.size rfl (.tmp 20) (.tmp 21) 40 32 (.agg #[(.int .i64 0), (.int .i64 0), (.int .i64 0), (.int .i64 0), (.int .i64 0), (.int .i64 0), (.int .i64 0), (.int .i64 0), (.int .i64 0), (.int .i64 0), (.string ⟨#[]⟩), (.slice none 0 0), (.int .i64 0), (.slice none 0 0)]) 152 rfl Try.underlying40 info32 rfl (by decide) (by omega) (.slice none 0 0) [] ps _ ps.length vc (fun _ => True) (fun _ => True) rfl rfl (Kd.R_nil _ _ _ _ _) hr1 (fun _ _ h => h) (fun k hk => ⟨trivial, by simp [Value.ownBlock]⟩) (fun _ _ => trivial) (below_step HB.out hbW) (Nat.le_trans HB.out.size hbW.size) (by simp only [List.length_nil]; omega) ?_); intro V2 w2 hV2 hB2 hg2 hat2; go_loud (have hx2 := (hg2.block W.heap.size (Array.getElem?_eq_some_iff.1 hx1).1 (by simp [Value.ownBlock])).trans hx1); have u0_ := blk_cell hx2 0; have u1_ := blk_cell hx2 1; have u2_ := blk_cell hx2 2; have u3_ := blk_cell hx2 3; have u4_ := blk_cell hx2 4; have u5_ := blk_cell hx2 5; have u6_ := blk_cell hx2 6; have u7_ := blk_cell hx2 7; have u8_ := blk_cell hx2 8; have u9_ := blk_cell hx2 9; have u10_ := blk_cell hx2 10; have u11_ := blk_cell hx2 11; have u12_ := blk_cell hx2 12; have u13_ := blk_cell hx2 13; go_loud (have hA2 := Kd.R_grown hA1 hg2 (fun k _ e => by simp [Value.ownBlock] at e)); go_loud (have hD2 := Kd.R_grown hD1 hg2 (fun k _ e => by simp [Value.ownBlock] at e)))
        | ((with_reducible refine gate_builtin (b := .append) (xs := #[.tmp 23, .tmp 25]) rfl ?_); at_builtin; go_loud (have hW3 := below_alloc (Below.refl w2.heap.size w2) (.cells #[.int .i64 r0, .int .i64 t, .int .i64 r2, .int .i64 r3, .int .i64 r4, .int .i64 r5, .int .i64 r6, .int .i64 r7, .int .i64 r8, .int .i64 r9, .string rs, .slice AX rn.length cX, .int .i64 r12, .slice DX rb.length dX] 32)); go_loud (have hm3 := ask_made (r0 := r0) (r1 := t) (r2 := r2) (r3 := r3) (r4 := r4) (r5 := r5) (r6 := r6) (r7 := r7) (r8 := r8) (r9 := r9) (r12 := r12) (rs := rs) hV2 hW3 (Nat.le_refl _) (Kd.R_below hA2 hW3) (Kd.R_below hD2 hW3)); go_loud (refine Kd.R_append_rows k32 (w0 := w0) w0.heap.size rfl (.tmp 23) (.tmp 25) 40 32 (.agg #[(.int .i64 0), (.int .i64 0), (.int .i64 0), (.int .i64 0), (.int .i64 0), (.int .i64 0), (.int .i64 0), (.int .i64 0), (.int .i64 0), (.int .i64 0), (.string ⟨#[]⟩), (.slice none 0 0), (.int .i64 0), (.slice none 0 0)]) 152 rfl Try.underlying40 info32 rfl (by decide) (by omega) _ ([] ++ ps) [(⟨r0, t, r2, r3, r4, r5, r6, r7, r8, r9, rs, rn, r12, rb⟩ : S32)] _ 1 1 (fun _ => True) _ rfl rfl (Kd.R_below hV2 hW3) (one_row1 hm3) (fun _ _ h => h) (fun k hk => ⟨trivial, hk⟩) (fun _ _ => trivial) (below_step hB2 hW3) (Nat.le_trans hB2.size hW3.size) (by simp only [List.nil_append]; omega) ?_); intro V4 w4 hV4 hB4 hg4 hat4))
      go_ret2
      obtain ⟨VB, vb, rfl, -, -⟩ := Kd.R_reads hV4
      have hb2 : Below W.heap.size W w2 := pw_below_grown hbW _ hbW.size hg2 (fun g hg => by simp [Value.ownBlock] at hg)
      have hb3 := below_step hb2 hW3
      have hb4 : Below W.heap.size W w4 := pw_below_grown hb3 _ hb3.size hg4 (fun g hg => by
        have hg' : V2.ownBlock = some g := hg
        rcases hat2 with h | ⟨b', h, hb'⟩
        · rw [h] at hg'; simp [Value.ownBlock] at hg'
        · rw [h] at hg'; cases hg'; exact Nat.le_trans hbW.size hb')
      exact ⟨VB, vb, rfl, hV4, hb4⟩
theorem ret_ask1 {fn : Func} {p : Tmp} (h : fn.results = #[.cell p 32]) (tmps : Array Value) (w : World) (g : Nat) (cs : List Value) (hl : cs.length = 14) (hp : tmps.getD p undef = .pointer (some ⟨g, 0, none⟩)) (hg : w.heap[g]? = some (.cells cs.toArray 32 (0, 0))) : (results fn tmps).run Try.prog w = .ok (.agg cs.toArray) w :=
  results_cell_row h tmps w g 32 cs.toArray (0, 0) _ hp hg Try.underlying32 rfl (by simp only [List.size_toArray]; rw [hl]; kernel_rfl)
theorem heap_alloc2 (w : World) (x y : Obj) : ((w.alloc x).alloc y).heap[w.heap.size + 1]? = some y := by
  have := heap_alloc_new (w.alloc x) y
  rwa [World.size_alloc] at this
set_option maxRecDepth 100000 in
set_option maxHeartbeats 20000000 in
theorem refAsk_ok (o0 o1 a0 a1 a2 a3 a4 a5 a6 a7 a8 a9 : Int) (s : ByteArray) (A : Option Addr) (c : Nat) (ns : List ByteArray) (a12 : Int) (D : Option Addr) (d : Nat) (bs : List Int) (r0 r1 r2 r3 r4 r5 r6 r7 r8 r9 : Int) (rs : ByteArray) (rn : List ByteArray) (r12 : Int) (rb : List Int)
    (h : truchmanref17_Good.f 100 a0 a1 a2 a3 a4 a5 a6 a7 a8 a9 s ns a12 bs = some (r0, r1, r2, r3, r4, r5, r6, r7, r8, r9, rs, rn, r12, rb)) (w : World) (hN : Kd.C Kd.string w A ns.length ns) (hc : ns.length ≤ c) (hB : Kd.C (Kd.int .u8) w D bs.length bs) (hd : bs.length ≤ d) :
    Calls Try.prog 21 #[.agg #[.int .i64 o0, .int .i64 o1, .int .i64 a0, .int .i64 a1, .int .i64 a2, .int .i64 a3, .int .i64 a4, .int .i64 a5, .int .i64 a6, .int .i64 a7, .int .i64 a8, .int .i64 a9, .string s, .slice A ns.length c, .int .i64 a12, .slice D bs.length d]] w fun e w' => ∃ A' c' D' d', e = .returned (.agg #[.int .i64 r0, .int .i64 (r1.tmod 10), .int .i64 r2, .int .i64 r3, .int .i64 r4, .int .i64 r5, .int .i64 r6, .int .i64 r7, .int .i64 r8, .int .i64 r9, .string rs, .slice A' rn.length c', .int .i64 r12, .slice D' rb.length d']) ∧ Kd.R Kd.string 9 w' w.heap.size (fun _ => True) (.slice A' rn.length c') rn ∧ Kd.R (Kd.int .u8) 5 w' w.heap.size (fun _ => True) (.slice D' rb.length d') rb ∧ Below w.heap.size w w' := by
  have hGd := fun W (hW : Below w.heap.size w W) => good_ok a0 a1 a2 a3 a4 a5 a6 a7 a8 a9 s A c ns a12 D d bs r0 r1 r2 r3 r4 r5 r6 r7 r8 r9 rs rn r12 rb h W (Kd.C_below hN hW) hc (Kd.C_below hB hW) hd
  have hu := Try.underlying32
  have hu2 := Try.underlying47
  clear h hN hB hc hd
  go_enter Try.func21, Try.ntmps21
  go_wp2_with (go_at_call 12; go_loud (refine (hGd _ (below_alloc (below_alloc (Below.refl _ _) _) _)).mono ?_); rintro e w1 ⟨A1, c1, D1, d1, rfl, hR1, hR2, hb1⟩; go_loud (have hz := (hb1.block (w.heap.size + 1) (by simp)).trans (heap_alloc2 w _ _)); go_loud (have zlt := (Array.getElem?_eq_some_iff.1 hz).1); have z0 := blk_cell hz 0; have y0 := blk_frozen hz 0; have z1 := blk_cell hz 1; have y1 := blk_frozen hz 1; have z2 := blk_cell hz 2; have y2 := blk_frozen hz 2; have z3 := blk_cell hz 3; have y3 := blk_frozen hz 3; have z4 := blk_cell hz 4; have y4 := blk_frozen hz 4; have z5 := blk_cell hz 5; have y5 := blk_frozen hz 5; have z6 := blk_cell hz 6; have y6 := blk_frozen hz 6; have z7 := blk_cell hz 7; have y7 := blk_frozen hz 7; have z8 := blk_cell hz 8; have y8 := blk_frozen hz 8; have z9 := blk_cell hz 9; have y9 := blk_frozen hz 9; have z10 := blk_cell hz 10; have y10 := blk_frozen hz 10; have z11 := blk_cell hz 11; have y11 := blk_frozen hz 11; have z12 := blk_cell hz 12; have y12 := blk_frozen hz 12; have z13 := blk_cell hz 13; have y13 := blk_frozen hz 13)
  change bodyPost _ _ _ _ _ ((w1.setCells (w.heap.size + 1) 0 [.int .i64 r0, .int .i64 (r1.tmod 10), .int .i64 r2, .int .i64 r3, .int .i64 r4, .int .i64 r5, .int .i64 r6, .int .i64 r7, .int .i64 r8, .int .i64 r9, .string rs, .slice A1 rn.length c1, .int .i64 r12, .slice D1 rb.length d1]).alloc _)
  have hr2 := heap_setRange (w.heap.size + 1) 32 [.int .i64 r0, .int .i64 (r1.tmod 10), .int .i64 r2, .int .i64 r3, .int .i64 r4, .int .i64 r5, .int .i64 r6, .int .i64 r7, .int .i64 r8, .int .i64 r9, .string rs, .slice A1 rn.length c1, .int .i64 r12, .slice D1 rb.length d1] 0 _ w1 hz
  have hg2 := grown_setCells (w.heap.size + 1) [.int .i64 r0, .int .i64 (r1.tmod 10), .int .i64 r2, .int .i64 r3, .int .i64 r4, .int .i64 r5, .int .i64 r6, .int .i64 r7, .int .i64 r8, .int .i64 r9, .string rs, .slice A1 rn.length c1, .int .i64 r12, .slice D1 rb.length d1] 0 w1
  have hb2 : Below w.heap.size w (w1.setCells (w.heap.size + 1) 0 [.int .i64 r0, .int .i64 (r1.tmod 10), .int .i64 r2, .int .i64 r3, .int .i64 r4, .int .i64 r5, .int .i64 r6, .int .i64 r7, .int .i64 r8, .int .i64 r9, .string rs, .slice A1 rn.length c1, .int .i64 r12, .slice D1 rb.length d1]) := below_of (below_step (below_alloc (below_alloc (Below.refl _ _) _) _) hb1) (by omega) hg2
  have hA2 := Kd.R_grown (Kd.R_mono (Kd.R_bound hR1) (ok' := fun k => w.heap.size + 2 ≤ k) (fun k hk => by have := hk.2.1; simp at this; omega)) hg2 (fun k hk e => by cases e; omega)
  have hD2 := Kd.R_grown (Kd.R_mono (Kd.R_bound hR2) (ok' := fun k => w.heap.size + 2 ≤ k) (fun k hk => by have := hk.2.1; simp at this; omega)) hg2 (fun k hk e => by cases e; omega)
  generalize w1.setCells (w.heap.size + 1) 0 [.int .i64 r0, .int .i64 (r1.tmod 10), .int .i64 r2, .int .i64 r3, .int .i64 r4, .int .i64 r5, .int .i64 r6, .int .i64 r7, .int .i64 r8, .int .i64 r9, .string rs, .slice A1 rn.length c1, .int .i64 r12, .slice D1 rb.length d1] = w2 at *
  have hr3 : w2.heap[w.heap.size + 1]? = some (.cells ([.int .i64 r0, .int .i64 (r1.tmod 10), .int .i64 r2, .int .i64 r3, .int .i64 r4, .int .i64 r5, .int .i64 r6, .int .i64 r7, .int .i64 r8, .int .i64 r9, .string rs, .slice A1 rn.length c1, .int .i64 r12, .slice D1 rb.length d1] : List Value).toArray 32 (0, 0)) := hr2
  have hb3 := below_alloc (Below.refl w2.heap.size w2) (.cells #[.int .i64 r0, .int .i64 (r1.tmod 10), .int .i64 r2, .int .i64 r3, .int .i64 r4, .int .i64 r5, .int .i64 r6, .int .i64 r7, .int .i64 r8, .int .i64 r9, .string rs, .slice A1 rn.length c1, .int .i64 r12, .slice D1 rb.length d1] 32)
  have hr4 := (hb3.block _ (Array.getElem?_eq_some_iff.1 hr3).1).trans hr3
  refine bodyPost_ret_by (v := .agg ([.int .i64 r0, .int .i64 (r1.tmod 10), .int .i64 r2, .int .i64 r3, .int .i64 r4, .int .i64 r5, .int .i64 r6, .int .i64 r7, .int .i64 r8, .int .i64 r9, .string rs, .slice A1 rn.length c1, .int .i64 r12, .slice D1 rb.length d1] : List Value).toArray) (ret_ask1 (p := 2) rfl _ _ (w.heap.size + 1) [.int .i64 r0, .int .i64 (r1.tmod 10), .int .i64 r2, .int .i64 r3, .int .i64 r4, .int .i64 r5, .int .i64 r6, .int .i64 r7, .int .i64 r8, .int .i64 r9, .string rs, .slice A1 rn.length c1, .int .i64 r12, .slice D1 rb.length d1] rfl rfl hr4) rfl ⟨A1, c1, D1, d1, rfl, ?_, ?_, below_step hb2 hb3⟩
  · exact Kd.R_mono (Kd.R_lower (Kd.R_below hA2 hb3) (by simp; omega)) (fun _ _ => trivial)
  · exact Kd.R_mono (Kd.R_lower (Kd.R_below hD2 hb3) (by simp; omega)) (fun _ _ => trivial)
theorem num_made {W : World} {x : Obj} {t : Int} : (Kd.int .i64).C ((W.alloc x).alloc (.cells #[.int .i64 t] 3)) (some ⟨W.heap.size + 1, 0, none⟩) 1 [t] := by
  refine ⟨rfl, by omega, fun _ => ⟨_, rfl, fun j p hj => ?_⟩⟩
  have hj0 : j = 0 := by
    have := (List.getElem?_eq_some_iff.1 hj).1
    simp at this
    omega
  subst hj0
  have hp : t = p := by simpa using hj
  subst hp
  refine ⟨[.int .i64 t], rfl, rfl, fun i u hu => ?_⟩
  have hi : i = 0 := by
    have := (List.getElem?_eq_some_iff.1 hu).1
    simp at this
    omega
  subst hi
  have hu' : Value.int .i64 t = u := by simpa using hu
  subst hu'
  rw [Addr.add_lit, World.cell?_alloc_at _ _ _ _ (by simp)]
  rfl
set_option maxRecDepth 100000 in
set_option maxHeartbeats 20000000 in
theorem live_ok (b : Nat) (most : Int) (css : List (List Value)) (w : World) (hT : TagsIn w b most css) : Calls Try.prog 33 #[.pointer (some ⟨b, 0, none⟩)] w fun e w' => ∃ A c, e = .returned (.slice A css.length c) ∧ Kd.R (Kd.int .i64) 3 w' w.heap.size (fun _ => True) (.slice A css.length c) (css.map tagOf) ∧ Below w.heap.size w w' := by
  have hlt := hT.lt
  have hn := hT.num
  have h8 := hT.le8
  have h8i : (css.length : Int) ≤ 8 := by omega
  have h0i : (0 : Int) ≤ css.length := by omega
  have hu := Try.underlying32
  have HT := Aside0.mk hT
  clear hT
  go_enter Try.func33, Try.ntmps33
  go_wp2
  go_region
  all_goals
    have HB1 := Aside0.mk (below_drew (Below.refl w.heap.size w))
    generalize w.drew = w1 at *
    go_wp2
    go_loopg [3, 15] css.length (fun gg s3 s15 wv => ∃ i : Nat, i ≤ css.length ∧ css.length - i ≤ gg ∧ s15 = .int .i64 i ∧ ∃ A c, s3 = .slice A i c ∧ Aside (Below w.heap.size w wv) ∧ Aside (Kd.R (Kd.int .i64) 3 wv w.heap.size (fun _ => True) (.slice A i c) ((css.map tagOf).take i)))
    case atStart => exact ⟨0, Nat.zero_le _, by omega, rfl, none, 0, rfl, HB1.out, Kd.R_nil _ _ _ _ _⟩
    case round =>
      obtain ⟨i, hi, hig, rfl, A, c, rfl, BV, HR⟩ := hrel
      by_cases hlt2 : i < css.length
      · have hltz : (i : Int) < css.length := by omega
        have hT1 := HT.out.below BV.out
        have l2 := hT1.range i hlt2
        have wq := hT1.wf i hlt2
        generalize htk : tagOf css[i] = tk at wq
        obtain ⟨i0, i2, i3, i4, i5, i6, i7, i8, i9, s, A11, n11, c_11, i12, A13, n13, c_13, hcs⟩ := wq
        rw [hcs] at l2
        have c0 := l2 0 _ rfl
        have c1 := l2 1 _ rfl
        have c2 := l2 2 _ rfl
        have c3 := l2 3 _ rfl
        have c4 := l2 4 _ rfl
        have c5 := l2 5 _ rfl
        have c6 := l2 6 _ rfl
        have c7 := l2 7 _ rfl
        have c8 := l2 8 _ rfl
        have c9 := l2 9 _ rfl
        have c10 := l2 10 _ rfl
        have c11 := l2 11 _ rfl
        have c12 := l2 12 _ rfl
        have c13 := l2 13 _ rfl
        simp only [Nat.add_zero] at c0
        have htl : ((css.map tagOf).take i).length = i := by simp; omega
        have htn : (css.map tagOf).take i ++ [tk] = (css.map tagOf).take (i + 1) := by
          rw [List.take_add_one, List.getElem?_map, List.getElem?_eq_getElem hlt2]
          simp [htk]
        clear l2 hT1 htk hcs
        go_wp2_with (at_builtin; go_loud (have hW2 := below_alloc (below_alloc (Below.refl wr.heap.size wr) (.cells #[.int .i64 i0, .int .i64 tk, .int .i64 i2, .int .i64 i3, .int .i64 i4, .int .i64 i5, .int .i64 i6, .int .i64 i7, .int .i64 i8, .int .i64 i9, .string s, .slice A11 n11 c_11, .int .i64 i12, .slice A13 n13 c_13] 32)) (.cells #[.int .i64 tk] 3)); go_loud (refine Kd.R_append_row (w0 := w) (Value.int .i64) 0 w.heap.size rfl (.tmp 19) (.tmp 22) 23 3 (.int .i64 0) 8 rfl Try.underlying23 info3 rfl (by decide) _ ((css.map tagOf).take i) [tk] _ 1 1 (fun _ => True) rfl rfl (fun _ _ => trivial) (Kd.R_below HR.out hW2) num_made (below_step BV.out hW2) (Nat.le_trans BV.out.size hW2.size) (by rw [htl]; omega) ?_); intro V4 w4 hV4 hB4 hg4 hat4)
        obtain ⟨VB, vb, hVe, -, -⟩ := Kd.R_reads hV4
        rw [htn, show ((css.map tagOf).take (i + 1)).length = i + 1 by simp; omega] at hVe
        rw [htn] at hV4
        subst hVe
        go_roundg (css.length - (i + 1))
        case measure => omega
        case rel => exact ⟨i + 1, by omega, by omega, by go_num, VB, vb, rfl, hB4, hV4⟩
      · have hltz : ¬ (i : Int) < css.length := by omega
        obtain rfl : i = css.length := by omega
        go_wp2
        go_ret
        exact ⟨A, c, rfl, by have := HR.out; rwa [List.take_of_length_le (by simp)] at this, BV.out⟩
theorem findQ_in {l : List S32} {i : Nat} {q : S32} (h : l[i]? = some q) : findQ l q.f1 < l.length := by
  unfold findQ
  rw [List.findIdx_lt_length]
  exact ⟨q, List.mem_of_getElem? h, by simp⟩
set_option maxRecDepth 100000 in
set_option maxHeartbeats 20000000 in
theorem like_ok {w0 W : World} {b : Nat} {m : Int} {VA : Option Addr} {n vc : Nat} {css : List (List Value)} {ps : List S32} (h : OnceIn w0 b m (.slice VA n vc) W css ps ps) : Calls Try.prog 22 #[.pointer (some ⟨b, 0, none⟩), .slice VA n vc] W fun e w' => e = .returned (.bool true) ∧ Below W.heap.size W w' := by
  obtain ⟨rfl, hnc, -⟩ := rows_made h.ho
  have hLive := live_ok b m css W h.ht
  have hLen := fun W' (hT : TagsIn W' b m css) => len_ok b m css W' hT
  rw [h.hl] at hLive hLen
  have hu := Try.underlying32
  have HS := Aside0.mk h
  have hp8 : ps.length ≤ 8 := by have := h.ht.le8; have := h.hl; omega
  have htg : css.map tagOf = ps.map (·.f1) := by
    refine List.ext_getElem (by simp [h.hl]) (fun j h1 h2 => ?_)
    simp only [List.getElem_map]
    exact h.tag j (by simpa using h1) (by simpa using h2)
  rw [htg] at hLive
  clear h htg
  go_enter Try.func22, Try.ntmps22
  go_wp2_with (first
    | (go_at_call 33; (with_reducible refine hLive.mono ?_); rintro e w1 ⟨AL, cL, rfl, hL, hb1⟩)
    | (go_at_call 16; (with_reducible refine (hLen _ (HS.out.ht.below hb1)).mono ?_); rintro e w2 ⟨rfl, hb2⟩))
  have HL := Aside0.mk (Kd.R_below hL hb2)
  have HB2 := Aside0.mk (below_step hb1 hb2)
  clear hL hb1 hb2 hLive hLen
  go_loopg [6] ps.length (fun gg s6 wv => ∃ i : Nat, i ≤ ps.length ∧ ps.length - i ≤ gg ∧ s6 = .int .i64 i ∧ Aside (Below W.heap.size W wv) ∧ Aside (Kd.R (Kd.int .i64) 3 wv W.heap.size (fun _ => True) (.slice AL ps.length cL) (ps.map (·.f1))))
  case atStart => exact ⟨0, Nat.zero_le _, by omega, rfl, HB2.out, HL.out⟩
  case round =>
    obtain ⟨i, hi, hig, rfl, BV, HR⟩ := hrel
    by_cases hlt : i < ps.length
    · have hltz : (i : Int) < ps.length := by omega
      obtain ⟨q, hq⟩ : ∃ q, ps[i]? = some q := ⟨_, List.getElem?_eq_getElem hlt⟩
      have hS := HS.out.below BV.out
      obtain ⟨ad, AO, cO, DO, dO, rfl, y0, y1, -⟩ := own_at hS.ho i hq
      obtain ⟨ad1, rfl, hx1⟩ := Kd.at_int (Kd.R_reads' HR.out).2.2 (i : Int) (by omega) (by simp; omega)
      rw [Int.toNat_natCast, show rd (ps.map (·.f1)) (i : Int) = q.f1 by
        obtain ⟨hl', e⟩ := List.getElem?_eq_some_iff.1 hq
        simp [rd, e, hl']] at hx1
      have hHas := fun W' (hT : TagsIn W' b m css) => has_ok b m q.f1 css W' hT
      rw [decide_eq_true (show findN css q.f1 < css.length by rw [findQ_css hS, hS.hl]; exact findQ_in hq)] at hHas
      have HT := Aside0.mk hS.ht
      clear hS
      go_wp2
      go_region_with (go_at_call 15; go_loud (refine (hHas _ (HT.out.below (below_drew (Below.refl _ _)))).mono ?_); rintro e w3 ⟨rfl, hb3⟩)
      all_goals go_wp2
      all_goals
        go_roundg (ps.length - (i + 1))
        case measure => omega
        case rel => exact ⟨i + 1, by omega, by omega, by go_num, below_step BV.out (below_step (below_drew (Below.refl _ _)) hb3), Kd.R_below HR.out (below_step (below_drew (Below.refl _ _)) hb3)⟩
    · have hltz : ¬ (i : Int) < ps.length := by omega
      go_wp2
      go_ret
      exact ⟨rfl, BV.out⟩

end Go.Proofs.Ytenhnkldhodegaa.R
