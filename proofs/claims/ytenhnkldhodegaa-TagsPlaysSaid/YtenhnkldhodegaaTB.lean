import Derived.Test.YtenhnkldhodegaaTA
import Derived.Outline
import Derived.Shelf.Abstract
import Derived.Deep.LoopGhost
import Derived.Deep.Draws
import Derived.Laws.EntriesVeiled
import Derived.Laws.ResultCell
import Derived.Laws.Rows
import Derived.Deep.QuietTactic
import Derived.Deep.RegionWith
import Derived.BigQuiet
import Derived.Deep.MidRow
import Derived.Laws.Tables
import Derived.Deep.WholeRow
import Derived.Lib.SliceRun
import Derived.LaidEql
import Derived.RowKitTokens
import Derived.Stop.Asserts
import Derived.Laws.CopyRow
import Derived.Lib.BufferRead
import Derived.Lib.SlBytesRow
import Derived.Test.YtenhnkldhodegaaGd0
import Derived.Test.YtenhnkldhodegaaGd1
import Derived.Deep.RegionLaw
import Derived.Deep.Slices
import Derived.Deep.Strs
import Derived.ChangeSlices
namespace Go.Proofs.Ytenhnkldhodegaa.R
open Go.RowKit Go.Proofs.YtenhnkldhodegaaW.PrintWords Go.Proofs.YtenhnkldhodegaaW.PrintLast Go.Proofs.YtenhnkldhodegaaW.PrintMore
attribute [local go_sem] max2_int min2_int max_two min_two max_three min_three max_four min_four   -- for this text's walks alone
set_option linter.unusedVariables false
set_option linter.unusedSimpArgs false
theorem own_at2 {w : World} {base : Nat} {A : Option Addr} {n c : Nat} {xs : List S32} {q : S32} (h : Kd.R k32 32 w base (fun _ => True) (.slice A n c) xs) (i : Nat) (hq : xs[i]? = some q) : ∃ ad A11 c11 A13 c13, A = some ad ∧ w.cell? (ad.add (i * 14)) = some (.int .i64 q.f0) ∧ w.cell? ⟨(ad.add (i * 14)).block, (ad.add (i * 14)).off + 1, none⟩ = some (.int .i64 q.f1) ∧ w.cell? ⟨(ad.add (i * 14)).block, (ad.add (i * 14)).off + 2, none⟩ = some (.int .i64 q.f2) ∧ w.cell? ⟨(ad.add (i * 14)).block, (ad.add (i * 14)).off + 3, none⟩ = some (.int .i64 q.f3) ∧ w.cell? ⟨(ad.add (i * 14)).block, (ad.add (i * 14)).off + 4, none⟩ = some (.int .i64 q.f4) ∧ w.cell? ⟨(ad.add (i * 14)).block, (ad.add (i * 14)).off + 5, none⟩ = some (.int .i64 q.f5) ∧ w.cell? ⟨(ad.add (i * 14)).block, (ad.add (i * 14)).off + 6, none⟩ = some (.int .i64 q.f6) ∧ w.cell? ⟨(ad.add (i * 14)).block, (ad.add (i * 14)).off + 7, none⟩ = some (.int .i64 q.f7) ∧ w.cell? ⟨(ad.add (i * 14)).block, (ad.add (i * 14)).off + 8, none⟩ = some (.int .i64 q.f8) ∧ w.cell? ⟨(ad.add (i * 14)).block, (ad.add (i * 14)).off + 9, none⟩ = some (.int .i64 q.f9) ∧ w.cell? ⟨(ad.add (i * 14)).block, (ad.add (i * 14)).off + 10, none⟩ = some (.string q.f10) ∧ w.cell? ⟨(ad.add (i * 14)).block, (ad.add (i * 14)).off + 11, none⟩ = some (.slice A11 q.f11.length c11) ∧ w.cell? ⟨(ad.add (i * 14)).block, (ad.add (i * 14)).off + 12, none⟩ = some (.int .i64 q.f12) ∧ w.cell? ⟨(ad.add (i * 14)).block, (ad.add (i * 14)).off + 13, none⟩ = some (.slice A13 q.f13.length c13) ∧ Kd.R Kd.string 9 w base (fun _ => True) (.slice A11 q.f11.length c11) q.f11 ∧ Kd.R (Kd.int .u8) 5 w base (fun _ => True) (.slice A13 q.f13.length c13) q.f13 := by
  obtain ⟨A', c', he, hl, hr⟩ := OwnRow.reads h.2
  injection he with h1 h2 h3
  subst h1 h2 h3
  obtain ⟨hi, e⟩ := List.getElem?_eq_some_iff.1 hq
  obtain ⟨ad, cs, hA, -, hM, hc0⟩ := ReadsRow.get_ hr z32 (i : Int) (by omega) (by omega)
  rw [Int.toNat_natCast] at hM hc0
  rw [show xs.getD i z32 = q by simp [hi, e]] at hM
  have hc : ∀ j u, cs[j]? = some u → w.cell? (ad.add (i * 14 + j)) = some u := hc0
  obtain ⟨v11, v13, rfl, g11, g13⟩ := k32_openM hM
  obtain ⟨A11, c11, rfl, l11, k11⟩ := Kd.R_reads g11
  obtain ⟨A13, c13, rfl, l13, k13⟩ := Kd.R_reads g13
  exact ⟨ad, A11, c11, A13, c13, hA, hc 0 _ rfl, by rw [← add_field _ _ 1 (by omega)]; exact hc 1 _ rfl, by rw [← add_field _ _ 2 (by omega)]; exact hc 2 _ rfl, by rw [← add_field _ _ 3 (by omega)]; exact hc 3 _ rfl, by rw [← add_field _ _ 4 (by omega)]; exact hc 4 _ rfl, by rw [← add_field _ _ 5 (by omega)]; exact hc 5 _ rfl, by rw [← add_field _ _ 6 (by omega)]; exact hc 6 _ rfl, by rw [← add_field _ _ 7 (by omega)]; exact hc 7 _ rfl, by rw [← add_field _ _ 8 (by omega)]; exact hc 8 _ rfl, by rw [← add_field _ _ 9 (by omega)]; exact hc 9 _ rfl, by rw [← add_field _ _ 10 (by omega)]; exact hc 10 _ rfl, by rw [← add_field _ _ 11 (by omega)]; exact hc 11 _ rfl, by rw [← add_field _ _ 12 (by omega)]; exact hc 12 _ rfl, by rw [← add_field _ _ 13 (by omega)]; exact hc 13 _ rfl, Kd.R_mono g11 (fun _ _ => trivial), Kd.R_mono g13 (fun _ _ => trivial)⟩
theorem ret_pick {fn : Func} {r p u : Tmp} (h : fn.results = #[.tmp r, .cell p 32, .tmp u]) (tmps : Array Value) (w : World) (g : Nat) (cs : List Value) (hl : cs.length = 14) (hp : tmps.getD p undef = .pointer (some ⟨g, 0, none⟩)) (hg : w.heap[g]? = some (.cells cs.toArray 32 (0, 0))) : (results fn tmps).run Try.prog w = .ok (.tuple #[tmps.getD r undef, .agg cs.toArray, tmps.getD u undef]) w := by
  have hp' : tmps[p]?.getD undef = .pointer (some ⟨g, 0, none⟩) := by simpa using hp
  have hlv := run_loadVar_row (P := Try.prog) w g 32 32 cs.toArray (0, 0) _ hg Try.underlying32 rfl (by
    have : (Try.prog.info? 32).map (·.size) = some 14 := by kernel_rfl
    rw [this]; simp [hl])
  simp [results, h, hp', asAddr, Result.andThen, hlv]
theorem made_ne {w0 W : World} {V : Value} {os : List S32} (hV : Kd.R k32 32 W w0.heap.size (fun _ => True) V os) {q : S32} {c : List Value} (h : k32.M W w0.heap.size (fun _ => True) q c) : k32.M W w0.heap.size (fun k => some k ≠ V.ownBlock) q c :=
  k32.M_mono (fun k hk => by
    obtain ⟨-, -, -, t, ht, cells, hc⟩ := hk
    exact typed_ne hV (Below.refl _ _) (k32_types ht) hc) (k32.M_bound h)
theorem R_ne {w : World} {base : Nat} {V : Value} {os : List S32} {g : Nat} {cells : Array Value} (h : Kd.R k32 32 w base (fun _ => True) V os) (hg : w.heap[g]? = some (.cells cells 32 (0, 0))) (hn : some g ≠ V.ownBlock) : Kd.R k32 32 w base (fun k => k ≠ g) V os :=
  ⟨fun k hk e => hn (by rw [hk, e]), h.2.imp_ (fun _ _ hp => k32.M_mono (fun k hk => ⟨fun e => by
    obtain ⟨-, -, -, t, ht, cs, hc⟩ := hk
    subst e
    rw [hg] at hc
    simp at hc
    rcases k32_types ht with h | h <;> simp [h] at hc, hk.1.2⟩) (k32.M_bound hp))⟩
theorem rows_drop_any {R : S32 → List Value → Prop} {W : World} {ad : Addr} {l : List S32} (h : ReadsRow R 14 W (some ad) l.length l) (k : Nat) (A : Option Addr) (hA : k < l.length → A = some (ad.add (k * 14))) : ReadsRow R 14 W A (l.length - k) (l.drop k) := by
  by_cases hk : k < l.length
  · rw [hA hk]
    exact rows_drop h k (by omega)
  · refine ⟨by simp, by have := h.2.1; omega, fun h0 => by omega⟩
set_option maxRecDepth 100000 in
set_option maxHeartbeats 20000000 in
theorem refPick_none {W : World} {VA : Option Addr} {n vc : Nat} (k : Int) (hk : k < 0 ∨ (n : Int) ≤ k) : Calls Try.prog 18 #[.slice VA n vc, .int .i64 k] W fun e w' => e = .returned (.tuple #[.slice VA n vc, .agg zq.toArray, .int .i64 6]) ∧ Below W.heap.size W w' := by
  have hu := Try.underlying32
  by_cases h1 : k < 0
  · go_enter Try.func18, Try.ntmps18
    go_wp2
    refine bodyPost_ret_by (v := .tuple #[.slice VA n vc, .agg zq.toArray, .int .i64 6]) (ret_pick (r := 4) (p := 5) (u := 6) rfl _ _ W.heap.size zq rfl rfl (heap_alloc_new W _)) rfl ⟨rfl, below_alloc (Below.refl _ _) _⟩
  · have h2 : (n : Int) ≤ k := by omega
    go_enter Try.func18, Try.ntmps18
    go_wp2
    refine bodyPost_ret_by (v := .tuple #[.slice VA n vc, .agg zq.toArray, .int .i64 6]) (ret_pick (r := 4) (p := 5) (u := 6) rfl _ _ W.heap.size zq rfl rfl (heap_alloc_new W _)) rfl ⟨rfl, below_alloc (Below.refl _ _) _⟩
set_option maxRecDepth 100000 in
set_option maxHeartbeats 20000000 in
theorem refPick_ok {w0 W : World} {VA : Option Addr} {n vc : Nat} {ps : List S32} {q : S32} (k : Nat) (hq : ps[k]? = some q) (hV : Kd.R k32 32 W w0.heap.size (fun _ => True) (.slice VA n vc) ps) (hB : Below w0.heap.size w0 W) (hl : ps.length ≤ 1000) :
    Calls Try.prog 18 #[.slice VA n vc, .int .i64 k] W fun e w' => ∃ VB vb AO cO DO dO, e = .returned (.tuple #[.slice VB (ps.eraseIdx k).length vb, .agg #[.int .i64 q.f0, .int .i64 q.f1, .int .i64 q.f2, .int .i64 q.f3, .int .i64 q.f4, .int .i64 q.f5, .int .i64 q.f6, .int .i64 q.f7, .int .i64 q.f8, .int .i64 q.f9, .string q.f10, .slice AO q.f11.length cO, .int .i64 q.f12, .slice DO q.f13.length dO], .int .i64 0]) ∧ Kd.R k32 32 w' w0.heap.size (fun _ => True) (.slice VB (ps.eraseIdx k).length vb) (ps.eraseIdx k) ∧ Kd.R Kd.string 9 w' w0.heap.size (fun _ => True) (.slice AO q.f11.length cO) q.f11 ∧ Kd.R (Kd.int .u8) 5 w' w0.heap.size (fun _ => True) (.slice DO q.f13.length dO) q.f13 ∧ Below W.heap.size W w' := by
  obtain ⟨rfl, hnc, -⟩ := rows_made hV
  have hu := Try.underlying32
  have hk := (List.getElem?_eq_some_iff.1 hq).1
  obtain ⟨ad, AO, cO, DO, dO, rfl, y0, y1, y2, y3, y4, y5, y6, y7, y8, y9, y10, y11, y12, y13, hRO, hRD⟩ := own_at2 hV k hq
  have HV := Aside0.mk hV
  have HB := Aside0.mk hB
  have k0 : ¬ (k : Int) < 0 := by omega
  have k1 : ¬ (ps.length : Int) ≤ k := by omega
  have k2 : (k : Int) < ps.length := by omega
  have k3 : (k : Int) ≤ vc := by omega
  have k4 : (0 : Int) ≤ k := by omega
  have k5 : (k : Int) + 1 ≤ ps.length := by omega
  have k6 : (k : Int) + 1 ≤ vc := by omega
  have k7 : (0 : Int) ≤ (k : Int) + 1 := by omega
  have hwk : IntKind.i64.wrap ((k : Int) + 1) = (k : Int) + 1 := by rw [IntKind.wrap_i64]; omega
  clear hV hB
  go_enter Try.func18, Try.ntmps18
  go_wp2_with ((with_reducible refine gate_builtin (b := .append) (xs := #[.tmp 18, .tmp 21]) rfl ?_); at_builtin; go_loud (have hW1 := below_alloc (Below.refl W.heap.size W) (.cells #[.int .i64 0, .int .i64 0, .int .i64 0, .int .i64 0, .int .i64 0, .int .i64 0, .int .i64 0, .int .i64 0, .int .i64 0, .int .i64 0, .string ⟨#[]⟩, .slice none 0 0, .int .i64 0, .slice none 0 0] 32)); go_loud (have hr1 := (rows_made (Kd.R_below HV.out hW1)).2.2); go_loud (refine Kd.R_append_rows k32 (w0 := w0) w0.heap.size rfl (.tmp 18) (.tmp 21) 40 32 (.agg #[(.int .i64 0), (.int .i64 0), (.int .i64 0), (.int .i64 0), (.int .i64 0), (.int .i64 0), (.int .i64 0), (.int .i64 0), (.int .i64 0), (.int .i64 0), (.string ⟨#[]⟩), (.slice none 0 0), (.int .i64 0), (.slice none 0 0)]) 152 rfl Try.underlying40 info32 rfl (by decide) (by omega) (.slice none 0 0) [] (ps.take k) _ k vc (fun _ => True) (fun _ => True) rfl rfl (Kd.R_nil _ _ _ _ _) (rows_take hr1 k (Nat.le_of_lt hk)) (fun _ _ h => h) (fun k hk => ⟨trivial, by simp [Value.ownBlock]⟩) (fun _ _ => trivial) (below_step HB.out hW1) (Nat.le_trans HB.out.size hW1.size) (by simp only [List.length_nil]; omega) ?_); intro V2 w2 hV2 hB2 hg2 hat2)
  have hd2 := below_drew (Below.refl w2.heap.size w2)
  have hV3 := Kd.R_below hV2 hd2
  have hB3 := below_step hB2 hd2
  have hW2 : Below W.heap.size W w2 := pw_below_grown hW1 _ hW1.size hg2 (fun g hg => by simp [Value.ownBlock] at hg)
  have hVW := Kd.R_below HV.out (below_step hW2 hd2)
  have hr3 := rows_drop_any (rows_made hVW).2.2 (k + 1) (if vc = k + 1 then some ad else some (ad.add ((k + 1) * 14))) (fun h => if_neg (by omega))
  have hr4 := hr3.imp_ (Below.refl _ _) (fun _ _ h => made_ne hV3 h)
  clear hr3
  generalize hAA : (if vc = k + 1 then some ad else some (ad.add ((k + 1) * 14))) = AA at *
  have hWd := below_step hW2 hd2
  have hV2b : ∀ g, V2.ownBlock = some g → W.heap.size < g := fun g hg => by
    rcases hat2 with h | ⟨b', h, hb'⟩
    · rw [h] at hg; simp [Value.ownBlock] at hg
    · rw [h] at hg; cases hg; simp at hb'; omega
  have hz2 := (hd2.block W.heap.size (by have := hg2.size; simp at this; omega)).trans ((hg2.block W.heap.size (by simp) (by simp [Value.ownBlock])).trans (heap_alloc_new W _))
  have e0 := pw_cell_below hWd y0
  have e1 := pw_cell_below hWd y1
  have e2 := pw_cell_below hWd y2
  have e3 := pw_cell_below hWd y3
  have e4 := pw_cell_below hWd y4
  have e5 := pw_cell_below hWd y5
  have e6 := pw_cell_below hWd y6
  have e7 := pw_cell_below hWd y7
  have e8 := pw_cell_below hWd y8
  have e9 := pw_cell_below hWd y9
  have e10 := pw_cell_below hWd y10
  have e11 := pw_cell_below hWd y11
  have e12 := pw_cell_below hWd y12
  have e13 := pw_cell_below hWd y13
  clear hd2 hVW
  go_region_law (refine Kd.R_append_rows_step k32 (w0 := w0) w0.heap.size rfl (.tmp 23) (.tmp 27) 40 32 (.agg #[(.int .i64 0), (.int .i64 0), (.int .i64 0), (.int .i64 0), (.int .i64 0), (.int .i64 0), (.int .i64 0), (.int .i64 0), (.int .i64 0), (.int .i64 0), (.string ⟨#[]⟩), (.slice none 0 0), (.int .i64 0), (.slice none 0 0)]) 152 rfl Try.underlying40 info32 rfl (by decide) (by omega) V2 ([] ++ ps.take k) (ps.drop (k + 1)) AA (ps.length - (k + 1)) (vc - (k + 1)) (fun _ => True) (fun k => some k ≠ V2.ownBlock) (by simp [Act.eval, Act.put]) (by simp [Act.eval, Act.put]) hV3 hr4 (fun _ _ h => h) (fun k hk => ⟨trivial, hk⟩) (fun _ _ => trivial) hB3 hB3.size (by simp; omega) ?_; intro V4 w4 hV4 hB4 hg4 hat4; have hW4 : Below W.heap.size W w4 := pw_below_grown hWd _ hWd.size hg4 (fun g hg => Nat.le_of_lt (hV2b g hg)); have hz4 := (hg4.block W.heap.size (Array.getElem?_eq_some_iff.1 hz2).1 (fun e => Nat.lt_irrefl _ (hV2b _ e.symm))).trans hz2; have f0 := pw_cell_below hW4 y0; have g0 := blk_frozen hz4 0; have h0 := blk_cell hz4 0; have f1 := pw_cell_below hW4 y1; have g1 := blk_frozen hz4 1; have h1 := blk_cell hz4 1; have f2 := pw_cell_below hW4 y2; have g2 := blk_frozen hz4 2; have h2 := blk_cell hz4 2; have f3 := pw_cell_below hW4 y3; have g3 := blk_frozen hz4 3; have h3 := blk_cell hz4 3; have f4 := pw_cell_below hW4 y4; have g4 := blk_frozen hz4 4; have h4 := blk_cell hz4 4; have f5 := pw_cell_below hW4 y5; have g5 := blk_frozen hz4 5; have h5 := blk_cell hz4 5; have f6 := pw_cell_below hW4 y6; have g6 := blk_frozen hz4 6; have h6 := blk_cell hz4 6; have f7 := pw_cell_below hW4 y7; have g7 := blk_frozen hz4 7; have h7 := blk_cell hz4 7; have f8 := pw_cell_below hW4 y8; have g8 := blk_frozen hz4 8; have h8 := blk_cell hz4 8; have f9 := pw_cell_below hW4 y9; have g9 := blk_frozen hz4 9; have h9 := blk_cell hz4 9; have f10 := pw_cell_below hW4 y10; have g10 := blk_frozen hz4 10; have h10 := blk_cell hz4 10; have f11 := pw_cell_below hW4 y11; have g11 := blk_frozen hz4 11; have h11 := blk_cell hz4 11; have f12 := pw_cell_below hW4 y12; have g12 := blk_frozen hz4 12; have h12 := blk_cell hz4 12; have f13 := pw_cell_below hW4 y13; have g13 := blk_frozen hz4 13; have h13 := blk_cell hz4 13)
  all_goals go_wp2
  all_goals
    change bodyPost _ _ _ _ _ (w4.setCells W.heap.size 0 [.int .i64 q.f0, .int .i64 q.f1, .int .i64 q.f2, .int .i64 q.f3, .int .i64 q.f4, .int .i64 q.f5, .int .i64 q.f6, .int .i64 q.f7, .int .i64 q.f8, .int .i64 q.f9, .string q.f10, .slice AO q.f11.length cO, .int .i64 q.f12, .slice DO q.f13.length dO])
    have hr5 := heap_setRange W.heap.size 32 [.int .i64 q.f0, .int .i64 q.f1, .int .i64 q.f2, .int .i64 q.f3, .int .i64 q.f4, .int .i64 q.f5, .int .i64 q.f6, .int .i64 q.f7, .int .i64 q.f8, .int .i64 q.f9, .string q.f10, .slice AO q.f11.length cO, .int .i64 q.f12, .slice DO q.f13.length dO] 0 _ w4 hz4
    have hg5 := grown_setCells W.heap.size [.int .i64 q.f0, .int .i64 q.f1, .int .i64 q.f2, .int .i64 q.f3, .int .i64 q.f4, .int .i64 q.f5, .int .i64 q.f6, .int .i64 q.f7, .int .i64 q.f8, .int .i64 q.f9, .string q.f10, .slice AO q.f11.length cO, .int .i64 q.f12, .slice DO q.f13.length dO] 0 w4
    have hb5 : Below W.heap.size W (w4.setCells W.heap.size 0 [.int .i64 q.f0, .int .i64 q.f1, .int .i64 q.f2, .int .i64 q.f3, .int .i64 q.f4, .int .i64 q.f5, .int .i64 q.f6, .int .i64 q.f7, .int .i64 q.f8, .int .i64 q.f9, .string q.f10, .slice AO q.f11.length cO, .int .i64 q.f12, .slice DO q.f13.length dO]) := below_of hW4 (Nat.le_refl _) hg5
    have hV5 : Kd.R k32 32 (w4.setCells W.heap.size 0 [.int .i64 q.f0, .int .i64 q.f1, .int .i64 q.f2, .int .i64 q.f3, .int .i64 q.f4, .int .i64 q.f5, .int .i64 q.f6, .int .i64 q.f7, .int .i64 q.f8, .int .i64 q.f9, .string q.f10, .slice AO q.f11.length cO, .int .i64 q.f12, .slice DO q.f13.length dO]) w0.heap.size (fun _ => True) V4 ([] ++ ps.take k ++ ps.drop (k + 1)) := by
      have hb4 : ∀ g, V4.ownBlock = some g → W.heap.size < g := fun g hg => by
        rcases hat4 with h | ⟨b', h, hb'⟩
        · rw [h] at hg; exact hV2b g hg
        · rw [h] at hg; cases hg; have := hWd.size; have := (Array.getElem?_eq_some_iff.1 hz2).1; omega
      exact Kd.R_mono (Kd.R_grown (R_ne hV4 hz4 (fun e => Nat.lt_irrefl _ (hb4 _ e.symm))) hg5 (fun k hk e => hk (by cases e; rfl))) (fun _ _ => trivial)
    generalize w4.setCells W.heap.size 0 [.int .i64 q.f0, .int .i64 q.f1, .int .i64 q.f2, .int .i64 q.f3, .int .i64 q.f4, .int .i64 q.f5, .int .i64 q.f6, .int .i64 q.f7, .int .i64 q.f8, .int .i64 q.f9, .string q.f10, .slice AO q.f11.length cO, .int .i64 q.f12, .slice DO q.f13.length dO] = w5 at *
    rw [List.nil_append, ← List.eraseIdx_eq_take_drop_succ] at hV5
    obtain ⟨VB, vb, hVe, -, -⟩ := Kd.R_reads hV5
    subst hVe
    refine bodyPost_ret_by (v := .tuple #[.slice VB (ps.eraseIdx k).length vb, .agg ([.int .i64 q.f0, .int .i64 q.f1, .int .i64 q.f2, .int .i64 q.f3, .int .i64 q.f4, .int .i64 q.f5, .int .i64 q.f6, .int .i64 q.f7, .int .i64 q.f8, .int .i64 q.f9, .string q.f10, .slice AO q.f11.length cO, .int .i64 q.f12, .slice DO q.f13.length dO] : List Value).toArray, .int .i64 0]) (ret_pick (r := 4) (p := 5) (u := 6) rfl _ _ W.heap.size [.int .i64 q.f0, .int .i64 q.f1, .int .i64 q.f2, .int .i64 q.f3, .int .i64 q.f4, .int .i64 q.f5, .int .i64 q.f6, .int .i64 q.f7, .int .i64 q.f8, .int .i64 q.f9, .string q.f10, .slice AO q.f11.length cO, .int .i64 q.f12, .slice DO q.f13.length dO] rfl rfl hr5) rfl ⟨VB, vb, AO, cO, DO, dO, rfl, hV5, Kd.R_below hRO hb5, Kd.R_below hRD hb5, hb5⟩
set_option maxRecDepth 100000 in
set_option maxHeartbeats 20000000 in
theorem refFlush_ok {w0 W : World} {VA : Option Addr} {n vc : Nat} {ps : List S32} (tag : Int) (hV : Kd.R k32 32 W w0.heap.size (fun _ => True) (.slice VA n vc) ps) (hB : Below w0.heap.size w0 W) (hl : ps.length ≤ 1000) :
    Calls Try.prog 19 #[.slice VA n vc, .int .i64 tag] W fun e w' => ∃ VB vb, e = .returned (.tuple #[.slice VB (ps.eraseIdx (findQ ps tag)).length vb, .bool (decide (findQ ps tag < ps.length))]) ∧ Kd.R k32 32 w' w0.heap.size (fun _ => True) (.slice VB (ps.eraseIdx (findQ ps tag)).length vb) (ps.eraseIdx (findQ ps tag)) ∧ Below W.heap.size W w' := by
  obtain ⟨rfl, hnc, -⟩ := rows_made hV
  have hF := fun W1 (h : Below W.heap.size W W1) => refFind_ok VA vc ps tag W1 (Kd.C_below (Kd.R_reads' hV).2.2 h)
  have hu := Try.underlying32
  have HV := Aside0.mk hV
  have HB := Aside0.mk hB
  clear hV hB
  by_cases hf : findQ ps tag < ps.length
  · rw [show findQI ps tag = (findQ ps tag : Int) by unfold findQI; rw [if_pos hf]] at hF
    rw [decide_eq_true hf]
    generalize findQ ps tag = k at hf hF
    have hP := fun W1 (h : Below W.heap.size W W1) => refPick_ok k (List.getElem?_eq_getElem hf) (Kd.R_below HV.out h) (below_step HB.out h) hl
    go_enter Try.func19, Try.ntmps19
    go_wp2_with (first
      | (go_at_call 23; (with_reducible refine (hF _ (Below.refl _ _)).mono ?_); rintro e w1 ⟨rfl, hb1⟩)
      | (go_at_call 18; (with_reducible refine (hP _ hb1).mono ?_); rintro e w2 ⟨VB, vb, AO, cO, DO, dO, rfl, hV2, -, -, hb2⟩))
    go_ret2
    exact ⟨VB, vb, rfl, Kd.R_below hV2 (below_alloc (Below.refl _ _) _), below_alloc (below_step hb1 hb2) _⟩
  · have hfl : findQ ps tag = ps.length := by
      have : findQ ps tag ≤ ps.length := List.findIdx_le_length
      omega
    rw [show findQI ps tag = -1 by unfold findQI; rw [if_neg hf]] at hF
    rw [decide_eq_false hf, hfl, show ps.eraseIdx ps.length = ps from List.eraseIdx_of_length_le (Nat.le_refl _)]
    have hP := fun W1 => refPick_none (W := W1) (VA := VA) (n := ps.length) (vc := vc) (-1) (.inl (by omega))
    simp only [zq] at hP
    clear hf hfl
    go_enter Try.func19, Try.ntmps19
    go_wp2_with (first
      | (go_at_call 23; (with_reducible refine (hF _ (Below.refl _ _)).mono ?_); rintro e w1 ⟨rfl, hb1⟩)
      | (go_at_call 18; (with_reducible refine (hP _).mono ?_); rintro e w2 ⟨rfl, hb2⟩))
    go_ret2
    exact ⟨VA, vc, rfl, Kd.R_below HV.out (below_alloc (below_step hb1 hb2) _), below_alloc (below_step hb1 hb2) _⟩
/-! What is done, told of the requests that wait alone. -/
def pickQ (ps : List S32) (K : Int) : S32 := if 0 ≤ K ∧ K < ps.length then ps.getD K.toNat z32 else z32
def pickC (ps : List S32) (K : Int) : Int := if 0 ≤ K ∧ K < ps.length then 0 else 6
def pickS (ps : List S32) (K : Int) : List S32 := if 0 ≤ K ∧ K < ps.length then ps.eraseIdx K.toNat else ps
/-- The box of what is done stands as it was. -/
def Kp (W W1 : World) : Prop := ∀ (x : Nat) (cells : Array Value) (t : Nat), t ≠ 60 → W.heap[x]? = some (.cells cells t (0, 0)) → W1.heap[x]? = some (.cells cells t (0, 0))
theorem Kp.below {W W1 : World} (h : Below W.heap.size W W1) : Kp W W1 := fun x _ _ _ hx => (h.block x (Array.getElem?_eq_some_iff.1 hx).1).trans hx
theorem Kp.grown {W W1 : World} {b : Nat} {m : Int} {css : List (List Value)} (hT : TagsIn W b m css) (hg : W.grownBy W1 (some b)) : Kp W W1 := fun x cells t ht hx => (hg.block x (Array.getElem?_eq_some_iff.1 hx).1 (fun e => by
  cases e
  rw [hT.row] at hx
  simp at hx
  exact ht hx.2.symm)).trans hx
theorem Kp.trans {W W1 W2 : World} (h : Kp W W1) (h1 : Kp W1 W2) : Kp W W2 := fun x c t ht hx => h1 x c t ht (h x c t ht hx)
theorem Kp.names {W W1 : World} (h : Kp W W1) {base : Nat} {v : Value} {xs : List ByteArray} (hR : Kd.R Kd.string 9 W base (fun _ => True) v xs) : Kd.R Kd.string 9 W1 base (fun _ => True) v xs :=
  Kd.R_mono (Kd.R_move (Kd.R_bound hR) (fun k hk => by
    obtain ⟨-, -, -, t, ht, cells, hc⟩ := hk
    have ht' : t = 9 := by simpa [Kd.string, Kd.scalar] using ht
    exact (h k cells t (by rw [ht']; decide) hc).trans hc.symm)) (fun _ _ => trivial)
theorem Kp.bytes {W W1 : World} (h : Kp W W1) {base : Nat} {v : Value} {xs : List Int} (hR : Kd.R (Kd.int .u8) 5 W base (fun _ => True) v xs) : Kd.R (Kd.int .u8) 5 W1 base (fun _ => True) v xs :=
  Kd.R_mono (Kd.R_move (Kd.R_bound hR) (fun k hk => by
    obtain ⟨-, -, -, t, ht, cells, hc⟩ := hk
    have ht' : t = 5 := by simpa [Kd.int, Kd.scalar] using ht
    exact (h k cells t (by rw [ht']; decide) hc).trans hc.symm)) (fun _ _ => trivial)
section
variable {w0 W : World} {b : Nat} {m : Int} {V : Value} {css : List (List Value)} {ps os : List S32}
theorem OnceIn.refd {W1 : World} {V1 : Value} {os1 : List S32} (h : OnceIn w0 b m V W css ps os) (hb : Below W.heap.size W W1) (hR : Kd.R k32 32 W1 w0.heap.size (fun _ => True) V1 os1) : OnceIn w0 b m V1 W1 css ps os1 :=
  ⟨(h.below hb).hb, (h.below hb).ht, h.wb, h.hl, (h.below hb).hc, hR⟩
theorem pick_u (h : OnceIn w0 b m V W css ps os) (K : Int) : Calls Try.prog 13 #[.pointer (some ⟨b, 0, none⟩), .int .i64 K] W fun e w' => ∃ A c D d css', e = .returned (.tuple #[.agg #[.int .i64 (pickQ ps K).f0, .int .i64 (pickQ ps K).f1, .int .i64 (pickQ ps K).f2, .int .i64 (pickQ ps K).f3, .int .i64 (pickQ ps K).f4, .int .i64 (pickQ ps K).f5, .int .i64 (pickQ ps K).f6, .int .i64 (pickQ ps K).f7, .int .i64 (pickQ ps K).f8, .int .i64 (pickQ ps K).f9, .string (pickQ ps K).f10, .slice A (pickQ ps K).f11.length c, .int .i64 (pickQ ps K).f12, .slice D (pickQ ps K).f13.length d], .int .i64 (pickC ps K)]) ∧ OnceIn w0 b m V w' css' (pickS ps K) os ∧ Kp W w' ∧ Kd.R Kd.string 9 w' w0.heap.size (fun _ => True) (.slice A (pickQ ps K).f11.length c) (pickQ ps K).f11 ∧ Kd.R (Kd.int .u8) 5 w' w0.heap.size (fun _ => True) (.slice D (pickQ ps K).f13.length d) (pickQ ps K).f13 := by
  by_cases hk : 0 ≤ K ∧ K < ps.length
  · obtain ⟨k, rfl⟩ : ∃ k : Nat, K = k := ⟨K.toNat, by omega⟩
    have hkn : k < ps.length := by omega
    have hkc : k < css.length := by rw [h.hl]; exact hkn
    rw [show pickQ ps (k : Int) = ps[k] by unfold pickQ; rw [if_pos hk, Int.toNat_natCast]; simp [hkn], show pickC ps (k : Int) = 0 by unfold pickC; rw [if_pos hk], show pickS ps (k : Int) = ps.eraseIdx k by unfold pickS; rw [if_pos hk, Int.toNat_natCast]]
    refine (pick_ok b k m css W h.ht hkc).mono ?_
    rintro e w' ⟨rfl, hg, hT⟩
    have hM := h.hc k _ _ (List.getElem?_eq_getElem hkc) (List.getElem?_eq_getElem hkn)
    have hM' := ask_move (W1 := w') hM (fun k cells t ht hlt hc => hg.block k hlt (by
      intro e
      cases e
      rw [h.ht.row] at hc
      simp at hc
      rcases ht with h | h <;> simp [h] at hc))
    obtain ⟨v11, v13, he, h11, h13⟩ := k32_openM hM'
    obtain ⟨A, c, rfl, l11, k11⟩ := Kd.R_reads h11
    obtain ⟨D, d, rfl, l13, k13⟩ := Kd.R_reads h13
    exact ⟨A, c, D, d, css.eraseIdx k, by rw [he], h.pick hg hT, .grown h.ht hg, h11, h13⟩
  · rw [show pickQ ps K = z32 by unfold pickQ; rw [if_neg hk], show pickC ps K = 6 by unfold pickC; rw [if_neg hk], show pickS ps K = ps by unfold pickS; rw [if_neg hk]]
    refine (pick_none b m K css W h.ht (by have := h.hl; omega)).mono ?_
    rintro e w' ⟨rfl, hb⟩
    exact ⟨none, 0, none, 0, css, rfl, h.below hb, .below hb, Kd.R_nil _ _ _ _ _, Kd.R_nil _ _ _ _ _⟩
theorem refPick_u {VA : Option Addr} {n vc : Nat} (h : OnceIn w0 b m (.slice VA n vc) W css ps os) (K : Int) (hl : os.length ≤ 1000) : Calls Try.prog 18 #[.slice VA n vc, .int .i64 K] W fun e w' => ∃ VB vb A c D d, e = .returned (.tuple #[.slice VB (pickS os K).length vb, .agg #[.int .i64 (pickQ os K).f0, .int .i64 (pickQ os K).f1, .int .i64 (pickQ os K).f2, .int .i64 (pickQ os K).f3, .int .i64 (pickQ os K).f4, .int .i64 (pickQ os K).f5, .int .i64 (pickQ os K).f6, .int .i64 (pickQ os K).f7, .int .i64 (pickQ os K).f8, .int .i64 (pickQ os K).f9, .string (pickQ os K).f10, .slice A (pickQ os K).f11.length c, .int .i64 (pickQ os K).f12, .slice D (pickQ os K).f13.length d], .int .i64 (pickC os K)]) ∧ OnceIn w0 b m (.slice VB (pickS os K).length vb) w' css ps (pickS os K) ∧ Kp W w' ∧ Kd.R Kd.string 9 w' w0.heap.size (fun _ => True) (.slice A (pickQ os K).f11.length c) (pickQ os K).f11 ∧ Kd.R (Kd.int .u8) 5 w' w0.heap.size (fun _ => True) (.slice D (pickQ os K).f13.length d) (pickQ os K).f13 := by
  obtain ⟨rfl, hnc, -⟩ := rows_made h.ho
  by_cases hk : 0 ≤ K ∧ K < os.length
  · obtain ⟨k, rfl⟩ : ∃ k : Nat, K = k := ⟨K.toNat, by omega⟩
    have hkn : k < os.length := by omega
    rw [show pickQ os (k : Int) = os[k] by unfold pickQ; rw [if_pos hk, Int.toNat_natCast]; simp [hkn], show pickC os (k : Int) = 0 by unfold pickC; rw [if_pos hk], show pickS os (k : Int) = os.eraseIdx k by unfold pickS; rw [if_pos hk, Int.toNat_natCast]]
    refine (refPick_ok k (List.getElem?_eq_getElem hkn) h.ho h.hb hl).mono ?_
    rintro e w' ⟨VB, vb, A, c, D, d, rfl, hV, hC, hD, hb⟩
    exact ⟨VB, vb, A, c, D, d, rfl, h.refd hb hV, .below hb, hC, hD⟩
  · rw [show pickQ os K = z32 by unfold pickQ; rw [if_neg hk], show pickC os K = 6 by unfold pickC; rw [if_neg hk], show pickS os K = os by unfold pickS; rw [if_neg hk]]
    refine (refPick_none K (by omega)).mono ?_
    rintro e w' ⟨rfl, hb⟩
    exact ⟨VA, vc, none, 0, none, 0, rfl, h.below hb, .below hb, Kd.R_nil _ _ _ _ _, Kd.R_nil _ _ _ _ _⟩
theorem flush_u (h : OnceIn w0 b m V W css ps os) (tag : Int) : Calls Try.prog 17 #[.pointer (some ⟨b, 0, none⟩), .int .i64 tag] W fun e w' => ∃ css', e = .returned (.bool (decide (findQ ps tag < ps.length))) ∧ OnceIn w0 b m V w' css' (ps.eraseIdx (findQ ps tag)) os ∧ Kp W w' := by
  have hfc := findQ_css h tag
  have hl := h.hl
  by_cases hf : findQ ps tag < ps.length
  · rw [decide_eq_true hf]
    refine (flush_ok b m tag css W h.ht (by omega)).mono ?_
    rintro e w' ⟨rfl, hg, hT⟩
    rw [hfc] at hT
    exact ⟨_, rfl, h.pick hg hT, .grown h.ht hg⟩
  · have hfl : findQ ps tag = ps.length := by
      have : findQ ps tag ≤ ps.length := List.findIdx_le_length
      omega
    rw [decide_eq_false hf, hfl, show ps.eraseIdx ps.length = ps from List.eraseIdx_of_length_le (Nat.le_refl _)]
    refine (flush_none b m tag css W h.ht (by omega)).mono ?_
    rintro e w' ⟨rfl, hb⟩
    exact ⟨_, rfl, h.below hb, .below hb⟩
theorem put_u (h : OnceIn w0 b m V W css ps os) (hm8 : m ≤ 8) (q : S32) (A : Option Addr) (c : Nat) (D : Option Addr) (d : Nat) (hN : Kd.C Kd.string W A q.f11.length q.f11) (hB : Kd.C (Kd.int .u8) W D q.f13.length q.f13) (hn : q.f11.length ≤ 8) (hd : q.f13.length ≤ 30) :
    Calls Try.prog 10 #[.pointer (some ⟨b, 0, none⟩), .agg #[.int .i64 q.f0, .int .i64 q.f1, .int .i64 q.f2, .int .i64 q.f3, .int .i64 q.f4, .int .i64 q.f5, .int .i64 q.f6, .int .i64 q.f7, .int .i64 q.f8, .int .i64 q.f9, .string q.f10, .slice A q.f11.length c, .int .i64 q.f12, .slice D q.f13.length d]] W fun e w' => ∃ css', e = .returned (.int .i64 (putCQ m ps q.f1)) ∧ OnceIn w0 b m V w' css' (putSQ m ps q) os ∧ Kp W w' := by
  have hfc := findQ_css h q.f1
  have hl := h.hl
  have hwf : WfQ ([.int .i64 q.f0, .int .i64 q.f1, .int .i64 q.f2, .int .i64 q.f3, .int .i64 q.f4, .int .i64 q.f5, .int .i64 q.f6, .int .i64 q.f7, .int .i64 q.f8, .int .i64 q.f9, .string q.f10, .slice A q.f11.length c, .int .i64 q.f12, .slice D q.f13.length d] : List Value) q.f1 := ⟨_, _, _, _, _, _, _, _, _, _, _, _, _, _, _, _, _, rfl⟩
  by_cases hf : findQ ps q.f1 < ps.length
  · rw [show putSQ m ps q = ps by unfold putSQ; rw [if_pos hf], show putCQ m ps q.f1 = 7 by unfold putCQ; rw [if_pos hf]]
    refine (put_twice b m q.f1 css _ hwf W h.ht (by omega)).mono ?_
    rintro e w' ⟨rfl, hb⟩
    exact ⟨_, rfl, h.below hb, .below hb⟩
  · by_cases hm : m ≤ ps.length
    · rw [show putSQ m ps q = ps by unfold putSQ; rw [if_neg hf, if_pos hm], show putCQ m ps q.f1 = 5 by unfold putCQ; rw [if_neg hf, if_pos hm]]
      refine (put_full b m q.f1 css _ hwf W h.ht (by omega) (by omega)).mono ?_
      rintro e w' ⟨rfl, hb⟩
      exact ⟨_, rfl, h.below hb, .below hb⟩
    · rw [show putSQ m ps q = ps ++ [q] by unfold putSQ; rw [if_neg hf, if_neg hm], show putCQ m ps q.f1 = 0 by unfold putCQ; rw [if_neg hf, if_neg hm]]
      refine (put_any b m css q.f0 q.f1 q.f2 q.f3 q.f4 q.f5 q.f6 q.f7 q.f8 q.f9 q.f10 A c q.f11 q.f12 D d q.f13 W h.ht (by omega) (by omega) hm8 hN hB (by omega) (by omega)).mono ?_
      rintro e w' ⟨rfl, AY, cY, DY, dY, w1, hY1, hY2, hb, hg, hT⟩
      exact ⟨_, rfl, h.put hb hg hT (k32_mkM w1 w0.heap.size (fun _ => True) q (Kd.R_lower hY1 h.hb.size) (Kd.R_lower hY2 h.hb.size)), (Kp.below hb).trans (.grown (h.ht.below hb) hg)⟩
end
/-- What is done, as it lies in memory: its kind, its number, its request. -/
def OAt (w : World) (ad : Addr) (i : Nat) (o : Int × Int × S32) (A : Option Addr) (c : Nat) (D : Option Addr) (d : Nat) : Prop :=
  w.cell? (ad.add (i * 16)) = some (.int .i64 o.1) ∧ w.cell? ⟨(ad.add (i * 16)).block, (ad.add (i * 16)).off + 1, none⟩ = some (.int .i64 o.2.1) ∧ w.cell? ⟨(ad.add (i * 16)).block, (ad.add (i * 16)).off + 2, none⟩ = some (.int .i64 o.2.2.f0) ∧ w.cell? ⟨(ad.add (i * 16)).block, (ad.add (i * 16)).off + 3, none⟩ = some (.int .i64 o.2.2.f1) ∧ w.cell? ⟨(ad.add (i * 16)).block, (ad.add (i * 16)).off + 4, none⟩ = some (.int .i64 o.2.2.f2) ∧ w.cell? ⟨(ad.add (i * 16)).block, (ad.add (i * 16)).off + 5, none⟩ = some (.int .i64 o.2.2.f3) ∧ w.cell? ⟨(ad.add (i * 16)).block, (ad.add (i * 16)).off + 6, none⟩ = some (.int .i64 o.2.2.f4) ∧ w.cell? ⟨(ad.add (i * 16)).block, (ad.add (i * 16)).off + 7, none⟩ = some (.int .i64 o.2.2.f5) ∧ w.cell? ⟨(ad.add (i * 16)).block, (ad.add (i * 16)).off + 8, none⟩ = some (.int .i64 o.2.2.f6) ∧ w.cell? ⟨(ad.add (i * 16)).block, (ad.add (i * 16)).off + 9, none⟩ = some (.int .i64 o.2.2.f7) ∧ w.cell? ⟨(ad.add (i * 16)).block, (ad.add (i * 16)).off + 10, none⟩ = some (.int .i64 o.2.2.f8) ∧ w.cell? ⟨(ad.add (i * 16)).block, (ad.add (i * 16)).off + 11, none⟩ = some (.int .i64 o.2.2.f9) ∧ w.cell? ⟨(ad.add (i * 16)).block, (ad.add (i * 16)).off + 12, none⟩ = some (.string o.2.2.f10) ∧ w.cell? ⟨(ad.add (i * 16)).block, (ad.add (i * 16)).off + 13, none⟩ = some (.slice A o.2.2.f11.length c) ∧ w.cell? ⟨(ad.add (i * 16)).block, (ad.add (i * 16)).off + 14, none⟩ = some (.int .i64 o.2.2.f12) ∧ w.cell? ⟨(ad.add (i * 16)).block, (ad.add (i * 16)).off + 15, none⟩ = some (.slice D o.2.2.f13.length d)
theorem OAt.below {w w1 : World} {ad : Addr} {i : Nat} {o : Int × Int × S32} {A : Option Addr} {c : Nat} {D : Option Addr} {d : Nat} (h : OAt w ad i o A c D d) (hb : Below w.heap.size w w1) : OAt w1 ad i o A c D d := by
  obtain ⟨c0, c1, c2, c3, c4, c5, c6, c7, c8, c9, c10, c11, c12, c13, c14, c15⟩ := h
  exact ⟨pw_cell_below hb c0, pw_cell_below hb c1, pw_cell_below hb c2, pw_cell_below hb c3, pw_cell_below hb c4, pw_cell_below hb c5, pw_cell_below hb c6, pw_cell_below hb c7, pw_cell_below hb c8, pw_cell_below hb c9, pw_cell_below hb c10, pw_cell_below hb c11, pw_cell_below hb c12, pw_cell_below hb c13, pw_cell_below hb c14, pw_cell_below hb c15⟩
/-- All that is done. -/
def OsIn (w : World) (Al : Option Addr) (l : List (Int × Int × S32)) : Prop := ∀ (i : Nat) (o : Int × Int × S32), l[i]? = some o → ∃ ad A c D d, Al = some ad ∧ OAt w ad i o A c D d ∧ (i64 o.1 ∧ I64 o.2.2) ∧ Kd.C Kd.string w A o.2.2.f11.length o.2.2.f11 ∧ o.2.2.f11.length ≤ c ∧ Kd.C (Kd.int .u8) w D o.2.2.f13.length o.2.2.f13 ∧ o.2.2.f13.length ≤ d
theorem OsIn.below {w w1 : World} {Al : Option Addr} {l : List (Int × Int × S32)} (h : OsIn w Al l) (hb : Below w.heap.size w w1) : OsIn w1 Al l := fun i o ho => by
  obtain ⟨ad, A, c, D, d, e, h1, h2, h3, h4, h5, h6⟩ := h i o ho
  exact ⟨ad, A, c, D, d, e, h1.below hb, h2, Kd.C_below h3 hb, h4, Kd.C_below h5 hb, h6⟩
section
open Go.ChangeShapes Go.WideShapes
variable {H : Type} {enc : TypeId × Value → H} {W : World} {base : Nat} {sp : Nat → Bool} {fuel : Nat}
set_option maxRecDepth 100000 in
theorem open_one {cs : List Value} {x : DataW H × List MemPlace} (h : DataW.trod enc Try.prog W base sp true fuel 47 cs = some x) :
    ∃ (o : Int × Int × S32) (A : Option Addr) (c : Nat) (D : Option Addr) (d : Nat), cs = [.int .i64 o.1, .int .i64 o.2.1, .int .i64 o.2.2.f0, .int .i64 o.2.2.f1, .int .i64 o.2.2.f2, .int .i64 o.2.2.f3, .int .i64 o.2.2.f4, .int .i64 o.2.2.f5, .int .i64 o.2.2.f6, .int .i64 o.2.2.f7, .int .i64 o.2.2.f8, .int .i64 o.2.2.f9, .string o.2.2.f10, .slice A o.2.2.f11.length c, .int .i64 o.2.2.f12, .slice D o.2.2.f13.length d] ∧ (i64 o.1 ∧ I64 o.2.2) ∧ Kd.C Kd.string W A o.2.2.f11.length o.2.2.f11 ∧ o.2.2.f11.length ≤ c ∧ Kd.C (Kd.int .u8) W D o.2.2.f13.length o.2.2.f13 ∧ o.2.2.f13.length ≤ d := by
  obtain ⟨ys, n', _, _, hcl0, hyl, hfl⟩ := DataW.trod_struct Try.underlying47 h
  have hC : Try.prog.cellsOf 47 = 16 := by kernel_rfl
  have hC2 : Try.prog.cellsOf 32 = 14 := by kernel_rfl
  have hcl : cs.length = 16 := hcl0.trans hC
  have hyl' : ys.length = 3 := hyl
  clear hyl hcl0 h
  match cs, hcl, ys, hyl' with
  | [c0, c1, c2, c3, c4, c5, c6, c7, c8, c9, c10, c11, c12, c13, c14, c15], _, [y0, y1, y2], _ =>
    have f0 := hfl 0 _ rfl
    have f1 := hfl 1 _ rfl
    have f2 := hfl 2 _ rfl
    simp only [List.getElem?_cons_zero, List.getElem?_cons_succ] at f0 f1 f2
    obtain ⟨n0, e0, -, g0⟩ := DataW.trod_int Try.underlying3 f0
    injection e0 with e0 _
    obtain ⟨n1, e1, -, g1⟩ := DataW.trod_int Try.underlying3 f1
    injection e1 with e1 _
    have f2' : DataW.trod enc Try.prog W base sp true n' 32 (List.take (Try.prog.cellsOf 32) [c2, c3, c4, c5, c6, c7, c8, c9, c10, c11, c12, c13, c14, c15]) = some y2 := f2
    rw [hC2] at f2'
    obtain ⟨a0, a1, a2, a3, a4, a5, a6, a7, a8, a9, s, A, c, ns, a12, D, d, bs, e, hI, hN, hn, hB, hd⟩ := open_ask f2'
    have e' : [c2, c3, c4, c5, c6, c7, c8, c9, c10, c11, c12, c13, c14, c15] = _ := e
    exact ⟨(n0, n1, ⟨a0, a1, a2, a3, a4, a5, a6, a7, a8, a9, s, ns, a12, bs⟩), A, c, D, d, by rw [e0, e1, e'], ⟨wf_i64 g0, hI⟩, hN, hn, hB, hd⟩
theorem open_os {cs : List Value} {x : DataW H × List MemPlace} (h : DataW.trod enc Try.prog W base sp true fuel 45 cs = some x) :
    ∃ (A : Option Addr) (c : Nat) (l : List (Int × Int × S32)), cs = [.slice A l.length c] ∧ l.length ≤ 9223372036854775807 ∧ OsIn W A l := by
  rcases Go.Deep.open_slice Try.underlying45 h with ⟨hcs, _⟩ | ⟨a, len, cap, m, fu, D, Pl, hcs, _, hl, hm, hmm, _, hcell⟩
  · exact ⟨none, 0, [], hcs, by simp, fun i o ho => by simp at ho⟩
  · have hlm : len ≤ m := by rw [hmm]; split <;> omega
    have hb : len ≤ 9223372036854775807 := by unfold maxLen at hm; omega
    have hC : Try.prog.cellsOf 47 = 16 := by kernel_rfl
    have each : ∀ i, i < len → ∃ o : Int × Int × S32, ∃ A c D d, OAt W a i o A c D d ∧ (i64 o.1 ∧ I64 o.2.2) ∧ Kd.C Kd.string W A o.2.2.f11.length o.2.2.f11 ∧ o.2.2.f11.length ≤ c ∧ Kd.C (Kd.int .u8) W D o.2.2.f13.length o.2.2.f13 ∧ o.2.2.f13.length ≤ d := by
      intro i hi
      obtain ⟨cs', hc, ht'⟩ := hcell i (by omega)
      rw [hC] at hc
      obtain ⟨_, hcl, hat⟩ := World.cells?_some hc
      obtain ⟨o, A, c, D, d, e, h1, h2, h3, h4, h5⟩ := open_one ht'
      have hx : ∀ j u, cs'[j]? = some u → W.cell? (a.add (i * 16 + j)) = some u := fun j u hu => by
        have hj := (List.getElem?_eq_some_iff.1 hu).1
        rw [← Go.Deep.add_add, hat j (by omega)]
        exact hu
      rw [e] at hx
      exact ⟨o, A, c, D, d, ⟨hx 0 _ rfl, by rw [← add_field _ _ 1 (by omega)]; exact hx 1 _ rfl, by rw [← add_field _ _ 2 (by omega)]; exact hx 2 _ rfl, by rw [← add_field _ _ 3 (by omega)]; exact hx 3 _ rfl, by rw [← add_field _ _ 4 (by omega)]; exact hx 4 _ rfl, by rw [← add_field _ _ 5 (by omega)]; exact hx 5 _ rfl, by rw [← add_field _ _ 6 (by omega)]; exact hx 6 _ rfl, by rw [← add_field _ _ 7 (by omega)]; exact hx 7 _ rfl, by rw [← add_field _ _ 8 (by omega)]; exact hx 8 _ rfl, by rw [← add_field _ _ 9 (by omega)]; exact hx 9 _ rfl, by rw [← add_field _ _ 10 (by omega)]; exact hx 10 _ rfl, by rw [← add_field _ _ 11 (by omega)]; exact hx 11 _ rfl, by rw [← add_field _ _ 12 (by omega)]; exact hx 12 _ rfl, by rw [← add_field _ _ 13 (by omega)]; exact hx 13 _ rfl, by rw [← add_field _ _ 14 (by omega)]; exact hx 14 _ rfl, by rw [← add_field _ _ 15 (by omega)]; exact hx 15 _ rfl⟩, h1, h2, h3, h4, h5⟩
    haveI : Inhabited (Int × Int × S32) := ⟨(0, 0, z32)⟩
    obtain ⟨Q, hQ⟩ := Go.Deep.choose_lt each
    refine ⟨some a, cap, (List.range len).map Q, by simpa using hcs, by simpa using hb, fun i o ho => ?_⟩
    have hi : i < len := by
      have := (List.getElem?_eq_some_iff.1 ho).1
      simpa using this
    have hp : Q i = o := by simpa [hi] using ho
    subst hp
    obtain ⟨A, c, D, d, h1, h2, h3, h4, h5, h6⟩ := hQ i hi
    exact ⟨a, A, c, D, d, rfl, h1, h2, h3, h4, h5, h6⟩
end
theorem has_eq {w0 W : World} {b : Nat} {m : Int} {V : Value} {css : List (List Value)} {ps os : List S32} (h : OnceIn w0 b m V W css ps os) (tag : Int) : decide (findN css tag < css.length) = decide (0 ≤ findQI ps tag) := by
  rw [findQ_css h, h.hl]
  unfold findQI
  by_cases hf : findQ ps tag < ps.length
  · rw [if_pos hf, decide_eq_true hf, decide_eq_true (by omega)]
  · rw [if_neg hf, decide_eq_false hf, decide_eq_false (by omega)]
/-- Few names, few bytes. -/
def Sm (q : S32) : Prop := q.f11.length ≤ 8 ∧ q.f13.length ≤ 30
theorem sm_erase {ps : List S32} (h : ∀ q ∈ ps, Sm q) (k : Nat) : ∀ q ∈ ps.eraseIdx k, Sm q := fun q hq => h q (List.mem_of_mem_eraseIdx hq)
theorem sm_pickS {ps : List S32} (h : ∀ q ∈ ps, Sm q) (K : Int) : ∀ q ∈ pickS ps K, Sm q := by
  unfold pickS
  split
  · exact sm_erase h _
  · exact h
theorem sm_pickQ {ps : List S32} (h : ∀ q ∈ ps, Sm q) (K : Int) : Sm (pickQ ps K) := by
  unfold pickQ
  split
  · rename_i hk
    have hkn : K.toNat < ps.length := by omega
    have := h ps[K.toNat] (List.getElem_mem _)
    simpa [hkn] using this
  · exact ⟨by simp [z32], by simp [z32]⟩
theorem sm_putS {ps : List S32} (h : ∀ q ∈ ps, Sm q) (m : Int) {q : S32} (hq : Sm q) : ∀ p ∈ putSQ m ps q, Sm p := by
  unfold putSQ
  split
  · exact h
  · split
    · exact h
    · intro p hp
      rcases List.mem_append.1 hp with h1 | h1
      · exact h p h1
      · rw [List.mem_singleton.1 h1]; exact hq
/-- All that holds of a world in TagsPlays: the state, and the box of what is done. -/
structure PlayIn (w0 : World) (b : Nat) (m : Int) (V : Value) (W : World) (css : List (List Value)) (ps : List S32) (x : Nat) (oc : Array Value) : Prop where
  s : OnceIn w0 b m V W css ps ps
  x : W.heap[x]? = some (.cells oc 47 (0, 0))
theorem PlayIn.below {w0 W W1 : World} {b : Nat} {m : Int} {V : Value} {css : List (List Value)} {ps : List S32} {x : Nat} {oc : Array Value} (h : PlayIn w0 b m V W css ps x oc) (hb : Below W.heap.size W W1) : PlayIn w0 b m V W1 css ps x oc :=
  ⟨h.s.below hb, (hb.block x (Array.getElem?_eq_some_iff.1 h.x).1).trans h.x⟩

end Go.Proofs.Ytenhnkldhodegaa.R
