import Derived.Test.YtenhnkldhodegaaT8
import Derived.Outline
import Derived.Shelf.Abstract
import Derived.Deep.LoopGhost
import Derived.Deep.Draws
import Derived.Laws.EntriesVeiled
import Derived.Laws.ResultCell
import Derived.Laws.Rows
import Derived.Deep.QuietTactic
import Derived.Deep.RegionWith
import Derived.BigQuiet
import Derived.Deep.MidRow
import Derived.Laws.Tables
import Derived.Deep.WholeRow
import Derived.Lib.SliceRun
import Derived.LaidEql
import Derived.RowKitTokens
import Derived.Stop.Asserts
import Derived.Laws.CopyRow
namespace Go.Proofs.Ytenhnkldhodegaa.R
open Go.RowKit Go.Proofs.YtenhnkldhodegaaW.PrintWords Go.Proofs.YtenhnkldhodegaaW.PrintLast Go.Proofs.YtenhnkldhodegaaW.PrintMore
attribute [local go_sem] max2_int min2_int max_two min_two max_three min_three max_four min_four   -- for this text's walks alone
set_option linter.unusedVariables false
set_option linter.unusedSimpArgs false
theorem wf_i64 {a : Int} (h : (Lit.int .i64 a).wf = true) : -9223372036854775808 ≤ a ∧ a ≤ 9223372036854775807 := by
  have e1 : IntKind.i64.min = -9223372036854775808 := by decide
  have e2 : IntKind.i64.max = 9223372036854775807 := by decide
  simp [Lit.wf, e1, e2] at h
  omega
/-- modulo, from 0 on. -/
def arF (a m : Int) : Int := if a < 0 then Int.tmod (-(a + 1)) m else Int.tmod a m
theorem arF_range (a m : Int) (hm : 0 < m) : 0 ≤ arF a m ∧ arF a m < m := by
  unfold arF
  split
  · exact ⟨Int.tmod_nonneg _ (by omega), Int.tmod_lt_of_pos _ hm⟩
  · exact ⟨Int.tmod_nonneg _ (by omega), Int.tmod_lt_of_pos _ hm⟩
theorem around_any (a m : Int) (hm : 0 < m) (ha : -9223372036854775808 ≤ a ∧ a ≤ 9223372036854775807) (w : World) : Calls Try.prog 8 #[.int .i64 a, .int .i64 m] w fun e w' => e = .returned (.int .i64 (arF a m)) ∧ Below w.heap.size w w' := by
  refine (truchmanref01_Around.calls a m (arF a m) w ?_).mono fun e w' h => ⟨h.1, h.2.below⟩
  unfold truchmanref01_Around.f arF
  have h0 : ¬ m = 0 := by omega
  split
  · rw [show wrap64 (a + 1) = a + 1 by unfold wrap64; omega, show wrap64 (-(a + 1)) = -(a + 1) by unfold wrap64; omega]
  · rfl
/-- The requests of the tags 0 to i - 1. -/
def fillS (ty t0 : Int) (i : Nat) : List (List Value) := (List.range i).map fun j : Nat => bareCs ty (t0 + (j : Int))
theorem fillS_len (ty t0 : Int) (i : Nat) : (fillS ty t0 i).length = i := by simp [fillS]
theorem fillS_get (ty t0 : Int) (i j : Nat) (h : j < (fillS ty t0 i).length) : (fillS ty t0 i)[j] = bareCs ty (t0 + j) := by simp [fillS]
theorem fillS_miss (ty t0 : Int) (i : Nat) (k : Int) (h : t0 + i ≤ k) : findN (fillS ty t0 i) k = i := by
  rw [findN_miss, fillS_len]
  intro j hj
  rw [fillS_get, bareCs_tag]
  rw [fillS_len] at hj
  omega
theorem fillS_putC (ty t0 : Int) (most : Int) (i : Nat) (h : (i : Int) < most) : putC most (fillS ty t0 i) (t0 + i) = 0 := by
  unfold putC
  rw [fillS_miss _ _ _ _ (Int.le_refl _), fillS_len, if_neg (Nat.lt_irrefl _), if_neg (by omega)]
theorem fillS_putS (ty t0 : Int) (most : Int) (i : Nat) (h : (i : Int) < most) : putS most (fillS ty t0 i) (bareCs ty (t0 + i)) (t0 + i) = fillS ty t0 (i + 1) := by
  unfold putS
  rw [fillS_miss _ _ _ _ (Int.le_refl _), fillS_len, if_neg (Nat.lt_irrefl _), if_neg (by omega)]
  unfold fillS
  rw [List.range_succ, List.map_append]
  rfl
theorem fillS_full (ty t0 : Int) (n : Nat) (k : Int) (h : t0 + n ≤ k) (cs : List Value) : putC n (fillS ty t0 n) k = 5 ∧ putS n (fillS ty t0 n) cs k = fillS ty t0 n := by
  unfold putC putS
  rw [fillS_miss _ _ _ _ h, fillS_len, if_neg (Nat.lt_irrefl _), if_pos (Int.le_refl _), if_neg (Nat.lt_irrefl _), if_pos (Int.le_refl _)]
  exact ⟨rfl, rfl⟩
set_option maxHeartbeats 8000000 in
set_option maxRecDepth 100000 in
theorem TagsNews.walk (a0 : Int) (w : World) (h0 : -9223372036854775808 ≤ a0 ∧ a0 ≤ 9223372036854775807) :
    Calls Try.prog 3 #[.int .i64 a0] w fun e w' => e = .returned (.bool true) ∧ Below w.heap.size w w' := by
  have hA0 := around_any a0 11 (by omega) h0
  have hr := arF_range a0 11 (by omega)
  have hu := Try.underlying32
  generalize arF a0 11 = r at hA0 hr
  go_enter Try.func3, Try.ntmps3
  go_wp2_with (go_at_call 8; refine (hA0 _).mono ?_; rintro e w1 ⟨rfl, hb1⟩)
  have HB1 : Aside (Below w.heap.size w (w1.alloc (.cells #[.int .i64 a0, .int .i64 r] 3))) := below_step hb1 (below_alloc (Below.refl _ _) _)
  have HG1 : Aside ((w1.alloc (.cells #[.int .i64 a0, .int .i64 r] 3)).heap[w1.heap.size]? = some (.cells #[.int .i64 a0, .int .i64 r] 3 (0, 0))) := heap_alloc_new _ _
  have HW1 : Aside (w.heap.size ≤ w1.heap.size) := hb1.size
  generalize w1.alloc (.cells #[.int .i64 a0, .int .i64 r] 3) = w2 at *
  generalize w1.heap.size = g at *
  clear hb1 hA0
  obtain ⟨N, hN⟩ : ∃ N : Nat, N = 2 := ⟨2, rfl⟩
  have HN : Aside (N = 2) := hN
  clear hN
  go_loopg [4] N (fun gg s4 wr => ∃ i : Nat, i ≤ N ∧ N - i ≤ gg ∧ s4 = .int .i64 i ∧ Aside (Below w.heap.size w wr) ∧ Aside (wr.heap[g]? = some (.cells #[.int .i64 a0, .int .i64 r] 3 (0, 0))))
  case atStart => exact ⟨0, Nat.zero_le _, by omega, rfl, HB1, HG1⟩
  case round =>
    obtain ⟨i, hi2, hg, rfl, BW, HG⟩ := hrel
    by_cases hlt : i < N
    · have hltz : (i : Int) < 2 := by have := HN.out; omega
      obtain ⟨x, hx1, hx2, hcell⟩ : ∃ x : Int, -9223372036854775808 ≤ x ∧ x ≤ 9223372036854775807 ∧ ∀ W : World, W.heap[g]? = some (.cells #[.int .i64 a0, .int .i64 r] 3 (0, 0)) → W.cell? ⟨g, i, none⟩ = some (.int .i64 x) := by
        have : i = 0 ∨ i = 1 := by have := HN.out; omega
        rcases this with rfl | rfl
        · exact ⟨a0, h0.1, h0.2, fun W h => blk_cell h 0⟩
        · exact ⟨r, by omega, by omega, fun W h => blk_cell h 1⟩
      have HCELL : Aside (∀ W : World, W.heap[g]? = some (.cells #[.int .i64 a0, .int .i64 r] 3 (0, 0)) → W.cell? ⟨g, i, none⟩ = some (.int .i64 x)) := hcell
      have c0 := hcell _ HG.out
      clear hcell
      by_cases hb : x < 1 ∨ 8 < x
      · have hN := fun W => new_bad x W hb
        rcases hb with hb | hb
        · go_wp2_with (go_at_call 9; refine (hN _).mono ?_; rintro e w3 ⟨rfl, hb3⟩; have c3 := HCELL.out _ ((hb3.block _ (Array.getElem?_eq_some_iff.1 HG.out).1).trans HG.out))
          have HB3 : Aside (Below w.heap.size w w3) := below_step BW.out hb3
          have HG3 : Aside (w3.heap[g]? = some (.cells #[.int .i64 a0, .int .i64 r] 3 (0, 0))) := (hb3.block _ (Array.getElem?_eq_some_iff.1 HG.out).1).trans HG.out
          clear hb3 c3
          go_loopg [8] 1 (fun gg s8 wr => s8 = .int .i64 0 ∧ Aside (Below w.heap.size w wr) ∧ Aside (wr.heap[g]? = some (.cells #[.int .i64 a0, .int .i64 r] 3 (0, 0))))
          case atStart => exact ⟨rfl, HB3, HG3⟩
          case round =>
            obtain ⟨rfl, BV, GV⟩ := hrel
            go_wp2
            go_roundg (N - (i + 1))
            case measure => omega
            case rel => exact ⟨i + 1, by omega, by omega, by go_num, BV, GV⟩
        · have hb1' : 1 ≤ x := by omega
          go_wp2_with (go_at_call 9; refine (hN _).mono ?_; rintro e w3 ⟨rfl, hb3⟩; have c3 := HCELL.out _ ((hb3.block _ (Array.getElem?_eq_some_iff.1 HG.out).1).trans HG.out))
          have HB3 : Aside (Below w.heap.size w w3) := below_step BW.out hb3
          have HG3 : Aside (w3.heap[g]? = some (.cells #[.int .i64 a0, .int .i64 r] 3 (0, 0))) := (hb3.block _ (Array.getElem?_eq_some_iff.1 HG.out).1).trans HG.out
          clear hb3 c3
          go_loopg [8] 1 (fun gg s8 wr => s8 = .int .i64 0 ∧ Aside (Below w.heap.size w wr) ∧ Aside (wr.heap[g]? = some (.cells #[.int .i64 a0, .int .i64 r] 3 (0, 0))))
          case atStart => exact ⟨rfl, HB3, HG3⟩
          case round =>
            obtain ⟨rfl, BV, GV⟩ := hrel
            go_wp2
            go_roundg (N - (i + 1))
            case measure => omega
            case rel => exact ⟨i + 1, by omega, by omega, by go_num, BV, GV⟩
      · have hb1' : 1 ≤ x := by omega
        have hb2' : x ≤ 8 := by omega
        obtain ⟨n, rfl⟩ : ∃ n : Nat, x = n := ⟨x.toNat, by omega⟩
        have hN := fun W => new_ok n W (by omega) (by omega)
        clear hb hx1 hx2
        go_wp2_with (go_at_call 9; refine (hN _).mono ?_; rintro e w3 ⟨rfl, hb3, hT3⟩; have c3 := HCELL.out _ ((hb3.block _ (Array.getElem?_eq_some_iff.1 HG.out).1).trans HG.out))
        have HB3 : Aside (Below w.heap.size w w3) := below_step BW.out hb3
        have HG3 : Aside (w3.heap[g]? = some (.cells #[.int .i64 a0, .int .i64 r] 3 (0, 0))) := (hb3.block _ (Array.getElem?_eq_some_iff.1 HG.out).1).trans HG.out
        have hgb : g < wr.heap.size := (Array.getElem?_eq_some_iff.1 HG.out).1
        have HBW : Aside (w.heap.size ≤ wr.heap.size) := BW.out.size
        generalize wr.heap.size = b at *
        have HT3 : Aside (TagsIn w3 b n (fillS 120 0 (min 0 n))) := by show TagsIn _ _ _ _; rw [Nat.zero_min]; exact hT3
        clear hb3 c3 hT3 hN c0
        obtain ⟨M, hM⟩ : ∃ M : Nat, M = 9 := ⟨9, rfl⟩
        have HM : Aside (M = 9) := hM
        clear hM
        go_loopg [8] M (fun gg s8 wv => ∃ k : Nat, k ≤ M ∧ M - k ≤ gg ∧ s8 = .int .i64 k ∧ Aside (Below w.heap.size w wv) ∧ Aside (wv.heap[g]? = some (.cells #[.int .i64 a0, .int .i64 r] 3 (0, 0))) ∧ Aside (TagsIn wv b n (fillS 120 0 (min k n))))
        case atStart => exact ⟨0, by have := HM.out; omega, by omega, rfl, HB3, HG3, HT3⟩
        case round =>
          obtain ⟨k, hkM, hkg, rfl, BV, GV, TV⟩ := hrel
          have cv := HCELL.out _ GV.out
          by_cases hkl : k < M
          · have hk65 : (k : Int) < 9 := by have := HM.out; omega
            by_cases hkn : k < n
            · have hknI : (k : Int) < (n : Int) := by omega
              have hmin : min k n = k := by omega
              have hAdd := put_bare b n 120 k (fillS 120 0 (min k n)) _ TV.out (by omega)
              have e0 : ((0 : Int) + k) = k := by omega
              have e1 := fillS_putC 120 0 n k hknI
              have e2 := fillS_putS 120 0 n k hknI
              rw [e0] at e1 e2
              rw [hmin, e1, e2] at hAdd
              clear hmin e0 e1 e2
              go_wp2_with (go_at_call 10; with_reducible refine hAdd.mono ?_; rintro e w4 ⟨rfl, hg4, hT4⟩; have hG4 := block_of hg4 GV.out (Nat.ne_of_lt hgb); have c4 := HCELL.out _ hG4; have l4 := (Array.getElem?_eq_some_iff.1 hG4).1)
              go_roundg (M - (k + 1))
              case measure => omega
              case rel => exact ⟨k + 1, by omega, by omega, by go_num, below_of BV.out HBW.out hg4, hG4, (by show TagsIn _ _ _ _; rw [show min (k + 1) n = k + 1 by omega]; exact hT4)⟩
            · have hknI : ¬ (k : Int) < (n : Int) := by omega
              have hmin : min k n = n := by omega
              have hAdd := put_bare b n 120 k (fillS 120 0 (min k n)) _ TV.out (by omega)
              rw [hmin, (fillS_full 120 0 n k (by omega) (bareCs 120 k)).1, (fillS_full 120 0 n k (by omega) (bareCs 120 k)).2] at hAdd
              clear hmin
              go_wp2_with (go_at_call 10; with_reducible refine hAdd.mono ?_; rintro e w4 ⟨rfl, hg4, hT4⟩; have hG4 := block_of hg4 GV.out (Nat.ne_of_lt hgb); have c4 := HCELL.out _ hG4; have l4 := (Array.getElem?_eq_some_iff.1 hG4).1)
              go_roundg (M - (k + 1))
              case measure => omega
              case rel => exact ⟨k + 1, by omega, by omega, by go_num, below_of BV.out HBW.out hg4, hG4, (by show TagsIn _ _ _ _; rw [show min (k + 1) n = n by omega]; exact hT4)⟩
          · have hk65 : ¬ (k : Int) < 9 := by have := HM.out; omega
            go_wp2
            go_roundg (N - (i + 1))
            case measure => omega
            case rel => exact ⟨i + 1, by omega, by omega, by go_num, BV, GV⟩
    · have hltz : ¬ (i : Int) < 2 := by have := HN.out; omega
      go_wp2_with (go_at_call 11; refine (lives_ok _).mono ?_; rintro e w8 ⟨rfl, hb8⟩)
      go_ret
      exact ⟨rfl, below_step BW.out hb8⟩

end Go.Proofs.Ytenhnkldhodegaa.R
