import Derived.Test.YtbjmgmngomlmfaaT12
import Derived.Outline
import Derived.Shelf.Abstract
import Derived.Deep.LoopGhost
import Derived.Deep.Draws
import Derived.Laws.EntriesVeiled
import Derived.Laws.ResultCell
import Derived.Laws.Rows
import Derived.Deep.QuietTactic
import Derived.Deep.RegionWith
import Derived.BigQuiet
namespace Go.Proofs.Ytbjmgmngomlmfaa.R
open Go.RowKit Go.Proofs.YtbjmgmngomlmfaaW.PrintWords Go.Proofs.YtbjmgmngomlmfaaW.PrintLast Go.Proofs.YtbjmgmngomlmfaaW.PrintMore
attribute [local go_sem] max2_int min2_int max_two min_two max_three min_three max_four min_four   -- for this text's walks alone
set_option linter.unusedVariables false
set_option linter.unusedSimpArgs false
set_option maxHeartbeats 8000000 in
set_option maxRecDepth 100000 in
theorem InodeNews.walk (a0 : Int) (w : World) (h0 : -9223372036854775808 ≤ a0 ∧ a0 ≤ 9223372036854775807) :
    Calls Try.prog 3 #[.int .i64 a0] w fun e w' => e = .returned (.bool true) ∧ Below w.heap.size w w' := by
  have hA0 := around_any a0 67 (by omega) h0
  have hr := arF_range a0 67 (by omega)
  generalize arF a0 67 = r at hA0 hr
  go_enter Try.func3, Try.ntmps3
  go_wp2_with (go_at_call 8; refine (hA0 _).mono ?_; rintro e w1 ⟨rfl, hb1⟩)
  have HB1 : Aside (Below w.heap.size w (w1.alloc (.cells #[.int .i64 a0, .int .i64 r] 3))) := below_step hb1 (below_alloc (Below.refl _ _) _)
  have HG1 : Aside ((w1.alloc (.cells #[.int .i64 a0, .int .i64 r] 3)).heap[w1.heap.size]? = some (.cells #[.int .i64 a0, .int .i64 r] 3 (0, 0))) := heap_alloc_new _ _
  have HW1 : Aside (w.heap.size ≤ w1.heap.size) := hb1.size
  generalize w1.alloc (.cells #[.int .i64 a0, .int .i64 r] 3) = w2 at *
  generalize w1.heap.size = g at *
  clear hb1 hA0
  obtain ⟨N, hN⟩ : ∃ N : Nat, N = 2 := ⟨2, rfl⟩
  have HN : Aside (N = 2) := hN
  clear hN
  go_loopg [4] N (fun gg s4 wr => ∃ i : Nat, i ≤ N ∧ N - i ≤ gg ∧ s4 = .int .i64 i ∧ Aside (Below w.heap.size w wr) ∧ Aside (wr.heap[g]? = some (.cells #[.int .i64 a0, .int .i64 r] 3 (0, 0))))
  case atStart => exact ⟨0, Nat.zero_le _, by omega, rfl, HB1, HG1⟩
  case round =>
    obtain ⟨i, hi2, hg, rfl, BW, HG⟩ := hrel
    by_cases hlt : i < N
    · have hltz : (i : Int) < 2 := by have := HN.out; omega
      obtain ⟨x, hx1, hx2, hcell⟩ : ∃ x : Int, -9223372036854775808 ≤ x ∧ x ≤ 9223372036854775807 ∧ ∀ W : World, W.heap[g]? = some (.cells #[.int .i64 a0, .int .i64 r] 3 (0, 0)) → W.cell? ⟨g, i, none⟩ = some (.int .i64 x) := by
        have : i = 0 ∨ i = 1 := by have := HN.out; omega
        rcases this with rfl | rfl
        · exact ⟨a0, h0.1, h0.2, fun W h => blk_cell h 0⟩
        · exact ⟨r, by omega, by omega, fun W h => blk_cell h 1⟩
      have HCELL : Aside (∀ W : World, W.heap[g]? = some (.cells #[.int .i64 a0, .int .i64 r] 3 (0, 0)) → W.cell? ⟨g, i, none⟩ = some (.int .i64 x)) := hcell
      have c0 := hcell _ HG.out
      clear hcell
      by_cases hb : x < 1 ∨ 64 < x
      · have hN := fun W => new_byte_bad x W hb
        rcases hb with hb | hb
        · go_wp2_with (go_at_call 9; refine (hN _).mono ?_; rintro e w3 ⟨rfl, hb3⟩; have c3 := HCELL.out _ ((hb3.block _ (Array.getElem?_eq_some_iff.1 HG.out).1).trans HG.out))
          have HB3 : Aside (Below w.heap.size w w3) := below_step BW.out hb3
          have HG3 : Aside (w3.heap[g]? = some (.cells #[.int .i64 a0, .int .i64 r] 3 (0, 0))) := (hb3.block _ (Array.getElem?_eq_some_iff.1 HG.out).1).trans HG.out
          clear hb3 c3
          go_loopg [8] 1 (fun gg s8 wr => s8 = .int .i64 1 ∧ Aside (Below w.heap.size w wr) ∧ Aside (wr.heap[g]? = some (.cells #[.int .i64 a0, .int .i64 r] 3 (0, 0))))
          case atStart => exact ⟨rfl, HB3, HG3⟩
          case round =>
            obtain ⟨rfl, BV, GV⟩ := hrel
            go_wp2
            go_roundg (N - (i + 1))
            case measure => omega
            case rel => exact ⟨i + 1, by omega, by omega, by go_num, BV, GV⟩
        · have hb1' : 1 ≤ x := by omega
          go_wp2_with (go_at_call 9; refine (hN _).mono ?_; rintro e w3 ⟨rfl, hb3⟩; have c3 := HCELL.out _ ((hb3.block _ (Array.getElem?_eq_some_iff.1 HG.out).1).trans HG.out))
          have HB3 : Aside (Below w.heap.size w w3) := below_step BW.out hb3
          have HG3 : Aside (w3.heap[g]? = some (.cells #[.int .i64 a0, .int .i64 r] 3 (0, 0))) := (hb3.block _ (Array.getElem?_eq_some_iff.1 HG.out).1).trans HG.out
          clear hb3 c3
          go_loopg [8] 1 (fun gg s8 wr => s8 = .int .i64 1 ∧ Aside (Below w.heap.size w wr) ∧ Aside (wr.heap[g]? = some (.cells #[.int .i64 a0, .int .i64 r] 3 (0, 0))))
          case atStart => exact ⟨rfl, HB3, HG3⟩
          case round =>
            obtain ⟨rfl, BV, GV⟩ := hrel
            go_wp2
            go_roundg (N - (i + 1))
            case measure => omega
            case rel => exact ⟨i + 1, by omega, by omega, by go_num, BV, GV⟩
      · have hb1' : 1 ≤ x := by omega
        have hb2' : x ≤ 64 := by omega
        obtain ⟨n, rfl⟩ : ∃ n : Nat, x = n := ⟨x.toNat, by omega⟩
        have hN := fun W => new_byte n W (by omega) (by omega)
        rw [← fill_zero (0 : Int) (fun _ => (7 : Int)) n] at hN
        clear hb hx1 hx2
        go_wp2_with (go_at_call 9; refine (hN _).mono ?_; rintro e w3 ⟨rfl, hb3, hT3⟩; have c3 := HCELL.out _ ((hb3.block _ (Array.getElem?_eq_some_iff.1 HG.out).1).trans HG.out))
        have HB3 : Aside (Below w.heap.size w w3) := below_step BW.out hb3
        have HG3 : Aside (w3.heap[g]? = some (.cells #[.int .i64 a0, .int .i64 r] 3 (0, 0))) := (hb3.block _ (Array.getElem?_eq_some_iff.1 HG.out).1).trans HG.out
        have hgb : g < wr.heap.size := (Array.getElem?_eq_some_iff.1 HG.out).1
        have HBW : Aside (w.heap.size ≤ wr.heap.size) := BW.out.size
        generalize wr.heap.size = b at *
        have HT3 : Aside (TabByte w3 b 1 (fillT (0 : Int) (fun _ => (7 : Int)) n (min 0 n))) := by show TabByte _ _ _ _; rw [Nat.zero_min]; exact hT3.mono (Nat.zero_le _)
        clear hb3 c3 hT3 hN c0
        obtain ⟨M, hM⟩ : ∃ M : Nat, M = 66 := ⟨66, rfl⟩
        have HM : Aside (M = 66) := hM
        clear hM
        go_loopg [8] M (fun gg s8 wv => ∃ k : Nat, 1 ≤ k ∧ k ≤ M ∧ M - k ≤ gg ∧ s8 = .int .i64 k ∧ Aside (Below w.heap.size w wv) ∧ Aside (wv.heap[g]? = some (.cells #[.int .i64 a0, .int .i64 r] 3 (0, 0))) ∧ Aside (TabByte wv b k (fillT (0 : Int) (fun _ => (7 : Int)) n (min (k - 1) n))))
        case atStart => exact ⟨1, Nat.le_refl _, by have := HM.out; omega, by omega, rfl, HB3, HG3, HT3⟩
        case round =>
          obtain ⟨k, hk1, hkM, hkg, rfl, BV, GV, TV⟩ := hrel
          have cv := HCELL.out _ GV.out
          by_cases hkl : k < M
          · have hk65 : (k : Int) ≤ 65 := by have := HM.out; omega
            by_cases hkn : k ≤ n
            · have hknI : (k : Int) ≤ (n : Int) := by omega
              have hmin : min (k - 1) n = k - 1 := by omega
              have hAdd := add_byte b k (fillT (0 : Int) (fun _ => (7 : Int)) n (min (k - 1) n)) 7 _ TV.out (by omega)
              rw [hmin, fill_addF (0 : Int) (fun _ => (7 : Int)) n (k - 1) (by omega), fill_addC _ _ _ _ (by omega), (fill_addI (0 : Int) (fun _ => (7 : Int)) n (k - 1) (by omega)).1, (fill_addI (0 : Int) (fun _ => (7 : Int)) n (k - 1) (by omega)).2, show ((k - 1 : Nat) : Int) + 1 = (k : Int) by omega] at hAdd
              clear hmin
              go_wp2_with (go_at_call 10; refine hAdd.mono ?_; rintro e w4 ⟨rfl, hg4, hT4⟩; have hG4 := block_of hg4 GV.out (Nat.ne_of_lt hgb); have c4 := HCELL.out _ hG4; have l4 := (Array.getElem?_eq_some_iff.1 hG4).1)
              go_roundg (M - (k + 1))
              case measure => omega
              case rel =>
                have hal : Below w4.heap.size w4 (w4.alloc (.cells #[.int .i64 k, .int .i64 1] 29)) := below_alloc (Below.refl _ _) _
                exact ⟨k + 1, by omega, by omega, by omega, by go_num, below_step (below_of BV.out HBW.out hg4) hal, (hal.block _ l4).trans hG4, TabIn.below (by rw [show min (k + 1 - 1) n = k - 1 + 1 by omega]; exact hT4) hal⟩
            · have hknI : ¬ (k : Int) ≤ (n : Int) := by omega
              have hmin : min (k - 1) n = n := by omega
              have hAdd := add_byte b k (fillT (0 : Int) (fun _ => (7 : Int)) n (min (k - 1) n)) 7 _ TV.out (by omega)
              rw [hmin, (fill_full (0 : Int) (fun _ => (7 : Int)) n).1, (fill_full (0 : Int) (fun _ => (7 : Int)) n).2.1, (fill_full (0 : Int) (fun _ => (7 : Int)) n).2.2.1, (fill_full (0 : Int) (fun _ => (7 : Int)) n).2.2.2] at hAdd
              clear hmin
              go_wp2_with (go_at_call 10; refine hAdd.mono ?_; rintro e w4 ⟨rfl, hg4, hT4⟩; have hG4 := block_of hg4 GV.out (Nat.ne_of_lt hgb); have c4 := HCELL.out _ hG4; have l4 := (Array.getElem?_eq_some_iff.1 hG4).1)
              go_roundg (M - (k + 1))
              case measure => omega
              case rel =>
                have hal : Below w4.heap.size w4 (w4.alloc (.cells #[.int .i64 0, .int .i64 0] 29)) := below_alloc (Below.refl _ _) _
                exact ⟨k + 1, by omega, by omega, by omega, by go_num, below_step (below_of BV.out HBW.out hg4) hal, (hal.block _ l4).trans hG4, TabIn.below (by rw [show min (k + 1 - 1) n = n by omega]; exact hT4) hal⟩
          · have hk65 : ¬ (k : Int) ≤ 65 := by have := HM.out; omega
            go_wp2
            go_roundg (N - (i + 1))
            case measure => omega
            case rel => exact ⟨i + 1, by omega, by omega, by go_num, BV, GV⟩
    · have hltz : ¬ (i : Int) < 2 := by have := HN.out; omega
      go_wp2_with (go_at_call 11; refine (lives_ok _).mono ?_; rintro e w8 ⟨rfl, hb8⟩)
      go_ret
      exact ⟨rfl, below_step BW.out hb8⟩

end Go.Proofs.Ytbjmgmngomlmfaa.R
