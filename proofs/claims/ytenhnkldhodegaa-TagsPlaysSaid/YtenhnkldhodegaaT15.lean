import Derived.Test.YtenhnkldhodegaaT14
import Derived.Outline
import Derived.Shelf.Abstract
import Derived.Deep.LoopGhost
import Derived.Deep.Draws
import Derived.Laws.EntriesVeiled
import Derived.Laws.ResultCell
import Derived.Laws.Rows
import Derived.Deep.QuietTactic
import Derived.Deep.RegionWith
import Derived.BigQuiet
import Derived.Deep.MidRow
import Derived.Laws.Tables
import Derived.Deep.WholeRow
import Derived.Lib.SliceRun
import Derived.LaidEql
import Derived.RowKitTokens
import Derived.Stop.Asserts
import Derived.Laws.CopyRow
namespace Go.Proofs.Ytenhnkldhodegaa.R
open Go.RowKit Go.Proofs.YtenhnkldhodegaaW.PrintWords Go.Proofs.YtenhnkldhodegaaW.PrintLast Go.Proofs.YtenhnkldhodegaaW.PrintMore
attribute [local go_sem] max2_int min2_int max_two min_two max_three min_three max_four min_four   -- for this text's walks alone
set_option linter.unusedVariables false
set_option linter.unusedSimpArgs false
theorem fillS_find (ty t0 : Int) (n k : Nat) (h : k < n) : findN (fillS ty t0 n) (t0 + k) = k := by
  refine findN_hit _ _ k (by rw [fillS_len]; exact h) (by rw [fillS_get, bareCs_tag]) ?_
  intro j hj hjk
  rw [fillS_get, bareCs_tag]
  omega
/-- What waits when the k-th was flushed and i are past. -/
def restS (ty t0 : Int) (n k i : Nat) : List (List Value) := ((fillS ty t0 n).eraseIdx k).drop (if i ≤ k then i else i - 1)
theorem erS_len (ty t0 : Int) (n k : Nat) (h : k < n) : ((fillS ty t0 n).eraseIdx k).length = n - 1 := by
  rw [List.length_eraseIdx, fillS_len, if_pos h]
theorem erS_get (ty t0 : Int) (n k j : Nat) (h : k < n) (hj : j < ((fillS ty t0 n).eraseIdx k).length) : ((fillS ty t0 n).eraseIdx k)[j] = bareCs ty (t0 + ((if j < k then j else j + 1 : Nat) : Int)) := by
  rw [List.getElem_eraseIdx]
  split
  · rw [fillS_get]
  · rw [fillS_get]
theorem erS_miss (ty t0 : Int) (n k : Nat) (h : k < n) : ¬ findN ((fillS ty t0 n).eraseIdx k) (t0 + k) < ((fillS ty t0 n).eraseIdx k).length := by
  rw [findN_miss]
  · exact Nat.lt_irrefl _
  · intro j hj
    rw [erS_get _ _ _ _ _ h, bareCs_tag]
    split <;> omega
theorem restS_zero (ty t0 : Int) (n k : Nat) : restS ty t0 n k 0 = (fillS ty t0 n).eraseIdx k := by
  unfold restS; rw [if_pos (Nat.zero_le _)]; rfl
theorem restS_skip (ty t0 : Int) (n k : Nat) : restS ty t0 n k (k + 1) = restS ty t0 n k k := by
  unfold restS; rw [if_neg (by omega), if_pos (Nat.le_refl _)]; rfl
theorem restS_len (ty t0 : Int) (n k i : Nat) (h : k < n) (hi : i < n) (hne : i ≠ k) : 0 < (restS ty t0 n k i).length := by
  unfold restS
  rw [List.length_drop, erS_len _ _ _ _ h]
  split <;> omega
theorem restS_head? (ty t0 : Int) (n k i : Nat) (h : k < n) (hi : i < n) (hne : i ≠ k) : (restS ty t0 n k i)[0]? = some (bareCs ty (t0 + (i : Int))) := by
  unfold restS
  have hl := erS_len ty t0 n k h
  by_cases hik : i ≤ k
  · rw [if_pos hik, List.getElem?_drop, List.getElem?_eq_getElem (by omega), erS_get _ _ _ _ _ h, if_pos (by omega)]
    rfl
  · rw [if_neg hik, List.getElem?_drop, List.getElem?_eq_getElem (by omega), erS_get _ _ _ _ _ h, if_neg (by omega), show i - 1 + 0 + 1 = i by omega]
theorem restS_head (ty t0 : Int) (n k i : Nat) (h : k < n) (hi : i < n) (hne : i ≠ k) (h0 : 0 < (restS ty t0 n k i).length) : (restS ty t0 n k i)[0] = bareCs ty (t0 + (i : Int)) := by
  have := restS_head? ty t0 n k i h hi hne
  rw [List.getElem?_eq_getElem h0] at this
  exact Option.some.inj this
theorem restS_next (ty t0 : Int) (n k i : Nat) (hne : i ≠ k) : (restS ty t0 n k i).eraseIdx 0 = restS ty t0 n k (i + 1) := by
  unfold restS
  rw [List.eraseIdx_zero, List.tail_drop]
  congr 1
  by_cases hik : i ≤ k
  · rw [if_pos hik, if_pos (by omega)]
  · rw [if_neg hik, if_neg (by omega)]; omega
theorem restS_end (ty t0 : Int) (n k : Nat) (h : k < n) : (restS ty t0 n k n).length = 0 := by
  unfold restS
  rw [List.length_drop, erS_len _ _ _ _ h, if_neg (by omega)]
  omega
set_option maxHeartbeats 8000000 in
set_option maxRecDepth 100000 in
theorem TagsFlushes.walk (a0 a1 : Int) (w : World) (h0 : -9223372036854775808 ≤ a0 ∧ a0 ≤ 9223372036854775807) (h1 : -9223372036854775808 ≤ a1 ∧ a1 ≤ 9223372036854775807) :
    Calls Try.prog 6 #[.int .i64 a0, .int .i64 a1] w fun e w' => e = .returned (.bool true) ∧ Below w.heap.size w w' := by
  have hA0 := around_any a0 8 (by omega) h0
  have hr := arF_range a0 8 (by omega)
  generalize arF a0 8 = r0 at hA0 hr
  obtain ⟨r, rfl⟩ : ∃ r : Nat, r0 = r := ⟨r0.toNat, by omega⟩
  have hr8 : (r : Int) < 8 := hr.2
  have hA1 := around_any a1 (1 + (r : Int)) (by omega) h1
  have hk := arF_range a1 (1 + (r : Int)) (by omega)
  generalize arF a1 (1 + (r : Int)) = k0 at hA1 hk
  obtain ⟨k, rfl⟩ : ∃ k : Nat, k0 = k := ⟨k0.toNat, by omega⟩
  have hkr : k < r + 1 := by omega
  have hN := fun W => new_ok 8 W (by omega) (by omega)
  have hu := Try.underlying32
  clear h0 h1 hr hk
  go_enter Try.func6, Try.ntmps6
  go_wp2_with (first
    | (go_at_call 9; with_reducible refine (hN _).mono ?_; rintro e w1 ⟨rfl, hb1, hT1⟩)
    | (go_at_call 8; with_reducible refine (hA0 _).mono ?_; rintro e w2 ⟨rfl, hb2⟩))
  have HB2 : Aside (Below w.heap.size w w2) := below_step hb1 hb2
  have HT2 : Aside (TagsIn w2 w.heap.size 8 (fillS 124 100 0)) := hT1.below hb2
  generalize hgb : w.heap.size = b at *
  clear hb1 hb2 hT1 hA0 hN
  go_loopg [8] (r + 1) (fun gg s8 wv => ∃ i : Nat, i ≤ r + 1 ∧ r + 1 - i ≤ gg ∧ s8 = .int .i64 i ∧ Aside (Below b w wv) ∧ Aside (TagsIn wv b 8 (fillS 124 100 i)))
  case atStart => exact ⟨0, by omega, by omega, rfl, HB2, HT2⟩
  case round =>
    obtain ⟨i, hi, hig, rfl, BV, TV⟩ := hrel
    by_cases hlt : i < r + 1
    · have hltz : (i : Int) < 1 + (r : Int) := by omega
      have hPut := put_bare b 8 124 (100 + (i : Int)) (fillS 124 100 i) _ TV.out (by omega)
      rw [fillS_putC 124 100 8 i (by omega), fillS_putS 124 100 8 i (by omega)] at hPut
      go_wp2_with (go_at_call 10; with_reducible refine hPut.mono ?_; rintro e w4 ⟨rfl, hg4, hT4⟩)
      go_roundg (r + 1 - (i + 1))
      case measure => omega
      case rel => exact ⟨i + 1, by omega, by omega, by go_num, (by subst hgb; exact below_of BV.out (Nat.le_refl _) hg4), hT4⟩
    · have hltz : ¬ (i : Int) < 1 + (r : Int) := by omega
      obtain rfl : i = r + 1 := by omega
      have hF1 := fun W h => flush_ok b 8 (100 + (k : Int)) (fillS 124 100 (r + 1)) W h (by rw [fillS_find 124 100 (r + 1) k hkr, fillS_len]; exact hkr)
      rw [fillS_find 124 100 (r + 1) k hkr] at hF1
      have hF2 := fun W h => flush_none b 8 (100 + (k : Int)) ((fillS 124 100 (r + 1)).eraseIdx k) W h (erS_miss 124 100 (r + 1) k hkr)
      clear hltz
      go_wp2_with (first
        | (go_at_call 8; with_reducible refine (hA1 _).mono ?_; rintro e w5 ⟨rfl, hb5⟩)
        | (go_at_call 17; with_reducible refine (hF1 _ (TV.out.below hb5)).mono ?_; rintro e w6 ⟨rfl, hg6, hT6⟩)
        | (go_at_call 17; with_reducible refine (hF2 _ hT6).mono ?_; rintro e w7 ⟨rfl, hb7⟩))
      have HB7 : Aside (Below b w w7) := by
        subst hgb
        exact below_step (below_of (below_step BV.out hb5) (Nat.le_refl _) hg6) hb7
      have HT7 : Aside (TagsIn w7 b 8 (restS 124 100 (r + 1) k 0)) := by
        show TagsIn _ _ _ _
        rw [restS_zero]
        exact hT6.below hb7
      clear hF1 hF2 hb7 hb5 hg6 hT6 hA1
      go_loopg [12] (r + 1) (fun gg s12 wv => ∃ i : Nat, i ≤ r + 1 ∧ r + 1 - i ≤ gg ∧ s12 = .int .i64 i ∧ Aside (Below b w wv) ∧ Aside (TagsIn wv b 8 (restS 124 100 (r + 1) k i)))
      case atStart => exact ⟨0, by omega, by omega, rfl, HB7, HT7⟩
      case round =>
        obtain ⟨i, hi, hig, rfl, BV, TV⟩ := hrel
        by_cases hlt : i < r + 1
        · have hltz : (i : Int) < 1 + (r : Int) := by omega
          by_cases hik : i = k
          · subst hik
            go_wp2
            go_roundg (r + 1 - (i + 1))
            case measure => omega
            case rel => exact ⟨i + 1, by omega, by omega, by go_num, BV, (by show TagsIn _ _ _ _; rw [restS_skip]; exact TV.out)⟩
          · have hikz : ¬ (i : Int) = (k : Int) := by omega
            have hl := restS_len 124 100 (r + 1) k i hkr hlt hik
            have hPi := fun W h => pick_ok b 0 8 (restS 124 100 (r + 1) k i) W h hl
            rw [restS_head 124 100 (r + 1) k i hkr hlt hik hl, restS_next 124 100 (r + 1) k i hik] at hPi
            simp only [show ((0 : Nat) : Int) = 0 from rfl] at hPi
            clear hl
            go_wp2_with (go_at_call 13; with_reducible refine (hPi _ TV.out).mono ?_; rintro e w8 ⟨rfl, hg8, hT8⟩)
            go_roundg (r + 1 - (i + 1))
            case measure => omega
            case rel => exact ⟨i + 1, by omega, by omega, by go_num, (by subst hgb; exact below_alloc (below_of BV.out (Nat.le_refl _) hg8) _), hT8.below (below_alloc (Below.refl _ _) _)⟩
        · have hltz : ¬ (i : Int) < 1 + (r : Int) := by omega
          obtain rfl : i = r + 1 := by omega
          have hLen := len_ok b 8 (restS 124 100 (r + 1) k (r + 1)) _ TV.out
          rw [restS_end 124 100 (r + 1) k hkr] at hLen
          go_wp2_with (first
            | (go_at_call 16; with_reducible refine hLen.mono ?_; rintro e w8 ⟨rfl, hb8⟩)
            | (go_at_call 11; refine (lives_ok _).mono ?_; rintro e w9 ⟨rfl, hb9⟩))
          go_ret
          exact ⟨rfl, by subst hgb; exact below_step (below_step BV.out hb8) hb9⟩

end Go.Proofs.Ytenhnkldhodegaa.R
