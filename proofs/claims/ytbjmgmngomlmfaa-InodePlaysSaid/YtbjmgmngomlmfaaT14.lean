import Derived.Test.YtbjmgmngomlmfaaT13
import Derived.Outline
import Derived.Shelf.Abstract
import Derived.Deep.LoopGhost
import Derived.Deep.Draws
import Derived.Laws.EntriesVeiled
import Derived.Laws.ResultCell
import Derived.Laws.Rows
import Derived.Deep.QuietTactic
import Derived.Deep.RegionWith
import Derived.BigQuiet
namespace Go.Proofs.Ytbjmgmngomlmfaa.R
open Go.RowKit Go.Proofs.YtbjmgmngomlmfaaW.PrintWords Go.Proofs.YtbjmgmngomlmfaaW.PrintLast Go.Proofs.YtbjmgmngomlmfaaW.PrintMore
attribute [local go_sem] max2_int min2_int max_two min_two max_three min_three max_four min_four   -- for this text's walks alone
set_option linter.unusedVariables false
set_option linter.unusedSimpArgs false
section
variable {α : Type}
theorem fill_atNone (z : α) (f : Nat → α) (n i : Nat) (ino gen : Int) (hi : i ≤ n) (h : ino < 1 ∨ (i : Int) < ino ∨ ¬ gen = 1) : atN (fillT z f n i) ino gen = none := by
  by_cases h1 : 1 ≤ ino ∧ ino ≤ n
  · obtain ⟨p, rfl⟩ : ∃ p : Nat, ino = p + 1 := ⟨(ino - 1).toNat, by omega⟩
    rw [atN_in _ _ _ (by rw [fill_len]; omega), fill_get]
    by_cases hp : p < i
    · have hg : ¬ gen = 1 := by omega
      rw [if_pos hp, if_neg]
      simp
      exact fun e => hg e.symm
    · rw [if_neg hp, if_neg]
      simp
  · exact atN_out _ _ _ (by rw [fill_len]; exact h1)
theorem none_stale {st : List (Bool × Int × α)} {ino gen : Int} (h : atN st ino gen = none) : staleC st ino gen = 8 := by unfold staleC; rw [h]; rfl
theorem none_getF {z : α} {st : List (Bool × Int × α)} {ino gen : Int} (h : atN st ino gen = none) : getF z st ino gen = z := by unfold getF; rw [h]
theorem none_setF {x : α} {st : List (Bool × Int × α)} {ino gen : Int} (h : atN st ino gen = none) : setF st ino gen x = st := by unfold setF; rw [h]
theorem none_remF {z : α} {st : List (Bool × Int × α)} {ino gen : Int} (h : atN st ino gen = none) : remF z st ino gen = st := by unfold remF; rw [h]
theorem fill_remF_count (z : α) (f : Nat → α) (n i p : Nat) (h : p < i) (hi : i ≤ n) : (remF z (fillT z f n i) (p + 1) 1).countP (·.1) = i - 1 := by
  unfold remF; rw [fill_at z f n i p h hi]; simp only
  rw [List.countP_set (by rw [fill_len]; omega), fill_count z f n i hi, fill_get]
  simp [h]
end
/-- What holds of a world in InodeOther behind the loop: nothing that was there is turned; the handle's box; the table. -/
structure OtherIn (w0 w : World) (b k : Nat) (ino gen : Int) (st : List (Bool × Int × Int)) : Prop where
  hb : Below w0.heap.size w0 w
  hx : w.heap[w0.heap.size]? = some (.cells #[.int .i64 ino, .int .i64 gen] 29 (0, 0))
  ht : TabInt w b k st
theorem OtherIn.below {w0 w w1 : World} {b k : Nat} {ino gen : Int} {st : List (Bool × Int × Int)} (h : OtherIn w0 w b k ino gen st) (hb : Below w.heap.size w w1) : OtherIn w0 w1 b k ino gen st :=
  ⟨below_step h.hb hb, (hb.block _ (Array.getElem?_eq_some_iff.1 h.hx).1).trans h.hx, h.ht.below hb⟩
theorem OtherIn.grown {w0 w w1 : World} {b k : Nat} {ino gen : Int} {st st1 : List (Bool × Int × Int)} (h : OtherIn w0 w b k ino gen st) (hn : w0.heap.size < b) (hg : w.grownBy w1 (some b)) (ht : TabInt w1 b k st1) : OtherIn w0 w1 b k ino gen st1 :=
  ⟨below_of h.hb (Nat.le_of_lt hn) hg, block_of hg h.hx (Nat.ne_of_lt hn), ht⟩
set_option maxHeartbeats 8000000 in
theorem InodeOther.walk (a0 ino gen x : Int) (w : World) (h0 : -9223372036854775808 ≤ a0 ∧ a0 ≤ 9223372036854775807) (h1 : -9223372036854775808 ≤ ino ∧ ino ≤ 9223372036854775807) (h2 : -9223372036854775808 ≤ gen ∧ gen ≤ 9223372036854775807) (h3 : -9223372036854775808 ≤ x ∧ x ≤ 9223372036854775807) :
    Calls Try.prog 6 #[.int .i64 a0, .agg #[.int .i64 ino, .int .i64 gen], .int .i64 x] w fun e w' => e = .returned (.bool true) ∧ Below w.heap.size w w' := by
  have hA0 := around_any a0 6 (by omega) h0
  obtain ⟨k, hk⟩ : ∃ k : Nat, arF a0 6 = k := ⟨(arF a0 6).toNat, by have := arF_range a0 6 (by omega); omega⟩
  have hk6 : k < 6 := by have := (arF_range a0 6 (by omega)).2; omega
  rw [hk] at hA0
  clear hk
  have hk2 : k ≤ 5 := by omega
  have hNew := fun W => new_int 5 W (by omega) (by omega)
  rw [← fill_zero (0 : Int) (fun j => (j : Int)) 5] at hNew
  go_enter Try.func6, Try.ntmps6
  go_wp2_with (first
    | (go_at_call 8; refine (hA0 _).mono ?_; rintro e w1 ⟨rfl, hb1⟩)
    | (go_at_call 12; refine (hNew _).mono ?_; rintro e w2 ⟨rfl, hb2, hT2⟩))
  have HB1 : Aside (Below w.heap.size w w1) := below_step (below_alloc (Below.refl w.heap.size w) _) hb1
  have HB2 : Aside (Below w.heap.size w w2) := below_step HB1.out hb2
  have hl1 : w.heap.size < w1.heap.size := by have := hb1.size; simp at this; omega
  have HX1 : w1.heap[w.heap.size]? = some (.cells #[.int .i64 ino, .int .i64 gen] 29 (0, 0)) := (hb1.block _ (by simp)).trans (heap_alloc_new w _)
  have HX2 : Aside (w2.heap[w.heap.size]? = some (.cells #[.int .i64 ino, .int .i64 gen] 29 (0, 0))) := (hb2.block _ hl1).trans HX1
  generalize w1.heap.size = b at *
  clear hb1 hb2 hA0 hNew HX1 HB1
  have hbne : w.heap.size ≠ b := by omega
  go_loopg [10] k (fun gg s10 wr => ∃ i : Nat, i ≤ k ∧ k - i ≤ gg ∧ s10 = .int .i64 i ∧ Aside (Below w.heap.size w wr) ∧ Aside (wr.heap[w.heap.size]? = some (.cells #[.int .i64 ino, .int .i64 gen] 29 (0, 0))) ∧ Aside (TabInt wr b i (fillT (0 : Int) (fun j => (j : Int)) 5 i)))
  case atStart => exact ⟨0, Nat.zero_le _, by omega, rfl, HB2, HX2, hT2⟩
  case round =>
    obtain ⟨i, hik, hg, rfl, BW, HX, HT⟩ := hrel
    by_cases hlt : i < k
    · have hltz : (i : Int) < (k : Int) := by omega
      have hAdd := add_int b i (fillT (0 : Int) (fun j => (j : Int)) 5 i) (i : Int) wr HT.out (by omega)
      rw [fill_addF (0 : Int) (fun j => (j : Int)) 5 i (by omega)] at hAdd
      go_wp2_with (go_at_call 13; refine hAdd.mono ?_; rintro e w3 ⟨rfl, hg3, hT3⟩)
      go_roundg (k - (i + 1))
      case measure => omega
      case rel => exact ⟨i + 1, by omega, by omega, by go_num, below_of BW.out (Nat.le_of_lt hl1) hg3, block_of hg3 HX.out hbne, hT3⟩
    · have hltz : ¬ (i : Int) < (k : Int) := by omega
      have hik2 : i = k := by omega
      have HT2 := HT.out
      rw [hik2] at HT2
      have x0 := blk_cell HX.out 0
      have x1 := blk_cell HX.out 1
      clear hT2 hik2 HT hlt
      have HS : OtherIn w wr b k ino gen (fillT (0 : Int) (fun j => (j : Int)) 5 k) := ⟨BW.out, HX.out, HT2⟩
      by_cases hin : 1 ≤ ino ∧ ino ≤ k ∧ gen = 1
      · obtain ⟨hi1, hi2, rfl⟩ := hin
        obtain ⟨p, rfl⟩ : ∃ p : Nat, ino = p + 1 := ⟨(ino - 1).toNat, by omega⟩
        have hpk : p < k := by omega
        have hG1 := fun W h => get_int b k (fillT (0 : Int) (fun j => (j : Int)) 5 k) (p + 1) 1 W h
        rw [fill_getF _ _ _ _ _ hpk hk2, fill_stale _ _ _ _ _ hpk hk2] at hG1
        have hS := fun W h => set_int b k (fillT (0 : Int) (fun j => (j : Int)) 5 k) (p + 1) 1 x W h
        rw [fill_setF _ _ _ _ _ _ hpk hk2, fill_stale _ _ _ _ _ hpk hk2] at hS
        have hG := fun W h => get_int b k (fillT (0 : Int) (fun j => if j = p then x else (j : Int)) 5 k) (p + 1) 1 W h
        rw [fill_getF _ _ _ _ _ hpk hk2, fill_stale _ _ _ _ _ hpk hk2, if_pos rfl] at hG
        have hR := fun W h => rem_int b k (fillT (0 : Int) (fun j => if j = p then x else (j : Int)) 5 k) (p + 1) 1 W h
        rw [fill_stale _ _ _ _ _ hpk hk2] at hR
        have hL := fun W h => len_int b k (remF 0 (fillT (0 : Int) (fun j => if j = p then x else (j : Int)) 5 k) (p + 1) 1) W h
        rw [fill_remF_count _ _ _ _ _ hpk hk2, show ((k - 1 : Nat) : Int) = (k : Int) - 1 by omega] at hL
        clear HT2 BW HX
        go_wp2_with (first
        | (go_at_call 15; refine (hG1 _ (OtherIn.ht (by assumption))).mono ?_; rintro e wa ⟨rfl, hba⟩; have hsa := OtherIn.below (by assumption) hba; have x0a := blk_cell hsa.hx 0; have x1a := blk_cell hsa.hx 1)
        | (go_at_call 15; refine (hG _ (OtherIn.ht (by assumption))).mono ?_; rintro e wa ⟨rfl, hba⟩; have hsa := OtherIn.below (by assumption) hba; have x0a := blk_cell hsa.hx 0; have x1a := blk_cell hsa.hx 1)
        | (go_at_call 16; refine (hS _ (OtherIn.ht (by assumption))).mono ?_; rintro e wb ⟨rfl, hgb, hTb⟩; have hsb := OtherIn.grown (by assumption) hl1 hgb hTb; have x0b := blk_cell hsb.hx 0; have x1b := blk_cell hsb.hx 1)
        | (go_at_call 14; refine (hR _ (OtherIn.ht (by assumption))).mono ?_; rintro e wc ⟨rfl, hgc, hTc⟩; have hsc := OtherIn.grown (by assumption) hl1 hgc hTc; have x0c := blk_cell hsc.hx 0; have x1c := blk_cell hsc.hx 1)
        | (go_at_call 21; refine (hL _ (OtherIn.ht (by assumption))).mono ?_; rintro e wd ⟨rfl, hbd⟩; have hsd := OtherIn.below (by assumption) hbd)
        | (go_at_call 11; refine (lives_ok _).mono ?_; rintro e we ⟨rfl, hbe⟩; have hse := OtherIn.below (by assumption) hbe))
        go_ret
        exact ⟨rfl, hse.hb⟩
      · have hno := fill_atNone (0 : Int) (fun j => (j : Int)) 5 k ino gen hk2 (by omega)
        have hG := fun W h => get_int b k (fillT (0 : Int) (fun j => (j : Int)) 5 k) ino gen W h
        rw [none_getF hno, none_stale hno] at hG
        have hS := fun W h => set_int b k (fillT (0 : Int) (fun j => (j : Int)) 5 k) ino gen x W h
        rw [none_setF hno, none_stale hno] at hS
        have hR := fun W h => rem_int b k (fillT (0 : Int) (fun j => (j : Int)) 5 k) ino gen W h
        rw [none_remF hno, none_stale hno] at hR
        have hL := fun W h => len_int b k (fillT (0 : Int) (fun j => (j : Int)) 5 k) W h
        rw [fill_count _ _ _ _ hk2] at hL
        clear hno HT2 BW HX
        by_cases c1 : ino < 1
        · have c1' : ¬ 1 ≤ ino := by omega
          clear hin
          go_wp2_with (first
        | (go_at_call 15; refine (hG _ (OtherIn.ht (by assumption))).mono ?_; rintro e wa ⟨rfl, hba⟩; have hsa := OtherIn.below (by assumption) hba; have x0a := blk_cell hsa.hx 0; have x1a := blk_cell hsa.hx 1)
        | (go_at_call 16; refine (hS _ (OtherIn.ht (by assumption))).mono ?_; rintro e wb ⟨rfl, hgb, hTb⟩; have hsb := OtherIn.grown (by assumption) hl1 hgb hTb; have x0b := blk_cell hsb.hx 0; have x1b := blk_cell hsb.hx 1)
        | (go_at_call 14; refine (hR _ (OtherIn.ht (by assumption))).mono ?_; rintro e wc ⟨rfl, hgc, hTc⟩; have hsc := OtherIn.grown (by assumption) hl1 hgc hTc; have x0c := blk_cell hsc.hx 0; have x1c := blk_cell hsc.hx 1)
        | (go_at_call 21; refine (hL _ (OtherIn.ht (by assumption))).mono ?_; rintro e wd ⟨rfl, hbd⟩; have hsd := OtherIn.below (by assumption) hbd)
        | (go_at_call 11; refine (lives_ok _).mono ?_; rintro e we ⟨rfl, hbe⟩; have hse := OtherIn.below (by assumption) hbe))
          go_ret
          exact ⟨rfl, hse.hb⟩
        by_cases c2 : (k : Int) < ino
        · have c1' : 1 ≤ ino := by omega
          have c2' : ¬ ino ≤ k := by omega
          clear hin
          go_wp2_with (first
        | (go_at_call 15; refine (hG _ (OtherIn.ht (by assumption))).mono ?_; rintro e wa ⟨rfl, hba⟩; have hsa := OtherIn.below (by assumption) hba; have x0a := blk_cell hsa.hx 0; have x1a := blk_cell hsa.hx 1)
        | (go_at_call 16; refine (hS _ (OtherIn.ht (by assumption))).mono ?_; rintro e wb ⟨rfl, hgb, hTb⟩; have hsb := OtherIn.grown (by assumption) hl1 hgb hTb; have x0b := blk_cell hsb.hx 0; have x1b := blk_cell hsb.hx 1)
        | (go_at_call 14; refine (hR _ (OtherIn.ht (by assumption))).mono ?_; rintro e wc ⟨rfl, hgc, hTc⟩; have hsc := OtherIn.grown (by assumption) hl1 hgc hTc; have x0c := blk_cell hsc.hx 0; have x1c := blk_cell hsc.hx 1)
        | (go_at_call 21; refine (hL _ (OtherIn.ht (by assumption))).mono ?_; rintro e wd ⟨rfl, hbd⟩; have hsd := OtherIn.below (by assumption) hbd)
        | (go_at_call 11; refine (lives_ok _).mono ?_; rintro e we ⟨rfl, hbe⟩; have hse := OtherIn.below (by assumption) hbe))
          go_ret
          exact ⟨rfl, hse.hb⟩
        · have c1' : 1 ≤ ino := by omega
          have c2' : ino ≤ k := by omega
          have c3 : ¬ gen = 1 := by omega
          have c3' : (gen == 1) = false := by simp [c3]
          clear hin
          go_wp2_with (first
        | (go_at_call 15; refine (hG _ (OtherIn.ht (by assumption))).mono ?_; rintro e wa ⟨rfl, hba⟩; have hsa := OtherIn.below (by assumption) hba; have x0a := blk_cell hsa.hx 0; have x1a := blk_cell hsa.hx 1)
        | (go_at_call 16; refine (hS _ (OtherIn.ht (by assumption))).mono ?_; rintro e wb ⟨rfl, hgb, hTb⟩; have hsb := OtherIn.grown (by assumption) hl1 hgb hTb; have x0b := blk_cell hsb.hx 0; have x1b := blk_cell hsb.hx 1)
        | (go_at_call 14; refine (hR _ (OtherIn.ht (by assumption))).mono ?_; rintro e wc ⟨rfl, hgc, hTc⟩; have hsc := OtherIn.grown (by assumption) hl1 hgc hTc; have x0c := blk_cell hsc.hx 0; have x1c := blk_cell hsc.hx 1)
        | (go_at_call 21; refine (hL _ (OtherIn.ht (by assumption))).mono ?_; rintro e wd ⟨rfl, hbd⟩; have hsd := OtherIn.below (by assumption) hbd)
        | (go_at_call 11; refine (lives_ok _).mono ?_; rintro e we ⟨rfl, hbe⟩; have hse := OtherIn.below (by assumption) hbe))
          go_ret
          exact ⟨rfl, hse.hb⟩

end Go.Proofs.Ytbjmgmngomlmfaa.R
