import Derived.Test.YtbjmgmngomlmfaaT11
import Derived.Outline
import Derived.Shelf.Abstract
import Derived.Deep.LoopGhost
import Derived.Deep.Draws
import Derived.Laws.EntriesVeiled
import Derived.Laws.ResultCell
import Derived.Laws.Rows
import Derived.Deep.QuietTactic
import Derived.Deep.RegionWith
import Derived.BigQuiet
namespace Go.Proofs.Ytbjmgmngomlmfaa.R
open Go.RowKit Go.Proofs.YtbjmgmngomlmfaaW.PrintWords Go.Proofs.YtbjmgmngomlmfaaW.PrintLast Go.Proofs.YtbjmgmngomlmfaaW.PrintMore
attribute [local go_sem] max2_int min2_int max_two min_two max_three min_three max_four min_four   -- for this text's walks alone
set_option linter.unusedVariables false
set_option linter.unusedSimpArgs false
set_option maxHeartbeats 8000000 in
theorem InodeApart.walk (a0 a1 a2 a3 : Int) (w : World) (h0 : -9223372036854775808 ≤ a0 ∧ a0 ≤ 9223372036854775807) (h1 : -9223372036854775808 ≤ a1 ∧ a1 ≤ 9223372036854775807) (h2 : -9223372036854775808 ≤ a2 ∧ a2 ≤ 9223372036854775807) (h3 : -9223372036854775808 ≤ a3 ∧ a3 ≤ 9223372036854775807) :
    Calls Try.prog 7 #[.int .i64 a0, .int .i64 a1, .int .i64 a2, .int .i64 a3] w fun e w' => e = .returned (.bool true) ∧ Below w.heap.size w w' := by
  have hA0 := around_any a0 8 (by omega) h0
  obtain ⟨k', hk'⟩ : ∃ k' : Nat, arF a0 8 = k' := ⟨(arF a0 8).toNat, by have := arF_range a0 8 (by omega); omega⟩
  have hk8 : k' < 8 := by have := (arF_range a0 8 (by omega)).2; omega
  rw [hk'] at hA0
  obtain ⟨k, hk⟩ : ∃ k : Nat, k = k' + 1 := ⟨_, rfl⟩
  have hkI : (1 : Int) + (k' : Int) = k := by omega
  have hk1 : 1 ≤ k := by omega
  have hk2 : k ≤ 8 := by omega
  obtain ⟨p, hp⟩ : ∃ p : Nat, arF a1 k = p := ⟨(arF a1 k).toNat, by have := arF_range a1 k (by omega); omega⟩
  obtain ⟨q, hq⟩ : ∃ q : Nat, arF a2 k = q := ⟨(arF a2 k).toNat, by have := arF_range a2 k (by omega); omega⟩
  have hA1 := around_any a1 k (by omega) h1
  have hA2 := around_any a2 k (by omega) h2
  rw [hp] at hA1
  rw [hq] at hA2
  have hpk : p < k := by have := (arF_range a1 k (by omega)).2; omega
  have hqk : q < k := by have := (arF_range a2 k (by omega)).2; omega
  clear hp hq hk' hk
  have hNew := fun W => new_int 8 W (by omega) (by omega)
  rw [← fill_zero (0 : Int) (fun j => 10 + (j : Int)) 8] at hNew
  have c1 : ¬ (1 + (k' : Int) < -9223372036854775808) := by omega
  go_enter Try.func7, Try.ntmps7
  go_wp2_with (first
    | (go_at_call 8; refine (hA0 _).mono ?_; rintro e w1 ⟨rfl, hb1⟩)
    | (go_at_call 12; refine (hNew _).mono ?_; rintro e w2 ⟨rfl, hb2, hT2⟩))
  have HB2 : Aside (Below w.heap.size w w2) := below_step hb1 hb2
  have HW1 : Aside (w.heap.size ≤ w1.heap.size) := hb1.size
  generalize w1.heap.size = b at *
  clear hb1 hb2 hA0 hNew c1 hkI hk8
  go_loopg [12] k (fun gg s12 wr => ∃ i : Nat, i ≤ k ∧ k - i ≤ gg ∧ s12 = .int .i64 i ∧ Aside (Below w.heap.size w wr) ∧ Aside (TabInt wr b i (fillT (0 : Int) (fun j => 10 + (j : Int)) 8 i)))
  case atStart => exact ⟨0, Nat.zero_le _, by omega, rfl, HB2, hT2⟩
  case round =>
    obtain ⟨i, hik, hg, rfl, BW, HT⟩ := hrel
    by_cases hlt : i < k
    · have hltz : (i : Int) < (k : Int) := by omega
      have hAdd := add_int b i (fillT (0 : Int) (fun j => 10 + (j : Int)) 8 i) (10 + (i : Int)) wr HT.out (by omega)
      rw [fill_addF (0 : Int) (fun j => 10 + (j : Int)) 8 i (by omega)] at hAdd
      go_wp2_with (go_at_call 13; refine hAdd.mono ?_; rintro e w3 ⟨rfl, hg3, hT3⟩)
      go_roundg (k - (i + 1))
      case measure => omega
      case rel => exact ⟨i + 1, by omega, by omega, by go_num, below_of BW.out HW1.out hg3, hT3⟩
    · have hltz : ¬ (i : Int) < (k : Int) := by omega
      have hik2 : i = k := by omega
      have HT2 := HT.out
      rw [hik2] at HT2
      clear hT2
      have hS := fun W h => set_int b k (fillT (0 : Int) (fun j => 10 + (j : Int)) 8 k) (p + 1) 1 a3 W h
      rw [fill_setF _ _ _ _ _ _ hpk hk2, fill_stale _ _ _ _ _ hpk hk2] at hS
      have hG := fun W h => get_int b k (fillT (0 : Int) (fun j => if j = p then a3 else 10 + (j : Int)) 8 k) (q + 1) 1 W h
      rw [fill_getF _ _ _ _ _ hqk hk2, fill_stale _ _ _ _ _ hqk hk2] at hG
      have hL := fun W h => len_int b k (fillT (0 : Int) (fun j => if j = p then a3 else 10 + (j : Int)) 8 k) W h
      rw [fill_count _ _ _ _ hk2] at hL
      clear hik2 HT hlt
      by_cases epq : p = q
      · subst epq
        rw [if_pos rfl] at hG
        go_wp2_with (first
        | (go_at_call_of 8 a1; refine (hA1 _).mono ?_; rintro e w3 ⟨rfl, hb3⟩)
        | (go_at_call_of 8 a2; refine (hA2 _).mono ?_; rintro e w4 ⟨rfl, hb4⟩; have hb34 := below_step hb3 hb4)
        | (go_at_call 16; refine (hS _ (HT2.below hb34)).mono ?_; rintro e w5 ⟨rfl, hg5, hT5⟩; have hb5 := below_of (below_step BW.out hb34) HW1.out hg5)
        | (go_at_call 15; refine (hG _ hT5).mono ?_; rintro e w6 ⟨rfl, hb6⟩; have hT6 := hT5.below hb6; have hbb6 := below_step hb5 hb6)
        | (go_at_call 21; refine (hL _ hT6).mono ?_; rintro e w7 ⟨rfl, hb7⟩; have hbb7 := below_step hbb6 hb7)
        | (go_at_call 11; refine (lives_ok _).mono ?_; rintro e w8 ⟨rfl, hb8⟩; have hbb8 := below_step hbb7 hb8))
        go_ret
        exact ⟨rfl, hbb8⟩
      · have epqI : ¬ (p : Int) = (q : Int) := by omega
        rw [if_neg (fun h => epq h.symm)] at hG
        clear epq
        go_wp2_with (first
        | (go_at_call_of 8 a1; refine (hA1 _).mono ?_; rintro e w3 ⟨rfl, hb3⟩)
        | (go_at_call_of 8 a2; refine (hA2 _).mono ?_; rintro e w4 ⟨rfl, hb4⟩; have hb34 := below_step hb3 hb4)
        | (go_at_call 16; refine (hS _ (HT2.below hb34)).mono ?_; rintro e w5 ⟨rfl, hg5, hT5⟩; have hb5 := below_of (below_step BW.out hb34) HW1.out hg5)
        | (go_at_call 15; refine (hG _ hT5).mono ?_; rintro e w6 ⟨rfl, hb6⟩; have hT6 := hT5.below hb6; have hbb6 := below_step hb5 hb6)
        | (go_at_call 21; refine (hL _ hT6).mono ?_; rintro e w7 ⟨rfl, hb7⟩; have hbb7 := below_step hbb6 hb7)
        | (go_at_call 11; refine (lives_ok _).mono ?_; rintro e w8 ⟨rfl, hb8⟩; have hbb8 := below_step hbb7 hb8))
        go_ret
        exact ⟨rfl, hbb8⟩

end Go.Proofs.Ytbjmgmngomlmfaa.R
