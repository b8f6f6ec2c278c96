/- For every b and size: blob.Resize tells what the document's Resize tells, and the bytes handed in stay (truchmanlaw12.BlobSizes returns true): no condition. -/
import Derived.Test.YtaipnchallmioaaBx6
import Derived.Test.YtaipnchallmioaaPlain
namespace Go.Proofs.Ytaipnchallmioaa.Pure
open Go.RowKit Go.Proofs.Ytaipnchallmioaa.B Go.Proofs.YtaipnchallmioaaW.PrintWords Go.Proofs.YtaipnchallmioaaW.PrintLast Go.Proofs.YtaipnchallmioaaW.PrintMore

theorem resize_same (own : List Int) (s : Int) (k : Nat) (hl : own.length ≤ 40) (u : ∀ x ∈ own, 0 ≤ x ∧ x ≤ 255) (h0 : 0 ≤ s) (hk : 4096 < k) :
    ∃ r1 r2, blob_Resize.f k own s = some (r1, r2) ∧ truchmanref12_Resize.f (strOfNums own) s = some (strOfNums r1, r2) := by
  unfold blob_Resize.f truchmanref12_Resize.f
  by_cases c : s > 2048
  · rw [if_pos c, if_pos c]; exact ⟨[], 15, rfl, rfl⟩
  · rw [if_neg c, if_neg c, str_size, if_pos ⟨h0, by omega⟩, bytes_back own u]
    obtain ⟨n, rfl⟩ : ∃ n : Nat, s = (n : Int) := ⟨s.toNat, by omega⟩
    rw [grown_eq own n k (by omega) (by omega) (by omega), Option.bind_some, if_pos h0, Int.toNat_natCast]
    rw [if_pos (by rw [List.length_append, List.length_replicate]; omega)]
    exact ⟨_, 0, rfl, rfl⟩
theorem sizes_round (x0 own ss : List Int) (k : Nat) (i : Int) (h0 : 0 ≤ i) (hi : i < 2) (ho : ss.length = 2) (hss : ∀ j, 0 ≤ j → j < 2 → 0 ≤ rd ss j) (hl : own.length ≤ 40) (u : ∀ x ∈ own, 0 ≤ x ∧ x ≤ 255) (hk : 4096 < k) :
    truchmanlaw12_BlobSizes.l0 (k + 1) x0 own ss i = truchmanlaw12_BlobSizes.l0 k x0 own ss (i + 1) := by
  obtain ⟨r1, r2, e1, e2⟩ := resize_same own (rd ss i) k hl u (hss i h0 hi) hk
  simp only [truchmanlaw12_BlobSizes.l0]
  rw [if_pos hi, if_pos h0, if_pos (by omega), e1, e2, w64 (by omega) (by omega)]
  simp only [Option.bind_some, if_true]
theorem BlobSizes : truchmanlaw12_BlobSizes.Pure := by
  intro l0 a1 _ h0 u0 ha
  obtain ⟨ha1, ha2⟩ := wf_i64 ha
  obtain ⟨f, hf, hf1, hf2⟩ := from_eq a1 ha1 ha2
  obtain ⟨r, hr, hr1, hr2⟩ := around_eq a1 61 ha1 ha2 (by omega)
  obtain ⟨K, hK⟩ : ∃ K : Nat, 4096 < K := ⟨4097, by omega⟩
  refine ⟨K + 1 + 1 + 1, ?_⟩
  unfold truchmanlaw12_BlobSizes.f
  rw [show (40 : Int) = ((40 : Nat) : Int) from rfl, few_eq l0 40 (by omega), hf, hr]
  simp only [Option.bind_some]
  have hss : ∀ j, 0 ≤ j → j < 2 → 0 ≤ rd [f, r] j := by
    intro j j0 j3
    rcases (show j = 0 ∨ j = 1 by omega) with rfl | rfl
    · exact hf1
    · exact hr1
  have R := fun k i a b c => sizes_round l0 (l0.take 40) [f, r] k i a b rfl hss (by rw [List.length_take]; omega) (take_u8 u0 40) c
  rw [R (K + 1 + 1) 0 (by omega) (by omega) (by omega), R (K + 1) (0 + 1) (by omega) (by omega) (by omega)]
  simp only [truchmanlaw12_BlobSizes.l0]
  rw [if_neg (by omega), show (40 : Int) = ((40 : Nat) : Int) from rfl, few_eq l0 40 (by omega)]
  simp only [Option.bind_some, if_true, lives_eq]

end Go.Proofs.Ytaipnchallmioaa.Pure
