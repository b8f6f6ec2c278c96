/- For every b, off, data: at the three places, blob.Write tells what the document's Write tells, and the bytes handed in stay (truchmanlaw12.BlobWrites returns true): no condition. -/
import Derived.Test.YtaipnchallmioaaBx2
import Derived.Test.YtaipnchallmioaaPlain
namespace Go.Proofs.Ytaipnchallmioaa.Pure
open Go.RowKit Go.Proofs.Ytaipnchallmioaa.B Go.Proofs.YtaipnchallmioaaW.PrintWords Go.Proofs.YtaipnchallmioaaW.PrintLast Go.Proofs.YtaipnchallmioaaW.PrintMore

theorem writes_round (x0 own few : List Int) (offs : List Int) (k : Nat) (i : Int) (h0 : 0 ≤ i) (hi : i < 3) (ho : offs.length = 3) (hoff : ∀ j, 0 ≤ j → j < 3 → 0 ≤ rd offs j ∧ rd offs j ≤ 9223372036854775807)
    (hl : own.length ≤ 40) (hd : few.length ≤ 30) (ul : ∀ x ∈ own, 0 ≤ x ∧ x ≤ 255) (ud : ∀ x ∈ few, 0 ≤ x ∧ x ≤ 255) (hk : 4096 < k) :
    truchmanlaw12_BlobWrites.l0 (k + 1) x0 own few offs i = truchmanlaw12_BlobWrites.l0 k x0 own few offs (i + 1) := by
  have hb := hoff i h0 hi
  simp only [truchmanlaw12_BlobWrites.l0]
  rw [if_pos hi, if_pos h0, if_pos (by omega), write_eq own few (rd offs i) k (by omega) hb.1 hb.2 (by omega) hk, refwrite_eq own few (rd offs i) (by omega) hb.1 hb.2 (by omega) ul ud, w64 (by omega) (by omega)]
  by_cases c : 0 < (few.length : Int) ∧ (2048 < rd offs i ∨ 2048 - rd offs i < (few.length : Int))
  · rw [if_pos c, if_pos c, ← (show strOfNums [] = ⟨#[]⟩ from rfl)]; simp only [Option.bind_some, if_true]
  · rw [if_neg c, if_neg c]; simp only [Option.bind_some, if_true]
theorem BlobWrites : truchmanlaw12_BlobWrites.Pure := by
  intro l0 a1 l2 _ h0 u0 ha _ h2 u2
  obtain ⟨ha1, ha2⟩ := wf_i64 ha
  obtain ⟨f, hf, hf1, hf2⟩ := from_eq a1 ha1 ha2
  obtain ⟨r, hr, hr1, hr2⟩ := around_eq a1 61 ha1 ha2 (by omega)
  obtain ⟨K, hK⟩ : ∃ K : Nat, 4096 < K := ⟨4097, by omega⟩
  refine ⟨K + 1 + 1 + 1 + 1, ?_⟩
  unfold truchmanlaw12_BlobWrites.f
  rw [show (40 : Int) = ((40 : Nat) : Int) from rfl, show (30 : Int) = ((30 : Nat) : Int) from rfl, few_eq l0 40 (by omega), few_eq l2 30 (by omega), hf, hr]
  simp only [Option.bind_some]
  have hoff : ∀ j, 0 ≤ j → j < 3 → 0 ≤ rd [f, r, 2040] j ∧ rd [f, r, 2040] j ≤ 9223372036854775807 := by
    intro j j0 j3
    rcases (show j = 0 ∨ j = 1 ∨ j = 2 by omega) with rfl | rfl | rfl
    · exact ⟨hf1, hf2⟩
    · exact ⟨hr1, by show r ≤ _; omega⟩
    · exact ⟨by show (0 : Int) ≤ 2040; omega, by show (2040 : Int) ≤ _; omega⟩
  have R := fun k i a b c => writes_round l0 (l0.take 40) (l2.take 30) [f, r, 2040] k i a b rfl hoff (by rw [List.length_take]; omega) (by rw [List.length_take]; omega) (take_u8 u0 40) (take_u8 u2 30) c
  rw [R (K + 1 + 1 + 1) 0 (by omega) (by omega) (by omega), R (K + 1 + 1) (0 + 1) (by omega) (by omega) (by omega), R (K + 1) (0 + 1 + 1) (by omega) (by omega) (by omega)]
  simp only [truchmanlaw12_BlobWrites.l0]
  rw [if_neg (by omega), show (40 : Int) = ((40 : Nat) : Int) from rfl, few_eq l0 40 (by omega)]
  simp only [Option.bind_some, if_true, lives_eq]

end Go.Proofs.Ytaipnchallmioaa.Pure
