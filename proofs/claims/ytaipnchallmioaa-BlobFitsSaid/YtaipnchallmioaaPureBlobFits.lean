/- For every size, place, number and room: blob.Fits tells what the document's Fits tells (truchmanlaw12.BlobFits returns true): no condition. -/
import Derived.Test.YtaipnchallmioaaBx7
import Derived.Test.YtaipnchallmioaaPlain
namespace Go.Proofs.Ytaipnchallmioaa.Pure
open Go.RowKit Go.Proofs.Ytaipnchallmioaa.B Go.Proofs.YtaipnchallmioaaW.PrintWords Go.Proofs.YtaipnchallmioaaW.PrintLast Go.Proofs.YtaipnchallmioaaW.PrintMore

theorem fits_same (s o n m : Int) (hs0 : 0 ≤ s) (hs : s ≤ 2048) (ho0 : 0 ≤ o) (ho : o ≤ 9223372036854775807) (hn0 : 0 ≤ n) (hn : n ≤ 9223372036854775807) (hm0 : 0 ≤ m) :
    ∃ r, blob_Fits.f s o n m = some r ∧ truchmanref12_Fits.f s o n m = some r := by
  unfold blob_Fits.f truchmanref12_Fits.f
  rw [great_eq o n ho0 ho hn0, toobig_eq o n ho0 ho hn0 hn]
  simp only [Option.bind_some]
  by_cases c : 0 < n ∧ (2048 < o ∨ 2048 - o < n)
  · rw [if_pos (decide_eq_true c), if_pos (decide_eq_true c)]; exact ⟨_, rfl, rfl⟩
  · have cf : decide (0 < n ∧ (2048 < o ∨ 2048 - o < n)) = false := decide_eq_false c
    simp only [cf, Bool.false_eq_true, if_false]
    by_cases p : n > 0
    · rw [if_pos p, if_pos p, w64 (n := o + n) (by omega) (by omega), w64 (n := o + n - s) (by omega) (by omega)]
      by_cases g : o + n > s
      · rw [if_pos g]
        by_cases q : o + n - s > m
        · rw [if_pos q]; exact ⟨_, rfl, rfl⟩
        · rw [if_neg q]; exact ⟨_, rfl, rfl⟩
      · rw [if_neg g, if_neg (by omega)]; exact ⟨_, rfl, rfl⟩
    · rw [if_neg p, if_neg p]; exact ⟨_, rfl, rfl⟩
theorem BlobFits : truchmanlaw12_BlobFits.Pure := by
  intro a0 a1 a2 a3 h0 h1 h2 h3
  obtain ⟨b0, c0⟩ := wf_i64 h0
  obtain ⟨b1, c1⟩ := wf_i64 h1
  obtain ⟨b2, c2⟩ := wf_i64 h2
  obtain ⟨b3, c3⟩ := wf_i64 h3
  obtain ⟨s, hs, hs0, hs1⟩ := around_eq a0 2049 b0 c0 (by omega)
  obtain ⟨t, ht, ht0, ht1⟩ := around_eq a0 60 b0 c0 (by omega)
  obtain ⟨o, ho, ho0, ho1⟩ := from_eq a1 b1 c1
  obtain ⟨n, hn, hn0, hn1⟩ := from_eq a2 b2 c2
  obtain ⟨m, hm, hm0, hm1⟩ := from_eq a3 b3 c3
  obtain ⟨o', ho', ho0', ho1'⟩ := around_eq a1 101 b1 c1 (by omega)
  obtain ⟨n', hn', hn0', hn1'⟩ := around_eq a2 101 b2 c2 (by omega)
  obtain ⟨m', hm', hm0', hm1'⟩ := around_eq a3 101 b3 c3 (by omega)
  obtain ⟨r, hr, hr'⟩ := fits_same s o n m hs0 (by omega) ho0 ho1 hn0 hn1 hm0
  obtain ⟨q, hq, hq'⟩ := fits_same t o' n' m' ht0 (by omega) ho0' (by omega) hn0' (by omega) hm0'
  unfold truchmanlaw12_BlobFits.f
  simp only [hs, ht, ho, hn, hm, hr, hr', ho', hn', hm', hq, hq', Option.bind_some, if_true, lives_eq]

end Go.Proofs.Ytaipnchallmioaa.Pure
