/- For every b, off, data and place: what was written is read, what was not written stays (truchmanlaw12.BlobStays returns true): no condition. -/
import Derived.Test.YtaipnchallmioaaBx5
import Derived.Test.YtaipnchallmioaaPlain
namespace Go.Proofs.Ytaipnchallmioaa.Pure
open Go.RowKit Go.Proofs.Ytaipnchallmioaa.B Go.Proofs.YtaipnchallmioaaW.PrintWords Go.Proofs.YtaipnchallmioaaW.PrintLast Go.Proofs.YtaipnchallmioaaW.PrintMore

theorem drop_take_one (L : List Int) (k : Nat) : (L.drop k).take 1 = if k < L.length then [L.getD k 0] else [] := by
  by_cases h : k < L.length
  · rw [if_pos h, List.drop_eq_getElem_cons h, List.getD_eq_getElem?_getD, List.getElem?_eq_getElem h]; rfl
  · rw [if_neg h, List.drop_eq_nil_of_le (by omega)]; rfl
theorem take_drop_one (L : List Int) (k : Nat) (h : k < L.length) : (L.take (k + 1)).drop k = [L.getD k 0] := by
  rw [List.drop_take, show k + 1 - k = 1 from by omega, drop_take_one, if_pos h]
theorem str_zero : (strOfNums [0]).toList = ([0] : List UInt8) := by decide +kernel
theorem str_nil : (strOfNums []).toList = (⟨#[]⟩ : ByteArray).toList := rfl
theorem BlobStays : truchmanlaw12_BlobStays.Pure := by
  intro l0 a1 l2 a3 _ h0 u0 h1 _ h2 u2 h3
  obtain ⟨b1, c1⟩ := wf_i64 h1
  obtain ⟨b3, c3⟩ := wf_i64 h3
  have hfl : (l2.take 20).length ≤ 20 := by rw [List.length_take]; omega
  have hol : (l0.take 40).length ≤ 40 := by rw [List.length_take]; omega
  obtain ⟨o, ho, ho0, ho1⟩ := around_eq a1 51 b1 c1 (by omega)
  obtain ⟨q, hq, hq0, hq1⟩ := around_eq a3 71 b3 c3 (by omega)
  obtain ⟨K, hK⟩ : ∃ K : Nat, 4096 < K := ⟨4097, by omega⟩
  refine ⟨K + 1 + 1, ?_⟩
  unfold truchmanlaw12_BlobStays.f
  rw [show (40 : Int) = ((40 : Nat) : Int) from rfl, show (20 : Int) = ((20 : Nat) : Int) from rfl, few_eq l0 40 (by omega), few_eq l2 20 (by omega)]
  simp only [Option.bind_some]
  rw [ho]
  simp only [Option.bind_some]
  obtain ⟨n, rfl⟩ : ∃ n : Nat, o = (n : Int) := ⟨o.toNat, by omega⟩
  obtain ⟨m, rfl⟩ : ∃ m : Nat, q = (m : Int) := ⟨q.toNat, by omega⟩
  generalize l2.take 20 = F at *
  generalize l0.take 40 = O at *
  rw [write_le O F n (K + 1 + 1) (by omega) (by omega) (by omega)]
  simp only [Option.bind_some]
  rw [hq]
  simp only [Option.bind_some]
  have hWl := wrote_length O n F
  have hWg := wrote_get O n F m
  have hWs : (wrote O n F).length ≤ 1000 := by rw [hWl]; split <;> omega
  generalize wrote O n F = W at *
  have hrd : blob_Read.f W (m : Int) 1 = some (if m < W.length then [W.getD m 0] else [], decide (W.length - m ≤ 1)) := by
    unfold blob_Read.f
    rw [if_pos ⟨by omega, by omega, by omega⟩, Int.toNat_natCast, show (1 : Int).toNat = 1 from rfl, drop_take_one]
  rw [hrd]
  simp only [Option.bind_some]
  have hWd : m < W.length → W.getD m 0 = if n ≤ m ∧ m < n + F.length then F.getD (m - n) 0 else O.getD m 0 := by
    intro h
    rw [List.getD_eq_getElem?_getD, hWg, if_pos h]; rfl
  have hOz : O.length ≤ m → O.getD m 0 = 0 := fun h => by rw [List.getD_eq_getElem?_getD, List.getElem?_eq_none h]; rfl
  have w1 : Aside0 (wrap64 ((m : Int) + 1) = ((m + 1 : Nat) : Int)) := ⟨by rw [w64 (by omega) (by omega)]; omega⟩
  have w2 : Aside0 (wrap64 ((n : Int) + (F.length : Int)) = ((n + F.length : Nat) : Int)) := ⟨by rw [w64 (by omega) (by omega)]; omega⟩
  by_cases A : n ≤ m ∧ m < n + F.length
  · -- in what was written
    have hF0 : F.length ≠ 0 := by omega
    have hm : m < W.length := by rw [hWl, if_neg hF0]; omega
    have w3 : Aside0 (wrap64 ((m : Int) - (n : Int)) = ((m - n : Nat) : Int)) := ⟨by rw [w64 (by omega) (by omega)]; omega⟩
    have w4 : Aside0 (wrap64 (((m - n : Nat) : Int) + 1) = ((m - n + 1 : Nat) : Int)) := ⟨by rw [w64 (by omega) (by omega)]; omega⟩
    have key : ∀ want, truchmanlaw12_BlobStays.j0 (K + 1 + 1) O F (n : Int) 0 (m : Int) (if m < W.length then [W.getD m 0] else []) want = some true := by
      intro want
      have k2 : truchmanlaw12_BlobStays.j1 (K + 1) F (n : Int) 0 (m : Int) (if m < W.length then [W.getD m 0] else []) want false = some true := by
        simp only [truchmanlaw12_BlobStays.j1, Bool.false_eq_true, if_false]
        rw [if_pos (by omega), w2.out, if_pos (by omega), w3.out, w4.out, if_pos (by omega), if_pos (by omega), if_pos (by omega)]
        rw [Int.toNat_natCast, Int.toNat_natCast, take_drop_one F (m - n) (by omega), if_pos hm, hWd hm, if_pos A]
        simp only [if_true, lives_eq, Option.bind_some]
      simp only [truchmanlaw12_BlobStays.j0]
      by_cases c : (m : Int) ≥ (O.length : Int)
      · rw [if_pos c, if_neg (by omega)]; exact k2
      · rw [if_neg c]; exact k2
    by_cases c : (m : Int) < (O.length : Int)
    · rw [if_pos c, if_pos (by omega), w1.out, if_pos (by omega), if_pos (by omega)]; exact key _
    · rw [if_neg c]; exact key _
  · by_cases c : (m : Int) < (O.length : Int)
    · -- what stays
      have hm : m < W.length := by rw [hWl]; split <;> omega
      rw [if_pos c, if_pos (by omega), w1.out, if_pos (by omega), if_pos (by omega), Int.toNat_natCast, Int.toNat_natCast, take_drop_one O m (by omega), if_pos hm, hWd hm, if_neg A]
      simp only [truchmanlaw12_BlobStays.j0]
      rw [if_neg (by omega)]
      simp only [truchmanlaw12_BlobStays.j1, Bool.false_eq_true, if_false]
      by_cases d : (m : Int) ≥ (n : Int)
      · rw [if_pos d, w2.out, if_neg (by omega)]; simp only [if_true, lives_eq, Option.bind_some]
      · rw [if_neg d]; simp only [if_true, lives_eq, Option.bind_some]
    · rw [if_neg c]
      simp only [truchmanlaw12_BlobStays.j0]
      rw [if_pos (by omega)]
      by_cases d : (m : Int) < (n : Int)
      · rw [if_pos d]
        by_cases e : (F.length : Int) > 0
        · -- a hole
          have hm : m < W.length := by rw [hWl, if_neg (by omega)]; omega
          rw [decide_eq_true e, if_pos hm, hWd hm, if_neg A, hOz (by omega)]
          simp only [truchmanlaw12_BlobStays.j1, if_true]
          rw [if_neg (by omega), if_pos str_zero]
          simp only [lives_eq, Option.bind_some]
        · have hm : ¬ m < W.length := by rw [hWl, if_pos (by omega)]; omega
          rw [decide_eq_false e, if_neg hm]
          simp only [truchmanlaw12_BlobStays.j1, Bool.false_eq_true, if_false, if_true]
          rw [if_neg (by omega), if_pos str_nil]
          simp only [lives_eq, Option.bind_some]
      · have hm : ¬ m < W.length := by rw [hWl]; split <;> omega
        rw [if_neg d, if_neg hm]
        simp only [truchmanlaw12_BlobStays.j1, Bool.false_eq_true, if_false, if_true]
        rw [if_pos (by omega), w2.out, if_neg (by omega), if_pos str_nil]
        simp only [lives_eq, Option.bind_some]

end Go.Proofs.Ytaipnchallmioaa.Pure
