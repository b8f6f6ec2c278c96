/- For every b, off, data, cut: what is written twice in one place, or in two pieces, is as if it were written once (truchmanlaw12.BlobTwice returns true): no condition. -/
import Derived.Test.YtaipnchallmioaaBx3
import Derived.Test.YtaipnchallmioaaPlain
namespace Go.Proofs.Ytaipnchallmioaa.Pure
open Go.RowKit Go.Proofs.Ytaipnchallmioaa.B Go.Proofs.YtaipnchallmioaaW.PrintWords Go.Proofs.YtaipnchallmioaaW.PrintLast Go.Proofs.YtaipnchallmioaaW.PrintMore

theorem wrote_twice (l d : List Int) (off : Nat) : wrote (wrote l off d) off d = wrote l off d := by
  apply List.ext_getElem?
  intro k
  rw [wrote_get, wrote_get l, wrote_length, wrote_length]
  by_cases c : d.length = 0
  · simp only [if_pos c]
    by_cases c1 : k < l.length
    · have c2 : ¬ (off ≤ k ∧ k < off + d.length) := by omega
      rw [if_pos c1, if_pos c1, if_neg c2, if_neg c2, List.getD_eq_getElem?_getD, wrote_get, wrote_length, if_pos c, if_pos c1, if_neg c2]; rfl
    · rw [if_neg c1, if_neg c1]
  · simp only [if_neg c]
    by_cases c1 : k < max l.length (off + d.length)
    · have c3 : k < max (max l.length (off + d.length)) (off + d.length) := by omega
      rw [if_pos c1, if_pos c3]
      by_cases c2 : off ≤ k ∧ k < off + d.length
      · rw [if_pos c2, if_pos c2]
      · rw [if_neg c2, if_neg c2, List.getD_eq_getElem?_getD, wrote_get, wrote_length, if_neg c, if_pos c1, if_neg c2]; rfl
    · have c3 : ¬ k < max (max l.length (off + d.length)) (off + d.length) := by omega
      rw [if_neg c1, if_neg c3]
theorem wrote_pieces (l d : List Int) (off c : Nat) (hc : c ≤ d.length) : wrote (wrote l off (d.take c)) (off + c) (d.drop c) = wrote l off d := by
  apply List.ext_getElem?
  intro k
  have e1 : (d.take c).length = c := by rw [List.length_take]; omega
  have e2 : (d.drop c).length = d.length - c := by rw [List.length_drop]
  have L1 : (wrote l off (d.take c)).length = if c = 0 then l.length else max l.length (off + c) := by rw [wrote_length, e1]
  have L2 : (wrote (wrote l off (d.take c)) (off + c) (d.drop c)).length = (wrote l off d).length := by
    rw [wrote_length, e2, L1, wrote_length]
    repeat' split
    all_goals omega
  rw [wrote_get, L2, wrote_get l off d, e2]
  by_cases c1 : k < (wrote l off d).length
  · rw [if_pos c1, if_pos c1]
    congr 1
    have hg1 : (wrote l off (d.take c)).getD k 0 = if off ≤ k ∧ k < off + c then d.getD (k - off) 0 else l.getD k 0 := by
      rw [List.getD_eq_getElem?_getD, wrote_get, e1]
      by_cases h : k < (wrote l off (d.take c)).length
      · rw [if_pos h]
        by_cases h2 : off ≤ k ∧ k < off + c
        · have h3 : k - off < c := by omega
          rw [if_pos h2, if_pos h2, List.getD_eq_getElem?_getD, List.getElem?_take, if_pos h3, ← List.getD_eq_getElem?_getD]; rfl
        · rw [if_neg h2, if_neg h2]; rfl
      · have h2 : ¬ (off ≤ k ∧ k < off + c) := by rw [L1] at h; split at h <;> omega
        have h3 : l.length ≤ k := by rw [L1] at h; split at h <;> omega
        rw [if_neg h, if_neg h2, List.getD_eq_getElem?_getD, List.getElem?_eq_none h3]
    rw [hg1]
    by_cases a : off + c ≤ k ∧ k < off + c + (d.length - c)
    · have b : off ≤ k ∧ k < off + d.length := by omega
      rw [if_pos a, if_pos b, List.getD_eq_getElem?_getD, List.getElem?_drop, show c + (k - (off + c)) = k - off from by omega, ← List.getD_eq_getElem?_getD]
    · rw [if_neg a]
      by_cases b : off ≤ k ∧ k < off + c
      · have e : off ≤ k ∧ k < off + d.length := by omega
        rw [if_pos b, if_pos e]
      · have e : ¬ (off ≤ k ∧ k < off + d.length) := by omega
        rw [if_neg b, if_neg e]
  · rw [if_neg c1, if_neg c1]
theorem BlobTwice : truchmanlaw12_BlobTwice.Pure := by
  intro l0 a1 l2 a3 _ h0 u0 h1 _ h2 u2 h3
  obtain ⟨b1, c1⟩ := wf_i64 h1
  obtain ⟨b3, c3⟩ := wf_i64 h3
  have hfl : (l2.take 30).length ≤ 30 := by rw [List.length_take]; omega
  have hol : (l0.take 40).length ≤ 40 := by rw [List.length_take]; omega
  obtain ⟨o, ho, ho0, ho1⟩ := around_eq a1 51 b1 c1 (by omega)
  obtain ⟨c, hc, hc0, hc1⟩ := around_eq a3 (((l2.take 30).length : Int) + 1) b3 c3 (by omega)
  refine ⟨4101, ?_⟩
  unfold truchmanlaw12_BlobTwice.f
  rw [show (40 : Int) = ((40 : Nat) : Int) from rfl, show (30 : Int) = ((30 : Nat) : Int) from rfl, few_eq l0 40 (by omega), few_eq l2 30 (by omega)]
  simp only [Option.bind_some]
  rw [ho, w64 (n := ((l2.take 30).length : Int) + 1) (by omega) (by omega), hc]
  simp only [Option.bind_some]
  obtain ⟨n, rfl⟩ : ∃ n : Nat, o = (n : Int) := ⟨o.toNat, by omega⟩
  obtain ⟨m, rfl⟩ : ∃ m : Nat, c = (m : Int) := ⟨c.toNat, by omega⟩
  have hw : ∀ d : List Int, d.length ≤ 30 → (wrote (l0.take 40) n d).length ≤ 1048576 := fun d hd => by rw [wrote_length]; split <;> omega
  generalize hF : l2.take 30 = F at *
  generalize hO : l0.take 40 = O at *
  rw [write_le O F n 4101 (by omega) (by omega) (by omega)]
  simp only [Option.bind_some]
  rw [write_le (wrote O n F) F n 4101 (hw F hfl) (by omega) (by omega)]
  simp only [Option.bind_some]
  rw [if_pos hc0, if_pos (by omega), Int.toNat_natCast, write_le O (F.take m) n 4101 (by omega) (by rw [List.length_take]; omega) (by omega)]
  simp only [Option.bind_some]
  rw [w64 (n := (n : Int) + (m : Int)) (by omega) (by omega), show (n : Int) + (m : Int) = ((n + m : Nat) : Int) from by omega, write_le (wrote O n (F.take m)) (F.drop m) (n + m) 4101 (hw _ (by rw [List.length_take]; omega)) (by rw [List.length_drop]; omega) (by omega)]
  simp only [Option.bind_some, if_true, wrote_twice, wrote_pieces O F n m (by omega), lives_eq]

end Go.Proofs.Ytaipnchallmioaa.Pure
