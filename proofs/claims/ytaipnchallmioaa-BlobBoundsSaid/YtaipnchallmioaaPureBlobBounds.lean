/- For every place, number and size near the limit: where the last byte may stand is told as the document says (truchmanlaw12.BlobBounds returns true): no condition. -/
import Derived.Test.YtaipnchallmioaaBx8
import Derived.Test.YtaipnchallmioaaPlain
namespace Go.Proofs.Ytaipnchallmioaa.Pure
open Go.RowKit Go.Proofs.Ytaipnchallmioaa.B Go.Proofs.YtaipnchallmioaaW.PrintWords Go.Proofs.YtaipnchallmioaaW.PrintLast Go.Proofs.YtaipnchallmioaaW.PrintMore

theorem bounds_round (x2 o : Int) (ks : List Int) (k : Nat) (i : Int) (h0 : 0 ≤ i) (hi : i < 2) (ho1 : 2030 ≤ o) (ho2 : o ≤ 2060) (hks : ks.length = 2) (hr : 0 ≤ rd ks i ∧ rd ks i ≤ 2060) (hk : 4096 < k) :
    truchmanlaw12_BlobBounds.l0 (k + 1 + 1 + 1 + 1) x2 o ks i = truchmanlaw12_BlobBounds.l0 k x2 o ks (i + 1) := by
  obtain ⟨n, hn⟩ : ∃ n : Nat, rd ks i = (n : Int) := ⟨(rd ks i).toNat, by omega⟩
  have hil : i < (ks.length : Int) := by omega
  have hrl : (List.replicate n (0 : Int)).length = n := List.length_replicate
  have A := write_eq ([] : List Int) (List.replicate n 0) o (k + 1 + 1 + 1) (by simp) (by omega) (by omega) (by omega) (by omega)
  have B := write_eq ([] : List Int) (List.replicate n 0) 0 (k + 1 + 1 + 1) (by simp) (by omega) (by omega) (by omega) (by omega)
  rw [hrl] at A B
  have Fz : blob_Fits.f 0 o (n : Int) 9999 = some (if 0 < (n : Int) ∧ (2048 < o ∨ 2048 - o < (n : Int)) then 15 else 0) := by
    unfold blob_Fits.f
    rw [great_eq o (n : Int) (by omega) (by omega) (by omega), Option.bind_some]
    by_cases c : 0 < (n : Int) ∧ (2048 < o ∨ 2048 - o < (n : Int))
    · rw [if_pos (decide_eq_true c), if_pos c]
    · rw [if_neg (by rw [decide_eq_true_eq]; exact c), if_neg c]
      by_cases p : (n : Int) > 0
      · rw [if_pos p, w64 (n := o + (n : Int)) (by omega) (by omega), w64 (n := o + (n : Int) - 0) (by omega) (by omega), if_neg (by omega)]
      · rw [if_neg p]
  have w1 : wrap64 (o + (n : Int)) = o + (n : Int) := w64 (by omega) (by omega)
  have W1 := wrote_length ([] : List Int) o.toNat (List.replicate n 0)
  have W2 := wrote_length ([] : List Int) (0 : Int).toNat (List.replicate n 0)
  rw [hrl] at W1 W2
  simp only [truchmanlaw12_BlobBounds.l0]
  rw [if_pos hi, if_pos h0, if_pos hil, hn, if_pos (by omega), Int.toNat_natCast, if_pos (by omega), A, B]
  have J3 : ∀ (y : List Int) (f : Int), (f = 0 → (y.length : Int) = n) → truchmanlaw12_BlobBounds.j3 (k + 1) x2 o ks i y f false = truchmanlaw12_BlobBounds.l0 k x2 o ks (i + 1) := by
    intro y f hf
    simp only [truchmanlaw12_BlobBounds.j3]
    rw [if_neg (by decide), hn, w64 (n := i + 1) (by omega) (by omega)]
    by_cases c : f = 0
    · rw [if_pos c, if_pos h0, if_pos hil, if_pos (hf c)]
    · rw [if_neg c]
  have J2 : ∀ (x y : List Int) (e f : Int), (f = 0 → (y.length : Int) = n) → (e = 0 → (n : Int) > 0 → (x.length : Int) = o + n) → truchmanlaw12_BlobBounds.j2 (k + 1 + 1) x2 o ks i x e y f false = truchmanlaw12_BlobBounds.l0 k x2 o ks (i + 1) := by
    intro x y e f hf he
    simp only [truchmanlaw12_BlobBounds.j2]
    rw [if_neg (by decide), hn, w1]
    by_cases c : e = 0
    · rw [if_pos c, if_pos h0, if_pos hil]
      by_cases p : (n : Int) > 0
      · rw [if_pos p, he c p, bne_self_eq_false]; exact J3 y f hf
      · rw [if_neg p]; exact J3 y f hf
    · rw [if_neg c]; exact J3 y f hf
  -- the second write
  obtain ⟨y, f, hB, hf1, hf2⟩ : ∃ y f, (if 0 < (n : Int) ∧ ((2048 : Int) < 0 ∨ (2048 : Int) - 0 < (n : Int)) then some (([] : List Int), (15 : Int)) else some (wrote [] (0 : Int).toNat (List.replicate n 0), 0)) = some (y, f) ∧ (f = 0 → (y.length : Int) = n) ∧ ((f == 0) != decide ((n : Int) ≤ 2048)) = false := by
    by_cases c : 0 < (n : Int) ∧ ((2048 : Int) < 0 ∨ (2048 : Int) - 0 < (n : Int))
    · rw [if_pos c]
      refine ⟨_, _, rfl, fun h => absurd h (by decide), ?_⟩
      rw [decide_eq_false (by omega : ¬ (n : Int) ≤ 2048)]; rfl
    · rw [if_neg c]
      refine ⟨_, _, rfl, fun _ => ?_, ?_⟩
      · rw [W2]; split
        · simp; omega
        · simp
      · rw [decide_eq_true (by omega : (n : Int) ≤ 2048)]; rfl
  rw [hB]
  by_cases c : 0 < (n : Int) ∧ (2048 < o ∨ 2048 - o < (n : Int))
  · rw [if_pos c]
    simp only [Option.bind_some]
    rw [if_pos (by omega), w1, decide_eq_true (by omega : o + (n : Int) > 2048)]
    simp only [truchmanlaw12_BlobBounds.j1, if_true]
    rw [if_neg (by decide), if_pos h0, if_pos hil, hn, hf2, if_neg (by decide), Fz, if_pos c]
    simp only [Option.bind_some, bne_self_eq_false]
    exact J2 _ _ _ _ hf1 (fun h => absurd h (by decide))
  · rw [if_neg c]
    simp only [Option.bind_some]
    have hx : ∀ p : (n : Int) > 0, ((wrote [] o.toNat (List.replicate n 0)).length : Int) = o + n := by
      intro p; rw [W1, if_neg (by omega)]; simp; omega
    have J1 : truchmanlaw12_BlobBounds.j1 (k + 1 + 1 + 1) x2 o ks i (wrote [] o.toNat (List.replicate n 0)) 0 y f false = truchmanlaw12_BlobBounds.l0 k x2 o ks (i + 1) := by
      simp only [truchmanlaw12_BlobBounds.j1, Bool.false_eq_true, if_false, if_true]
      rw [if_neg (by decide), if_pos h0, if_pos hil, hn, hf2, if_neg (by decide), Fz, if_neg c]
      simp only [Option.bind_some, bne_self_eq_false]
      exact J2 _ _ _ _ hf1 (fun _ p => hx p)
    by_cases p : (n : Int) > 0
    · rw [if_pos p, w1, decide_eq_false (by omega : ¬ (o + (n : Int) > 2048))]; exact J1
    · rw [if_neg p]; exact J1
theorem BlobBounds : truchmanlaw12_BlobBounds.Pure := by
  intro a0 a1 a2 h0 h1 h2
  obtain ⟨b0, c0⟩ := wf_i64 h0
  obtain ⟨b1, c1⟩ := wf_i64 h1
  obtain ⟨b2, c2⟩ := wf_i64 h2
  obtain ⟨o, ho, ho0, ho1⟩ := around_eq a0 31 b0 c0 (by omega)
  obtain ⟨n, hn, hn0, hn1⟩ := around_eq a1 31 b1 c1 (by omega)
  obtain ⟨s, hs, hs0, hs1⟩ := around_eq a2 31 b2 c2 (by omega)
  obtain ⟨K, hK⟩ : ∃ K : Nat, 4096 < K := ⟨4097, by omega⟩
  refine ⟨K + 1 + 1 + 1 + 1 + 1 + 1 + 1 + 1 + 1, ?_⟩
  unfold truchmanlaw12_BlobBounds.f
  rw [ho, hn]
  simp only [Option.bind_some]
  rw [w64 (n := 2030 + o) (by omega) (by omega), w64 (n := 2030 + n) (by omega) (by omega)]
  have p : ∀ j, 0 ≤ j → j < 2 → 0 ≤ rd [n, 2030 + n] j ∧ rd [n, 2030 + n] j ≤ 2060 := by
    intro j j0 j3
    rcases (show j = 0 ∨ j = 1 by omega) with rfl | rfl
    · exact ⟨hn0, by show n ≤ _; omega⟩
    · exact ⟨by show 0 ≤ 2030 + n; omega, by show 2030 + n ≤ _; omega⟩
  rw [bounds_round a2 (2030 + o) [n, 2030 + n] (K + 1 + 1 + 1 + 1 + 1) 0 (by omega) (by omega) (by omega) (by omega) rfl (p 0 (by omega) (by omega)) (by omega),
    bounds_round a2 (2030 + o) [n, 2030 + n] (K + 1) (0 + 1) (by omega) (by omega) (by omega) (by omega) rfl (p (0 + 1) (by omega) (by omega)) (by omega)]
  simp only [truchmanlaw12_BlobBounds.l0]
  rw [if_neg (by omega), hs]
  simp only [Option.bind_some]
  rw [w64 (n := 2030 + s) (by omega) (by omega)]
  unfold blob_Resize.f
  by_cases c : 2030 + s > 2048
  · rw [if_pos c]
    simp only [Option.bind_some]
    rw [decide_eq_false (by omega : ¬ 2030 + s ≤ 2048), if_pos (by decide), if_neg (by decide)]
    simp only [if_true, List.length_nil]
    rw [if_pos (by decide)]
    simp only [lives_eq, Option.bind_some]
  · rw [if_neg c]
    obtain ⟨m, hm⟩ : ∃ m : Nat, 2030 + s = (m : Int) := ⟨(2030 + s).toNat, by omega⟩
    rw [hm, grown_eq [] m K (by simp) (by omega) (by omega), Option.bind_some, if_pos (by omega), if_pos (by simp)]
    simp only [Option.bind_some]
    rw [decide_eq_true (by omega : (m : Int) ≤ 2048), if_pos (by decide)]
    simp only [if_true]
    rw [if_pos (by simp)]
    simp only [lives_eq, Option.bind_some]

end Go.Proofs.Ytaipnchallmioaa.Pure
