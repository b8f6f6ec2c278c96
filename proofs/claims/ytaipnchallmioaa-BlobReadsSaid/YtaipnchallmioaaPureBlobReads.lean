/- For every b, off and n: blob.Read tells what the document's Read tells, and whether there is more (truchmanlaw12.BlobReads returns true): no condition. -/
import Derived.Test.YtaipnchallmioaaBx4
import Derived.Test.YtaipnchallmioaaBx3
import Derived.Test.YtaipnchallmioaaBx3
import Derived.Test.YtaipnchallmioaaBx3
import Derived.Test.YtaipnchallmioaaBx3
import Derived.Test.YtaipnchallmioaaPlain
import Derived.Test.YtaipnchallmioaaBx3
namespace Go.Proofs.Ytaipnchallmioaa.Pure
open Go.RowKit Go.Proofs.Ytaipnchallmioaa.B Go.Proofs.YtaipnchallmioaaW.PrintWords Go.Proofs.YtaipnchallmioaaW.PrintLast Go.Proofs.YtaipnchallmioaaW.PrintMore

theorem str_append (xs ys : List Int) : strOfNums xs ++ strOfNums ys = strOfNums (xs ++ ys) := by
  apply ByteArray.ext
  simp [strOfNums]
theorem str_extract (xs : List Int) (i : Nat) (hi : i < xs.length) : (strOfNums xs).extract i (i + 1) = strOfNums [xs.getD i 0] := by
  apply ByteArray.ext
  rw [ByteArray.data_extract]
  unfold strOfNums
  apply Array.ext'
  rw [Array.toList_extract]
  simp only [List.extract_eq_take_drop, Nat.add_sub_cancel_left, List.map_cons, List.map_nil]
  rw [List.drop_eq_getElem_cons (by simpa using hi)]
  simp [List.getD_eq_getElem?_getD, List.getElem?_eq_getElem hi]
theorem read_loop (xs : List Int) (hx : xs.length ≤ 40) (n : Int) (hn : n ≤ 9223372036854775807) (d : Nat) : ∀ (k i : Nat) (acc : List Int), i ≤ xs.length → xs.length - i = d → d < k → acc.length ≤ i + 40 →
    truchmanref12_Read.l0 k (strOfNums xs) n (strOfNums acc) (i : Int) = some (strOfNums (acc ++ (xs.drop i).take (n - acc.length).toNat), decide (xs.length ≤ i + (n - acc.length).toNat)) := by
  induction d with
  | zero =>
    intro k i acc hi hd hk ha
    obtain ⟨k, rfl⟩ : ∃ q, k = q + 1 := ⟨k - 1, by omega⟩
    simp only [truchmanref12_Read.l0, str_size]
    rw [if_neg (by omega), List.drop_eq_nil_of_le (by omega : xs.length ≤ i), List.take_nil, List.append_nil]
    congr 2
    rw [decide_eq_decide]; omega
  | succ d ih =>
    intro k i acc hi hd hk ha
    obtain ⟨k, rfl⟩ : ∃ q, k = q + 1 := ⟨k - 1, by omega⟩
    have hil : i < xs.length := by omega
    simp only [truchmanref12_Read.l0, str_size]
    rw [if_pos (by omega)]
    by_cases c : (acc.length : Int) < n
    · have e1 : wrap64 ((i : Int) + 1) = ((i + 1 : Nat) : Int) := by rw [w64 (by omega) (by omega)]; omega
      rw [if_pos c, if_pos (by omega), e1, if_pos (by omega), if_pos (by omega), Int.toNat_natCast, Int.toNat_natCast, str_extract xs i hil, str_size]
      rw [if_pos (by rw [List.length_singleton]; omega), str_append, ih k (i + 1) _ (by omega) (by omega) (by omega) (by rw [List.length_append, List.length_singleton]; omega)]
      rw [List.length_append, List.length_singleton]
      obtain ⟨m, hm⟩ : ∃ m, (n - (acc.length : Int)).toNat = m + 1 := ⟨(n - (acc.length : Int)).toNat - 1, by omega⟩
      have hm2 : (n - ((acc.length + 1 : Nat) : Int)).toNat = m := by omega
      rw [hm, hm2, List.drop_eq_getElem_cons hil, List.take_succ_cons, List.append_assoc]
      congr 2
      · congr 2
        rw [List.getD_eq_getElem?_getD, List.getElem?_eq_getElem hil]; rfl
      · rw [decide_eq_decide]; omega
    · rw [if_neg c]
      have hm : (n - (acc.length : Int)).toNat = 0 := by omega
      rw [hm, List.take_zero, List.append_nil]
      congr 2
      rw [decide_eq_decide]; omega
theorem read_same (xs : List Int) (hx : xs.length ≤ 40) (off n : Int) (h0 : 0 ≤ off) (h1 : off ≤ 9223372036854775807) (h2 : 0 ≤ n) (h3 : n ≤ 9223372036854775807) (k : Nat) (hk : 100 < k) :
    ∃ r1 r2, blob_Read.f xs off n = some (r1, r2) ∧ truchmanref12_Read.f k (strOfNums xs) off n = some (strOfNums r1, r2) := by
  unfold blob_Read.f truchmanref12_Read.f
  rw [if_pos ⟨h0, h2, by omega⟩]
  refine ⟨_, _, rfl, ?_⟩
  have e0 : (⟨#[]⟩ : ByteArray) = strOfNums [] := rfl
  rw [e0]
  by_cases c : off ≤ (xs.length : Int)
  · obtain ⟨o, rfl⟩ : ∃ o : Nat, off = (o : Int) := ⟨off.toNat, by omega⟩
    rw [read_loop xs hx n h3 (xs.length - o) k o [] (by omega) rfl (by omega) (by simp)]
    simp only [List.nil_append, List.length_nil, Int.toNat_natCast]
    congr 2
    · congr 2; omega
    · rw [decide_eq_decide]; omega
  · obtain ⟨k, rfl⟩ : ∃ q, k = q + 1 := ⟨k - 1, by omega⟩
    simp only [truchmanref12_Read.l0, str_size]
    rw [if_neg (by omega), List.drop_eq_nil_of_le (by omega : xs.length ≤ off.toNat), List.take_nil]
    congr 2
    rw [decide_eq_decide]; omega
theorem reads_inner (x7 x8 x9 : List Int) (k : Nat) (i j : Int) (hx : x7.length ≤ 40) (hi0 : 0 ≤ i) (hi : i < 2) (h8 : x8.length = 2) (hj0 : 0 ≤ j) (hj : j < 2) (h9 : x9.length = 2)
    (p8 : ∀ j, 0 ≤ j → j < 2 → 0 ≤ rd x8 j ∧ rd x8 j ≤ 9223372036854775807) (p9 : ∀ j, 0 ≤ j → j < 2 → 0 ≤ rd x9 j ∧ rd x9 j ≤ 9223372036854775807) (hk : 100 < k) :
    truchmanlaw12_BlobReads.l1 (k + 1) x7 x8 x9 i j = truchmanlaw12_BlobReads.l1 k x7 x8 x9 i (j + 1) := by
  obtain ⟨r1, r2, e1, e2⟩ := read_same x7 hx (rd x8 i) (rd x9 j) (p8 i hi0 hi).1 (p8 i hi0 hi).2 (p9 j hj0 hj).1 (p9 j hj0 hj).2 k hk
  simp only [truchmanlaw12_BlobReads.l1]
  rw [if_pos hj, if_pos hi0, if_pos (by omega), if_pos hj0, if_pos (by omega), e1, e2, w64 (by omega) (by omega)]
  simp only [Option.bind_some, if_true, bne_self_eq_false, Bool.false_eq_true, if_false]
theorem reads_outer (x7 x8 x9 : List Int) (k : Nat) (i : Int) (hx : x7.length ≤ 40) (hi0 : 0 ≤ i) (hi : i < 2) (h8 : x8.length = 2) (h9 : x9.length = 2)
    (p8 : ∀ j, 0 ≤ j → j < 2 → 0 ≤ rd x8 j ∧ rd x8 j ≤ 9223372036854775807) (p9 : ∀ j, 0 ≤ j → j < 2 → 0 ≤ rd x9 j ∧ rd x9 j ≤ 9223372036854775807) (hk : 100 < k) :
    truchmanlaw12_BlobReads.l0 (k + 1 + 1 + 1 + 1) x7 x8 x9 i = truchmanlaw12_BlobReads.l0 k x7 x8 x9 (i + 1) := by
  have e : truchmanlaw12_BlobReads.l0 (k + 1 + 1 + 1 + 1) x7 x8 x9 i = truchmanlaw12_BlobReads.l1 (k + 1 + 1 + 1) x7 x8 x9 i 0 := by
    simp only [truchmanlaw12_BlobReads.l0]; rw [if_pos hi]
  rw [e, reads_inner x7 x8 x9 (k + 1 + 1) i 0 hx hi0 hi h8 (by omega) (by omega) h9 p8 p9 (by omega), reads_inner x7 x8 x9 (k + 1) i (0 + 1) hx hi0 hi h8 (by omega) (by omega) h9 p8 p9 (by omega)]
  simp only [truchmanlaw12_BlobReads.l1]
  rw [if_neg (by omega), w64 (by omega) (by omega)]
theorem BlobReads : truchmanlaw12_BlobReads.Pure := by
  intro l0 a1 a2 _ h0 u0 h1 h2
  obtain ⟨b1, c1⟩ := wf_i64 h1
  obtain ⟨b2, c2⟩ := wf_i64 h2
  obtain ⟨f, hf, hf1, hf2⟩ := from_eq a1 b1 c1
  obtain ⟨r, hr, hr1, hr2⟩ := around_eq a1 45 b1 c1 (by omega)
  obtain ⟨g, hg, hg1, hg2⟩ := from_eq a2 b2 c2
  obtain ⟨s, hs, hs1, hs2⟩ := around_eq a2 45 b2 c2 (by omega)
  obtain ⟨K, hK⟩ : ∃ K : Nat, 100 < K := ⟨101, by omega⟩
  refine ⟨K + 1 + 1 + 1 + 1 + 1 + 1 + 1 + 1 + 1, ?_⟩
  unfold truchmanlaw12_BlobReads.f
  rw [show (40 : Int) = ((40 : Nat) : Int) from rfl, few_eq l0 40 (by omega), hf, hr, hg, hs]
  simp only [Option.bind_some]
  have p : ∀ x y : Int, 0 ≤ x → x ≤ 9223372036854775807 → 0 ≤ y → y < 45 → ∀ j, 0 ≤ j → j < 2 → 0 ≤ rd [x, y] j ∧ rd [x, y] j ≤ 9223372036854775807 := by
    intro x y x0 x1 y0 y1 j j0 j3
    rcases (show j = 0 ∨ j = 1 by omega) with rfl | rfl
    · exact ⟨x0, x1⟩
    · exact ⟨y0, by show y ≤ _; omega⟩
  have hl : (l0.take 40).length ≤ 40 := by rw [List.length_take]; omega
  rw [reads_outer (l0.take 40) [f, r] [g, s] (K + 1 + 1 + 1 + 1 + 1) 0 hl (by omega) (by omega) rfl rfl (p f r hf1 hf2 hr1 hr2) (p g s hg1 hg2 hs1 hs2) (by omega),
    reads_outer (l0.take 40) [f, r] [g, s] (K + 1) (0 + 1) hl (by omega) (by omega) rfl rfl (p f r hf1 hf2 hr1 hr2) (p g s hg1 hg2 hs1 hs2) (by omega)]
  simp only [truchmanlaw12_BlobReads.l0]
  rw [if_neg (by omega)]
  simp only [Option.bind_some, lives_eq]

end Go.Proofs.Ytaipnchallmioaa.Pure
