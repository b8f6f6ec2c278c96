/- Plain laws of the printed functions of layer 12: no walk here. -/
import Derived.Test.YtaipnchallmioaaBx1
namespace Go.Proofs.Ytaipnchallmioaa.Pure
open Go.RowKit Go.Proofs.Ytaipnchallmioaa.B Go.Proofs.YtaipnchallmioaaW.PrintWords Go.Proofs.YtaipnchallmioaaW.PrintLast Go.Proofs.YtaipnchallmioaaW.PrintMore

theorem wf_i64 {n : Int} (h : (Lit.int .i64 n).wf = true) : -9223372036854775808 ≤ n ∧ n ≤ 9223372036854775807 := by
  have h1 : IntKind.i64.min = -9223372036854775808 := rfl
  have h2 : IntKind.i64.max = 9223372036854775807 := rfl
  simp only [Lit.wf, Bool.and_eq_true, decide_eq_true_eq, h1, h2] at h
  exact h
theorem wf_u8 {n : Int} (h : (Lit.int .u8 n).wf = true) : 0 ≤ n ∧ n ≤ 255 := by
  have h1 : IntKind.u8.min = 0 := rfl
  have h2 : IntKind.u8.max = 255 := rfl
  simp only [Lit.wf, Bool.and_eq_true, decide_eq_true_eq, h1, h2] at h
  exact h
theorem w64 {n : Int} (h1 : -9223372036854775808 ≤ n) (h2 : n ≤ 9223372036854775807) : wrap64 n = n := by unfold wrap64; omega

theorem few_eq (l : List Int) (n : Nat) (hl : l.length ≤ 140737488351232) : truchmanref01_Few.f l (n : Int) = some (l.take n) := by
  unfold truchmanref01_Few.f mn
  by_cases h : (n : Int) < (l.length : Int)
  · simp only [if_pos h]
    rw [if_pos (by omega), if_pos (by omega), if_pos (by rw [List.length_nil, List.length_take]; omega), Int.toNat_natCast, List.nil_append]
  · simp only [if_neg h]
    rw [if_pos (by omega), if_pos (by omega), if_pos (by rw [List.length_nil, List.length_take]; omega), Int.toNat_natCast, List.nil_append, List.take_of_length_le (Nat.le_refl _), List.take_of_length_le (by omega)]
theorem from_eq (a : Int) (h1 : -9223372036854775808 ≤ a) (h2 : a ≤ 9223372036854775807) : ∃ r, truchmanlaw12_from.f a = some r ∧ 0 ≤ r ∧ r ≤ 9223372036854775807 := by
  unfold truchmanlaw12_from.f
  by_cases h : a < 0
  · rw [if_pos h, w64 (n := a + 1) (by omega) (by omega), w64 (by omega) (by omega)]
    exact ⟨_, rfl, by omega, by omega⟩
  · rw [if_neg h]; exact ⟨_, rfl, by omega, by omega⟩
theorem around_eq (a m : Int) (h1 : -9223372036854775808 ≤ a) (h2 : a ≤ 9223372036854775807) (hm : 0 < m) : ∃ r, truchmanref01_Around.f a m = some r ∧ 0 ≤ r ∧ r < m := by
  have key : ∀ x : Int, 0 ≤ x → 0 ≤ Int.tmod x m ∧ Int.tmod x m < m := fun x hx => ⟨Int.tmod_nonneg _ hx, Int.tmod_lt_of_pos _ hm⟩
  unfold truchmanref01_Around.f
  by_cases h : a < 0
  · rw [if_pos h, if_neg (by omega), w64 (n := a + 1) (by omega) (by omega), w64 (by omega) (by omega)]
    exact ⟨_, rfl, key _ (by omega)⟩
  · rw [if_neg h, if_neg (by omega)]; exact ⟨_, rfl, key _ (by omega)⟩
theorem lives_eq : truchmanlaw12_lives.f = some true := rfl

theorem bytes_back (xs : List Int) (h : ∀ x ∈ xs, 0 ≤ x ∧ x ≤ 255) : bytesOf (strOfNums xs) = xs := by
  unfold bytesOf strOfNums
  simp only [List.map_map]
  have : ∀ x ∈ xs, ((fun b : UInt8 => (b.toNat : Int)) ∘ fun n : Int => UInt8.ofNat n.toNat) x = x := by
    intro x hx
    have := h x hx
    simp only [Function.comp_apply, UInt8.toNat_ofNat']
    omega
  rw [List.map_congr_left this, List.map_id']
theorem str_size (xs : List Int) : (strOfNums xs).size = xs.length := by simp [strOfNums, ByteArray.size]

/-! great, TooBig -/
theorem great_eq (off n : Int) (h0 : 0 ≤ off) (h1 : off ≤ 9223372036854775807) (h2 : 0 ≤ n) : blob_great.f off n = some (decide (0 < n ∧ (2048 < off ∨ 2048 - off < n))) := by
  unfold blob_great.f
  by_cases a : n > 0
  · rw [if_pos a]
    by_cases b : off > 2048
    · rw [if_pos b]; congr 1; symm; rw [decide_eq_true_eq]; omega
    · rw [if_neg b, w64 (by omega) (by omega)]; congr 1; rw [decide_eq_decide]; omega
  · rw [if_neg a]; congr 1; symm; rw [decide_eq_false_iff_not]; omega
theorem toobig_eq (off n : Int) (h0 : 0 ≤ off) (h1 : off ≤ 9223372036854775807) (h2 : 0 ≤ n) (h3 : n ≤ 9223372036854775807) : truchmanref12_TooBig.f off n = some (decide (0 < n ∧ (2048 < off ∨ 2048 - off < n))) := by
  unfold truchmanref12_TooBig.f
  by_cases a : n = 0
  · rw [if_pos a]; congr 1; symm; rw [decide_eq_false_iff_not]; omega
  · rw [if_neg a]
    by_cases b : off > 2047
    · rw [if_pos b]; congr 1; symm; rw [decide_eq_true_eq]; omega
    · rw [if_neg b]
      by_cases c : n > 2048
      · rw [if_pos c]; congr 1; symm; rw [decide_eq_true_eq]; omega
      · rw [if_neg c, w64 (by omega) (by omega)]; congr 1; rw [decide_eq_decide]; omega

/-! grown, Write -/
theorem grown_loop (m : Int) (hm : m ≤ 140737488355328) (d : Nat) : ∀ (k : Nat) (l : List Int) (i : Int), 0 ≤ i → i ≤ m → m - i = d → d < k → l.length + d < 140737488355328 → blob_grown.l0 k l m i = some (l ++ List.replicate d 0) := by
  induction d with
  | zero =>
    intro k l i h0 h1 hd hk hl
    obtain ⟨k, rfl⟩ : ∃ q, k = q + 1 := ⟨k - 1, by omega⟩
    simp only [blob_grown.l0]; rw [if_neg (by omega)]; simp
  | succ d ih =>
    intro k l i h0 h1 hd hk hl
    obtain ⟨k, rfl⟩ : ∃ q, k = q + 1 := ⟨k - 1, by omega⟩
    simp only [blob_grown.l0]
    rw [if_pos (by omega), if_pos (by omega), w64 (by omega) (by omega), ih k (l ++ [0]) (i + 1) (by omega) (by omega) (by omega) (by omega) (by rw [List.length_append, List.length_singleton]; omega)]
    rw [List.append_assoc]; rfl
theorem grown_eq (l : List Int) (n : Nat) (k : Nat) (hl : l.length ≤ 1048576) (hn : n ≤ 1048576) (hk : n < k) : blob_grown.f k l (n : Int) = some (l ++ List.replicate (n - l.length) 0) := by
  unfold blob_grown.f bytes_Clone.f
  rw [if_pos (by omega), Option.bind_some, w64 (by omega) (by omega)]
  have hmx : mx ((n : Int) - (l.length : Int)) 0 = ((n - l.length : Nat) : Int) := by unfold mx; split <;> omega
  rw [hmx]
  exact grown_loop _ (by omega) (n - l.length) k l 0 (by omega) (by omega) (by omega) (by omega) (by omega)
theorem wrote_splice (l d : List Int) (off : Nat) (hd : 0 < d.length) : splice (l ++ List.replicate (off + d.length - l.length) 0) off d = wrote l off d := by
  apply List.ext_getElem?
  intro k
  have hne : d ≠ [] := by intro h; rw [h] at hd; simp at hd
  have hwl : (wrote l off d).length = max l.length (off + d.length) := by rw [wrote_length]; exact if_neg (by omega)
  rw [wrote_get, hwl]
  have hg : ∀ q, l.length ≤ q → l.getD q 0 = 0 := fun q hq => by rw [List.getD_eq_getElem?_getD, List.getElem?_eq_none hq]; rfl
  have hgl : ∀ q, q < l.length → l[q]? = some (l.getD q 0) := fun q hq => by rw [List.getD_eq_getElem?_getD, List.getElem?_eq_getElem hq]; rfl
  have hgd : ∀ q, q < d.length → d[q]? = some (d.getD q 0) := fun q hq => by rw [List.getD_eq_getElem?_getD, List.getElem?_eq_getElem hq]; rfl
  have hL : ∀ q, q < max l.length (off + d.length) → (l ++ List.replicate (off + d.length - l.length) 0)[q]? = some (l.getD q 0) := by
    intro q hq
    rw [List.getElem?_append]
    by_cases c : q < l.length
    · rw [if_pos c, hgl q c]
    · have c2 : q - l.length < off + d.length - l.length := by omega
      rw [if_neg c, List.getElem?_replicate, if_pos c2, hg q (by omega)]
  have hlen : (l ++ List.replicate (off + d.length - l.length) (0 : Int)).length = max l.length (off + d.length) := by rw [List.length_append, List.length_replicate]; omega
  generalize l ++ List.replicate (off + d.length - l.length) (0 : Int) = X at *
  unfold splice
  rw [List.getElem?_append, List.length_take, hlen]
  have hmin : min off (max l.length (off + d.length)) = off := by omega
  rw [hmin]
  by_cases c1 : k < off
  · have c2 : k < max l.length (off + d.length) := by omega
    have c3 : ¬ (off ≤ k ∧ k < off + d.length) := by omega
    rw [if_pos c1, if_pos c2, if_neg c3, List.getElem?_take, if_pos c1, hL k c2]
  · rw [if_neg c1, List.getElem?_append]
    by_cases c4 : k - off < d.length
    · have c2 : k < max l.length (off + d.length) := by omega
      have c3 : off ≤ k ∧ k < off + d.length := by omega
      rw [if_pos c4, if_pos c2, if_pos c3, hgd _ c4]
    · rw [if_neg c4, List.getElem?_drop, show off + d.length + (k - off - d.length) = k from by omega]
      by_cases c2 : k < max l.length (off + d.length)
      · have c3 : ¬ (off ≤ k ∧ k < off + d.length) := by omega
        rw [if_pos c2, if_neg c3, hL k c2]
      · rw [if_neg c2, List.getElem?_eq_none (by omega)]
theorem write_eq (l d : List Int) (off : Int) (k : Nat) (hl : l.length ≤ 1048576) (h0 : 0 ≤ off) (h1 : off ≤ 9223372036854775807) (hd : d.length ≤ 1048576) (hk : 4096 < k) :
    blob_Write.f k l off d = if 0 < (d.length : Int) ∧ (2048 < off ∨ 2048 - off < (d.length : Int)) then some ([], 15) else some (wrote l off.toNat d, 0) := by
  unfold blob_Write.f
  rw [great_eq off (d.length : Int) h0 h1 (by omega), Option.bind_some]
  by_cases c : 0 < (d.length : Int) ∧ (2048 < off ∨ 2048 - off < (d.length : Int))
  · rw [if_pos c, if_pos (decide_eq_true c)]
  · rw [if_neg c, if_neg (by rw [decide_eq_true_eq]; exact c)]
    by_cases z : (d.length : Int) = 0
    · rw [if_pos z]
      unfold bytes_Clone.f wrote
      rw [if_pos (by omega), if_pos (List.eq_nil_of_length_eq_zero (by omega))]; rfl
    · rw [if_neg z, w64 (by omega) (by omega)]
      obtain ⟨o, rfl⟩ : ∃ o : Nat, off = (o : Int) := ⟨off.toNat, by omega⟩
      rw [show (o : Int) + (d.length : Int) = ((o + d.length : Nat) : Int) from by omega, grown_eq l (o + d.length) k hl (by omega) (by omega), Option.bind_some, if_pos h0, Int.toNat_natCast]
      rw [if_pos (by rw [List.length_append, List.length_replicate]; omega), wrote_splice l d o (by omega)]
theorem write_le (l d : List Int) (off : Nat) (k : Nat) (hl : l.length ≤ 1048576) (hd : off + d.length ≤ 2048) (hk : 4096 < k) : blob_Write.f k l (off : Int) d = some (wrote l off d, 0) := by
  rw [write_eq l d off k hl (by omega) (by omega) (by omega) hk, if_neg (by omega), Int.toNat_natCast]
theorem take_u8 {l : List Int} (h : ∀ x ∈ l, (Lit.int .u8 x).wf = true) (n : Nat) : ∀ x ∈ l.take n, 0 ≤ x ∧ x ≤ 255 := fun x hx => wf_u8 (h x (List.mem_of_mem_take hx))
theorem refwrite_eq (l d : List Int) (off : Int) (hl : l.length ≤ 1048576) (h0 : 0 ≤ off) (h1 : off ≤ 9223372036854775807) (hd : d.length ≤ 1048576) (ul : ∀ x ∈ l, 0 ≤ x ∧ x ≤ 255) (ud : ∀ x ∈ d, 0 ≤ x ∧ x ≤ 255) :
    truchmanref12_Write.f (strOfNums l) off (strOfNums d) = if 0 < (d.length : Int) ∧ (2048 < off ∨ 2048 - off < (d.length : Int)) then some (⟨#[]⟩, 15) else some (strOfNums (wrote l off.toNat d), 0) := by
  unfold truchmanref12_Write.f
  rw [str_size, str_size, toobig_eq off (d.length : Int) h0 h1 (by omega) (by omega), Option.bind_some, bytes_back l ul, bytes_back d ud]
  by_cases c : 0 < (d.length : Int) ∧ (2048 < off ∨ 2048 - off < (d.length : Int))
  · rw [if_pos c, if_pos (decide_eq_true c)]
  · rw [if_neg c, if_neg (by rw [decide_eq_true_eq]; exact c), if_pos ⟨h0, fun hp => by omega, hl⟩]
end Go.Proofs.Ytaipnchallmioaa.Pure
