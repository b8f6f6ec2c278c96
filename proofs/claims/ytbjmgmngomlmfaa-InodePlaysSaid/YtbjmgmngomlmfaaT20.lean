import Derived.Test.YtbjmgmngomlmfaaT19
import Derived.Outline
import Derived.Shelf.Abstract
import Derived.Deep.LoopGhost
import Derived.Deep.Draws
import Derived.Laws.EntriesVeiled
import Derived.Laws.ResultCell
import Derived.Laws.Rows
import Derived.Deep.QuietTactic
import Derived.Deep.RegionWith
import Derived.BigQuiet
namespace Go.Proofs.Ytbjmgmngomlmfaa.R
open Go.RowKit Go.Proofs.YtbjmgmngomlmfaaW.PrintWords Go.Proofs.YtbjmgmngomlmfaaW.PrintLast Go.Proofs.YtbjmgmngomlmfaaW.PrintMore
attribute [local go_sem] max2_int min2_int max_two min_two max_three min_three max_four min_four   -- for this text's walks alone
set_option linter.unusedVariables false
set_option linter.unusedSimpArgs false
/-- What is there, by their numbers, from the j-th place on. -/
def eachR (l : List S53) (j : Nat) : Nat → List S53
  | 0 => []
  | d + 1 => l.filter (isIn ((j : Int) + 1)) ++ eachR l (j + 1) d
set_option maxRecDepth 20000 in
theorem each_both (M : Nat) (l : List S53) (hl : l.length ≤ 1000) (hM : M ≤ 64) : ∀ k : Nat,
    (∀ (x3 : List S53) (j d : Nat), j + d = M → d * (l.length + 2) < k → x3.length ≤ j * 1000 → truchmanref10_Each.l0 k x3 ((j : Int) + 1) M l = some (x3 ++ eachR l j d)) ∧
    (∀ (x3 : List S53) (j d i : Nat), j + d + 1 = M → i ≤ l.length → d * (l.length + 2) + (l.length - i) + 1 < k → x3.length ≤ j * 1000 + i → truchmanref10_Each.l1 k x3 ((j : Int) + 1) i M l = some (x3 ++ (l.drop i).filter (isIn ((j : Int) + 1)) ++ eachR l (j + 1) d))
  | 0 => ⟨fun _ _ _ _ h => absurd h (by omega), fun _ _ _ _ _ _ h => absurd h (by omega)⟩
  | k + 1 => by
    obtain ⟨ih0, ih1⟩ := each_both M l hl hM k
    constructor
    · intro x3 j d hj hk hx
      unfold truchmanref10_Each.l0
      cases d with
      | zero =>
        rw [if_neg (by omega)]
        simp [eachR]
      | succ d =>
        rw [if_pos (by omega)]
        have hsm : (d + 1) * (l.length + 2) = d * (l.length + 2) + (l.length + 2) := Nat.succ_mul _ _
        have := ih1 x3 j d 0 (by omega) (Nat.zero_le _) (by omega) (by omega)
        simp only [List.drop_zero] at this
        rw [show ((0 : Nat) : Int) = 0 from rfl] at this
        rw [this]
        simp [eachR]
    · intro x3 j d i hj hi hk hx
      unfold truchmanref10_Each.l1
      have hlt : x3.length < 4398046511104 := by omega
      by_cases h : i < l.length
      · have hw : wrap64 ((i : Int) + 1) = ((i + 1 : Nat) : Int) := by unfold wrap64; omega
        rw [if_pos (by omega), if_pos (by omega), rd_lt l i h, hw, List.drop_eq_getElem_cons h]
        cases h2 : l[i].f2 with
        | false =>
          rw [if_neg (by simp), ih1 x3 j d (i + 1) hj (by omega) (by omega) (by omega), List.filter_cons_of_neg (by unfold isIn; rw [h2]; simp)]
        | true =>
          rw [if_pos rfl]
          by_cases h3 : l[i].f0.f0 = (j : Int) + 1
          · rw [if_pos h3, if_pos hlt, ih1 _ j d (i + 1) hj (by omega) (by omega) (by rw [List.length_append]; show x3.length + 1 ≤ _; omega), List.filter_cons_of_pos (by unfold isIn; rw [h2, h3]; simp)]
            rw [← h2]
            simp [List.append_assoc]
          · rw [if_neg h3, ih1 x3 j d (i + 1) hj (by omega) (by omega) (by omega), List.filter_cons_of_neg (by unfold isIn; rw [h2]; simp [h3])]
      · have e : i = l.length := by omega
        subst e
        have hw : wrap64 ((j : Int) + 1 + 1) = ((j + 1 : Nat) : Int) + 1 := by unfold wrap64; omega
        rw [if_neg (by omega), hw, ih0 x3 (j + 1) d (by omega) (by omega) (by omega)]
        simp
theorem each_f (M : Nat) (l : List S53) (hl : l.length ≤ 1000) (hM : M ≤ 64) (k : Nat) (hk : M * (l.length + 2) < k) : truchmanref10_Each.f k M l = some (eachR l 0 M) := by
  have := (each_both M l hl hM k).1 [] 0 M (by omega) hk (by simp)
  simpa [truchmanref10_Each.f] using this
/-- The table's state and the ref's list tell the same. -/
structure Agree (st : List (Bool × Int × Int)) (l : List S53) : Prop where
  came : ∀ (j : Nat) (p : Bool × Int × Int), st[j]? = some p → (cameR l ((j : Int) + 1) : Int) = p.2.1
  there : ∀ (j : Nat) (p : Bool × Int × Int), st[j]? = some p → l.filter (isIn ((j : Int) + 1)) = if p.1 then [⟨⟨(j : Int) + 1, p.2.1⟩, p.2.2, true⟩] else []
  range : ∀ x ∈ l, 1 ≤ x.f0.f0 ∧ x.f0.f0 ≤ st.length
theorem agree_new (n : Nat) : Agree (List.replicate n (false, 0, 0)) [] := by
  refine ⟨fun j p h => ?_, fun j p h => ?_, fun x hx => by cases hx⟩
  · rw [List.getElem?_replicate] at h
    split at h
    · cases h; rfl
    · cases h
  · rw [List.getElem?_replicate] at h
    split at h
    · cases h; rfl
    · cases h
section
variable {st : List (Bool × Int × Int)} {l : List S53}
theorem findIdx_miss {α : Type} (P : α → Bool) (l : List α) (h : ∀ x ∈ l, P x = false) : l.findIdx P = l.length := by
  rw [List.findIdx_eq_length]
  intro x hx
  rw [h x hx]
theorem agree_find_none (h : Agree st l) (ino gen : Int) (ha : atN st ino gen = none) : findR l ino gen = -1 := by
  unfold findR
  rw [findIdx_miss, if_neg (Nat.lt_irrefl _)]
  intro x hx
  cases hq : isAt ino gen x with
  | false => rfl
  | true =>
    exfalso
    unfold isAt at hq
    simp only [Bool.and_eq_true, beq_iff_eq] at hq
    obtain ⟨h2, hi, hg⟩ := hq
    have hr := h.range x hx
    obtain ⟨j, hj⟩ : ∃ j : Nat, ino = (j : Int) + 1 := ⟨(ino - 1).toNat, by omega⟩
    have hjl : j < st.length := by omega
    have hm : x ∈ l.filter (isIn ((j : Int) + 1)) := List.mem_filter.2 ⟨hx, by unfold isIn; rw [h2, hi, hj]; simp⟩
    rw [h.there j _ (List.getElem?_eq_getElem hjl)] at hm
    split at hm
    · rename_i ht
      rw [List.mem_singleton] at hm
      rw [hj, atN_in _ _ _ hjl, if_pos ⟨ht, by rw [← hg, hm]⟩] at ha
      cases ha
    · cases hm
/-- Where it is found, the list parts into what stands before it and behind it. -/
theorem agree_find_some (h : Agree st l) (ino gen : Int) (j : Nat) (ha : atN st ino gen = some j) : ∃ (hj : j < st.length) (A B : List S53), ino = (j : Int) + 1 ∧ st[j].1 = true ∧ st[j].2.1 = gen ∧ l = A ++ ⟨⟨ino, gen⟩, st[j].2.2, true⟩ :: B ∧ findR l ino gen = A.length ∧ A.filter (isIn ino) = [] ∧ B.filter (isIn ino) = [] := by
  obtain ⟨hj, hi, ht, hg⟩ := atN_some ha
  refine ⟨hj, ?_⟩
  have hf := h.there j _ (List.getElem?_eq_getElem hj)
  rw [if_pos ht, hg, ← hi] at hf
  have hm : (⟨⟨ino, gen⟩, st[j].2.2, true⟩ : S53) ∈ l := (List.mem_filter.1 (show _ ∈ l.filter (isIn ino) by rw [hf]; exact List.mem_singleton.2 rfl)).1
  obtain ⟨A, B, e⟩ := List.append_of_mem hm
  have hp : isIn ino (⟨⟨ino, gen⟩, st[j].2.2, true⟩ : S53) = true := by unfold isIn; simp
  rw [e, List.filter_append, List.filter_cons_of_pos hp] at hf
  have hlen := congrArg List.length hf
  simp only [List.length_append, List.length_cons, List.length_nil] at hlen
  have hA : A.filter (isIn ino) = [] := List.eq_nil_of_length_eq_zero (by omega)
  have hB : B.filter (isIn ino) = [] := List.eq_nil_of_length_eq_zero (by omega)
  refine ⟨A, B, hi, ht, hg, e, ?_, hA, hB⟩
  have hidx : l.findIdx (isAt ino gen) = A.length := by
    rw [List.findIdx_eq (by rw [e]; simp)]
    constructor
    · simp only [e]
      rw [List.getElem_append_right (Nat.le_refl _)]
      simp [isAt]
    · intro q hq
      simp only [e]
      rw [List.getElem_append_left hq]
      cases hx : isAt ino gen A[q] with
      | false => rfl
      | true =>
        exfalso
        have : A[q] ∈ A.filter (isIn ino) := List.mem_filter.2 ⟨List.getElem_mem hq, by
          unfold isAt at hx
          simp only [Bool.and_eq_true, beq_iff_eq] at hx
          unfold isIn
          rw [hx.1, hx.2.1]; simp⟩
        rw [hA] at this
        cases this
  unfold findR
  rw [hidx, if_pos (by rw [e]; simp)]
end

end Go.Proofs.Ytbjmgmngomlmfaa.R
