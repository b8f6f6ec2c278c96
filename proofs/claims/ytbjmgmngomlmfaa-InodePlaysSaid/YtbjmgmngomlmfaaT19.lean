import Derived.Test.YtbjmgmngomlmfaaT18
import Derived.Outline
import Derived.Shelf.Abstract
import Derived.Deep.LoopGhost
import Derived.Deep.Draws
import Derived.Laws.EntriesVeiled
import Derived.Laws.ResultCell
import Derived.Laws.Rows
import Derived.Deep.QuietTactic
import Derived.Deep.RegionWith
import Derived.BigQuiet
namespace Go.Proofs.Ytbjmgmngomlmfaa.R
open Go.RowKit Go.Proofs.YtbjmgmngomlmfaaW.PrintWords Go.Proofs.YtbjmgmngomlmfaaW.PrintLast Go.Proofs.YtbjmgmngomlmfaaW.PrintMore
attribute [local go_sem] max2_int min2_int max_two min_two max_three min_three max_four min_four   -- for this text's walks alone
set_option linter.unusedVariables false
set_option linter.unusedSimpArgs false
/-! What the ref's functions answer, in plain words. -/
theorem rd_lt (l : List S53) (i : Nat) (h : i < l.length) : rd_T53 l (i : Int) = l[i] := by
  unfold rd_T53
  rw [Int.toNat_natCast]
  simp [h]
def isAt (ino gen : Int) (x : S53) : Bool := x.f2 && (x.f0.f0 == ino && x.f0.f1 == gen)
def isIn (ino : Int) (x : S53) : Bool := x.f2 && decide (x.f0.f0 = ino)
def findR (l : List S53) (ino gen : Int) : Int := if l.findIdx (isAt ino gen) < l.length then (l.findIdx (isAt ino gen) : Int) else -1
theorem find_l0 (most ino gen : Int) (l : List S53) (hl : l.length ≤ 1000) : ∀ (k i : Nat), i ≤ l.length → l.length - i < k → (∀ j (hj : j < l.length), j < i → isAt ino gen l[j] = false) → truchmanref10_Find.l0 k i most l ino gen = some (findR l ino gen)
  | 0, i, _, h, _ => absurd h (by omega)
  | k + 1, i, hi, hk, ha => by
    unfold truchmanref10_Find.l0
    by_cases h : i < l.length
    · have hw : wrap64 ((i : Int) + 1) = ((i + 1 : Nat) : Int) := by unfold wrap64; omega
      rw [if_pos (by omega), if_pos (by omega), rd_lt l i h, hw]
      have ih := fun (hq : isAt ino gen l[i] = false) => find_l0 most ino gen l hl k (i + 1) (by omega) (by omega) (fun j hj hji => by
        by_cases e : j = i
        · subst e; exact hq
        · exact ha j hj (by omega))
      have hit : isAt ino gen l[i] = true → some (i : Int) = some (findR l ino gen) := fun hq => by
        have : l.findIdx (isAt ino gen) = i := by rw [List.findIdx_eq h]; exact ⟨hq, fun j hj => ha j (by omega) hj⟩
        unfold findR
        rw [this, if_pos h]
      cases h2 : l[i].f2 with
      | false =>
        rw [if_neg (by simp)]
        exact ih (by unfold isAt; rw [h2]; rfl)
      | true =>
        rw [if_pos rfl]
        by_cases h3 : (l[i].f0.f0 == ino && l[i].f0.f1 == gen) = true
        · rw [if_pos h3]
          exact hit (by unfold isAt; rw [h2, h3]; rfl)
        · rw [if_neg h3]
          exact ih (by unfold isAt; rw [h2]; simpa using h3)
    · have e : i = l.length := by omega
      rw [if_neg (by omega)]
      have : l.findIdx (isAt ino gen) = l.length := by
        rw [List.findIdx_eq_length]
        intro x hx
        obtain ⟨j, hj, rfl⟩ := List.mem_iff_getElem.1 hx
        rw [ha j hj (by omega)]
      unfold findR
      rw [this, if_neg (Nat.lt_irrefl _)]
theorem find_f (most ino gen : Int) (l : List S53) (hl : l.length ≤ 1000) (k : Nat) (hk : l.length < k) : truchmanref10_Find.f k most l ino gen = some (findR l ino gen) := find_l0 most ino gen l hl k 0 (Nat.zero_le _) (by omega) (fun j _ h => absurd h (Nat.not_lt_zero _))
theorem taken_l0 (most ino : Int) (l : List S53) (hl : l.length ≤ 1000) : ∀ (k i : Nat), i ≤ l.length → l.length - i < k → (∀ j (hj : j < l.length), j < i → isIn ino l[j] = false) → truchmanref10_taken.l0 k ino i most l = some (l.any (isIn ino))
  | 0, i, _, h, _ => absurd h (by omega)
  | k + 1, i, hi, hk, ha => by
    unfold truchmanref10_taken.l0
    by_cases h : i < l.length
    · have hw : wrap64 ((i : Int) + 1) = ((i + 1 : Nat) : Int) := by unfold wrap64; omega
      rw [if_pos (by omega), if_pos (by omega), rd_lt l i h, hw]
      have ih := fun (hq : isIn ino l[i] = false) => taken_l0 most ino l hl k (i + 1) (by omega) (by omega) (fun j hj hji => by
        by_cases e : j = i
        · subst e; exact hq
        · exact ha j hj (by omega))
      cases h2 : l[i].f2 with
      | false =>
        rw [if_neg (by simp)]
        exact ih (by unfold isIn; rw [h2]; rfl)
      | true =>
        rw [if_pos rfl]
        by_cases h3 : l[i].f0.f0 = ino
        · rw [if_pos h3]
          have : l.any (isIn ino) = true := List.any_eq_true.2 ⟨l[i], List.getElem_mem h, by unfold isIn; rw [h2, h3]; simp⟩
          rw [this]
        · rw [if_neg h3]
          exact ih (by unfold isIn; rw [h2]; simp [h3])
    · rw [if_neg (by omega)]
      have : l.any (isIn ino) = false := by
        rw [List.any_eq_false]
        intro x hx
        obtain ⟨j, hj, rfl⟩ := List.mem_iff_getElem.1 hx
        rw [ha j hj (by omega)]
        simp
      rw [this]
theorem taken_f (most ino : Int) (l : List S53) (hl : l.length ≤ 1000) (k : Nat) (hk : l.length < k) : truchmanref10_taken.f k most l ino = some (l.any (isIn ino)) := taken_l0 most ino l hl k 0 (Nat.zero_le _) (by omega) (fun j _ h => absurd h (Nat.not_lt_zero _))
/-- How many ever came into a place. -/
def cameR (l : List S53) (ino : Int) : Nat := l.countP fun x => decide (x.f0.f0 = ino)
theorem add_l1 (most ino x : Int) (l : List S53) (hl : l.length ≤ 1000) : ∀ (k i g : Nat), i ≤ l.length → l.length - i < k → g ≤ 1 + i → truchmanref10_Add.l1 k x ino g i most l = some (most, l ++ [⟨⟨ino, ((g + cameR (l.drop i) ino : Nat) : Int)⟩, x, true⟩], ino, ((g + cameR (l.drop i) ino : Nat) : Int), 0)
  | 0, i, _, _, h, _ => absurd h (by omega)
  | k + 1, i, g, hi, hk, hg => by
    unfold truchmanref10_Add.l1
    by_cases h : i < l.length
    · have hw : wrap64 ((i : Int) + 1) = ((i + 1 : Nat) : Int) := by unfold wrap64; omega
      have hw2 : wrap64 ((g : Int) + 1) = ((g + 1 : Nat) : Int) := by unfold wrap64; omega
      rw [if_pos (by omega), if_pos (by omega), rd_lt l i h, hw, hw2]
      have hd : cameR (l.drop i) ino = (if l[i].f0.f0 = ino then 1 else 0) + cameR (l.drop (i + 1)) ino := by
        unfold cameR
        rw [List.drop_eq_getElem_cons h, List.countP_cons]
        by_cases h3 : l[i].f0.f0 = ino <;> simp [h3] <;> omega
      rw [hd]
      by_cases h3 : l[i].f0.f0 = ino
      · rw [if_pos h3, if_pos h3, add_l1 most ino x l hl k (i + 1) (g + 1) (by omega) (by omega) (by omega), show g + 1 + cameR (l.drop (i + 1)) ino = g + (1 + cameR (l.drop (i + 1)) ino) by omega]
      · rw [if_neg h3, if_neg h3, add_l1 most ino x l hl k (i + 1) g (by omega) (by omega) (by omega), Nat.zero_add]
    · have e : i = l.length := by omega
      subst e
      rw [if_neg (by omega), if_pos (by simp; omega)]
      have : cameR (l.drop l.length) ino = 0 := by unfold cameR; simp
      rw [this]
      simp only [List.nil_append, Option.bind_some]
      rw [if_pos (by omega)]
      rfl
theorem add_l0 (most x : Int) (l : List S53) (hl : l.length ≤ 1000) (hm : most ≤ 1000) (p : Nat) (hp : p ≤ 1000) (hfree : l.any (isIn ((p : Int) + 1)) = false) : ∀ (k j : Nat), j ≤ p → l.length + 2 + (p - j) < k → (∀ q, j ≤ q → q < p → l.any (isIn ((q : Int) + 1)) = true) → truchmanref10_Add.l0 k x ((j : Int) + 1) most l = if (p : Int) + 1 > most then some (most, l, 0, 0, 14) else some (most, l ++ [⟨⟨(p : Int) + 1, ((1 + cameR l ((p : Int) + 1) : Nat) : Int)⟩, x, true⟩], (p : Int) + 1, ((1 + cameR l ((p : Int) + 1) : Nat) : Int), 0)
  | 0, j, _, h, _ => absurd h (by omega)
  | k + 1, j, hj, hk, ht => by
    unfold truchmanref10_Add.l0
    rw [taken_f most _ l hl k (by omega)]
    simp only [Option.bind_some]
    by_cases h : j = p
    · subst h
      rw [hfree, if_neg (by simp)]
      by_cases h2 : (j : Int) + 1 > most
      · rw [if_pos h2, if_pos h2]
      · rw [if_neg h2, if_neg h2]
        have := add_l1 most ((j : Int) + 1) x l hl k 0 1 (Nat.zero_le _) (by omega) (by omega)
        simp only [List.drop_zero] at this
        exact this
    · rw [ht j (Nat.le_refl _) (by omega), if_pos rfl]
      have hw : wrap64 ((j : Int) + 1 + 1) = ((j + 1 : Nat) : Int) + 1 := by unfold wrap64; omega
      rw [hw]
      exact add_l0 most x l hl hm p hp hfree k (j + 1) (by omega) (by omega) (fun q hq => ht q (by omega))

end Go.Proofs.Ytbjmgmngomlmfaa.R
