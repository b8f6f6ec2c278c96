import Derived.Test.YtbjmgmngomlmfaaT20
import Derived.Outline
import Derived.Shelf.Abstract
import Derived.Deep.LoopGhost
import Derived.Deep.Draws
import Derived.Laws.EntriesVeiled
import Derived.Laws.ResultCell
import Derived.Laws.Rows
import Derived.Deep.QuietTactic
import Derived.Deep.RegionWith
import Derived.BigQuiet
namespace Go.Proofs.Ytbjmgmngomlmfaa.R
open Go.RowKit Go.Proofs.YtbjmgmngomlmfaaW.PrintWords Go.Proofs.YtbjmgmngomlmfaaW.PrintLast Go.Proofs.YtbjmgmngomlmfaaW.PrintMore
attribute [local go_sem] max2_int min2_int max_two min_two max_three min_three max_four min_four   -- for this text's walks alone
set_option linter.unusedVariables false
set_option linter.unusedSimpArgs false
section
variable {st : List (Bool × Int × Int)} {l : List S53}
theorem cameR_mid (A B : List S53) (x y : S53) (ino : Int) (h : x.f0.f0 = y.f0.f0) : cameR (A ++ x :: B) ino = cameR (A ++ y :: B) ino := by
  unfold cameR
  rw [List.countP_append, List.countP_append, List.countP_cons, List.countP_cons, h]
/-- What is there behind the change of one that is there. -/
theorem agree_mid {A B : List S53} {ino gen : Int} {j : Nat} {n : Int} (h : Agree st (A ++ ⟨⟨ino, gen⟩, n, true⟩ :: B)) (hj : j < st.length) (hi : ino = (j : Int) + 1) (hA : A.filter (isIn ino) = []) (hB : B.filter (isIn ino) = []) (hg : st[j].2.1 = gen) (x : Int) (is : Bool) :
    Agree (st.set j (is, gen, x)) (A ++ ⟨⟨ino, gen⟩, x, is⟩ :: B) := by
  have hc : ∀ i, cameR (A ++ ⟨⟨ino, gen⟩, x, is⟩ :: B) i = cameR (A ++ ⟨⟨ino, gen⟩, n, true⟩ :: B) i := fun i => cameR_mid A B _ _ i rfl
  have hsj : st[j]? = some st[j] := List.getElem?_eq_getElem hj
  refine ⟨fun q p hp => ?_, fun q p hp => ?_, fun y hy => ?_⟩
  · rw [hc]
    rw [List.getElem?_set] at hp
    split at hp
    · rename_i e
      subst e
      cases hp
      rw [h.came j _ hsj, hg]
    · exact h.came q p hp
  · rw [List.filter_append]
    rw [List.getElem?_set] at hp
    split at hp
    · rename_i e
      subst e
      cases hp
      rw [← hi, hA]
      cases is with
      | true =>
        rw [List.filter_cons_of_pos (by unfold isIn; simp), hB]
        rfl
      | false =>
        rw [List.filter_cons_of_neg (by unfold isIn; simp), hB]
        rfl
    · rename_i e
      have := h.there q p hp
      rw [List.filter_append, List.filter_cons_of_neg (by unfold isIn; simp; omega)] at this
      rw [List.filter_cons_of_neg (by unfold isIn; simp; omega)]
      exact this
  · rw [List.length_set]
    rcases List.mem_append.1 hy with h1 | h1
    · exact h.range y (List.mem_append.2 (.inl h1))
    · rcases List.mem_cons.1 h1 with rfl | h2
      · have := h.range ⟨⟨ino, gen⟩, n, true⟩ (List.mem_append.2 (.inr (List.mem_cons_self ..)))
        exact this
      · exact h.range y (List.mem_append.2 (.inr (List.mem_cons_of_mem _ h2)))
theorem set_mid (A B : List S53) (x y : S53) : (A ++ x :: B).set A.length y = A ++ y :: B := by
  rw [List.set_append_right _ _ (Nat.le_refl _)]; simp
theorem set_f (h : Agree st l) (hl : l.length ≤ 1000) (most ino gen x : Int) (is : Bool) (k : Nat) (hk : l.length < k) :
    ∃ l', truchmanref10_Set.f k most l ino gen x is = some (most, l', staleC st ino gen) ∧ l'.length = l.length ∧ ((atN st ino gen = none → l' = l) ∧ ∀ j, atN st ino gen = some j → Agree (st.set j (is, gen, x)) l') := by
  unfold truchmanref10_Set.f
  rw [find_f most ino gen l hl k hk]
  simp only [Option.bind_some]
  cases ha : atN st ino gen with
  | none =>
    rw [agree_find_none h ino gen ha, if_pos (by decide)]
    refine ⟨l, ?_, rfl, fun _ => rfl, fun j hj => (by cases hj)⟩
    unfold staleC; rw [ha]; rfl
  | some j =>
    obtain ⟨hj, A, B, hi, ht, hg, e, hf, hA, hB⟩ := agree_find_some h ino gen j ha
    have hAl : A.length < l.length := by rw [e]; simp
    rw [hf, if_neg (by omega), if_pos (by simp; omega), if_pos (by omega), if_pos (by simp; omega)]
    refine ⟨A ++ ⟨⟨ino, gen⟩, x, is⟩ :: B, ?_, (by rw [e]; simp), fun hn => (by cases hn), fun j' hj' => ?_⟩
    · rw [Int.toNat_natCast, List.nil_append, e, set_mid]
      unfold staleC; rw [ha]; rfl
    · cases hj'
      subst e
      exact agree_mid h hj hi hA hB hg x is
theorem agree_set (h : Agree st l) (hl : l.length ≤ 1000) (most ino gen x : Int) (k : Nat) (hk : l.length < k) : ∃ l', truchmanref10_Set.f k most l ino gen x true = some (most, l', staleC st ino gen) ∧ l'.length = l.length ∧ Agree (setF st ino gen x) l' := by
  obtain ⟨l', h1, h2, h3, h4⟩ := set_f h hl most ino gen x true k hk
  refine ⟨l', h1, h2, ?_⟩
  unfold setF
  cases ha : atN st ino gen with
  | none => rw [h3 ha]; exact h
  | some j => exact h4 j ha
theorem agree_rem (h : Agree st l) (hl : l.length ≤ 1000) (most ino gen : Int) (k : Nat) (hk : l.length < k) : ∃ l', truchmanref10_Set.f k most l ino gen 0 false = some (most, l', staleC st ino gen) ∧ l'.length = l.length ∧ Agree (remF 0 st ino gen) l' := by
  obtain ⟨l', h1, h2, h3, h4⟩ := set_f h hl most ino gen 0 false k hk
  refine ⟨l', h1, h2, ?_⟩
  unfold remF
  cases ha : atN st ino gen with
  | none => rw [h3 ha]; exact h
  | some j => exact h4 j ha
theorem any_filter (l : List S53) (ino : Int) : l.any (isIn ino) = decide (l.filter (isIn ino) ≠ []) := by
  rw [Bool.eq_iff_iff, List.any_eq_true, decide_eq_true_eq]
  constructor
  · rintro ⟨x, hx, hq⟩ e
    have := List.mem_filter.2 ⟨hx, hq⟩
    rw [e] at this
    cases this
  · intro hne
    obtain ⟨x, hx⟩ := List.exists_mem_of_ne_nil _ hne
    exact ⟨x, (List.mem_filter.1 hx).1, (List.mem_filter.1 hx).2⟩
theorem free_before (st : List (Bool × Int × Int)) (j : Nat) (h : j < freeAt st) (hj : j < st.length) : st[j].1 = true := by
  have := List.not_of_lt_findIdx h
  simpa using this
theorem free_hit (st : List (Bool × Int × Int)) (h : freeAt st < st.length) : st[freeAt st].1 = false := by
  have : (!st[freeAt st].1) = true := List.findIdx_getElem (w := h)
  simpa using this
theorem agree_add (h : Agree st l) (hl : l.length ≤ 900) (hs : st.length ≤ 64) (x : Int) (k : Nat) (hk : l.length + 2 + st.length < k) :
    ∃ l', truchmanref10_Add.f k st.length l x = some ((st.length : Int), l', addI st, addG st, addC st) ∧ l'.length ≤ l.length + 1 ∧ Agree (addF st x) l' := by
  have hfl : freeAt st ≤ st.length := List.findIdx_le_length
  have htk : ∀ q, 0 ≤ q → q < freeAt st → l.any (isIn ((q : Int) + 1)) = true := fun q _ hq => by
    have hql : q < st.length := by omega
    rw [any_filter, h.there q _ (List.getElem?_eq_getElem hql), if_pos (free_before st q hq hql)]
    simp
  by_cases hf : freeAt st < st.length
  · have hn : st[freeAt st]? = some st[freeAt st] := List.getElem?_eq_getElem hf
    have hfree : l.any (isIn ((freeAt st : Int) + 1)) = false := by
      rw [any_filter, h.there _ _ hn, free_hit st hf]
      simp
    have hc := h.came _ _ hn
    have := add_l0 st.length x l (by omega) (by omega) (freeAt st) (by omega) hfree k 0 (Nat.zero_le _) (by omega) htk
    rw [if_neg (by omega)] at this
    have hcg : ((1 + cameR l ((freeAt st : Int) + 1) : Nat) : Int) = st[freeAt st].2.1 + 1 := by omega
    rw [hcg] at this
    refine ⟨l ++ [⟨⟨(freeAt st : Int) + 1, st[freeAt st].2.1 + 1⟩, x, true⟩], ?_, by simp, ?_⟩
    · unfold truchmanref10_Add.f addI addG addC
      rw [hn, if_pos hf]
      exact this
    · unfold addF
      rw [hn]
      simp only
      have hsf := free_hit st hf
      have hth := h.there _ _ hn
      rw [hsf] at hth
      generalize freeAt st = p at *
      refine ⟨fun q r hr => ?_, fun q r hr => ?_, fun y hy => ?_⟩
      · unfold cameR
        rw [List.countP_append]
        rw [List.getElem?_set] at hr
        split at hr
        · rename_i e
          subst e
          cases hr
          show ((cameR l ((p : Int) + 1) + _ : Nat) : Int) = _
          simp only [List.countP_cons, List.countP_nil, decide_true]
          simp only [if_true]
          omega
        · rename_i e
          have h3 := h.came q r hr
          unfold cameR at h3
          simp only [List.countP_cons, List.countP_nil]
          rw [if_neg (by simp; omega)]
          omega
      · rw [List.filter_append]
        rw [List.getElem?_set] at hr
        split at hr
        · rename_i e
          subst e
          cases hr
          rw [hth, List.filter_cons_of_pos (by unfold isIn; simp)]
          rfl
        · rename_i e
          rw [h.there q r hr, List.filter_cons_of_neg (by unfold isIn; simp; omega)]
          simp
      · rw [List.length_set]
        rcases List.mem_append.1 hy with h1 | h1
        · exact h.range y h1
        · rw [List.mem_singleton] at h1
          subst h1
          show 1 ≤ (p : Int) + 1 ∧ (p : Int) + 1 ≤ _
          omega
  · have e : freeAt st = st.length := by omega
    have hn : st[freeAt st]? = none := List.getElem?_eq_none (by omega)
    have hfree : l.any (isIn ((freeAt st : Int) + 1)) = false := by
      rw [List.any_eq_false]
      intro y hy
      have := h.range y hy
      unfold isIn
      rw [e]
      simp
      omega
    have := add_l0 st.length x l (by omega) (by omega) (freeAt st) (by omega) hfree k 0 (Nat.zero_le _) (by omega) htk
    rw [if_pos (by omega)] at this
    refine ⟨l, ?_, by omega, ?_⟩
    · unfold truchmanref10_Add.f addI addG addC
      rw [hn, if_neg hf]
      exact this
    · unfold addF
      rw [hn]
      exact h
end

end Go.Proofs.Ytbjmgmngomlmfaa.R
