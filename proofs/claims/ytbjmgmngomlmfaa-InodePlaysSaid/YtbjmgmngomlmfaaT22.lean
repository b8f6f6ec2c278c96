import Derived.Test.YtbjmgmngomlmfaaT21
import Derived.Outline
import Derived.Shelf.Abstract
import Derived.Deep.LoopGhost
import Derived.Deep.Draws
import Derived.Laws.EntriesVeiled
import Derived.Laws.ResultCell
import Derived.Laws.Rows
import Derived.Deep.QuietTactic
import Derived.Deep.RegionWith
import Derived.BigQuiet
namespace Go.Proofs.Ytbjmgmngomlmfaa.R
open Go.RowKit Go.Proofs.YtbjmgmngomlmfaaW.PrintWords Go.Proofs.YtbjmgmngomlmfaaW.PrintLast Go.Proofs.YtbjmgmngomlmfaaW.PrintMore
attribute [local go_sem] max2_int min2_int max_two min_two max_three min_three max_four min_four   -- for this text's walks alone
set_option linter.unusedVariables false
set_option linter.unusedSimpArgs false
def placesR : Nat → List (Bool × Int × Int) → List S53
  | _, [] => []
  | j, p :: ps => (if p.1 then [⟨⟨(j : Int) + 1, p.2.1⟩, p.2.2, true⟩] else []) ++ placesR (j + 1) ps
theorem places_count : ∀ (ps : List (Bool × Int × Int)) (j : Nat), (placesR j ps).length = ps.countP (·.1)
  | [], _ => rfl
  | p :: ps, j => by
    unfold placesR
    rw [List.length_append, places_count ps (j + 1), List.countP_cons]
    cases p.1 <;> simp <;> omega
theorem places_each {st : List (Bool × Int × Int)} {l : List S53} (h : Agree st l) : ∀ (d j : Nat), j + d = st.length → eachR l j d = placesR j (st.drop j)
  | 0, j, hj => by
    rw [List.drop_eq_nil_of_le (by omega)]
    rfl
  | d + 1, j, hj => by
    rw [List.drop_eq_getElem_cons (by omega)]
    unfold eachR placesR
    rw [h.there j _ (List.getElem?_eq_getElem (by omega)), places_each h d (j + 1) (by omega)]
theorem places_like (r : List S53) : ∀ (ps : List (Bool × Int × Int)) (j a : Nat), r.drop a = placesR j ps → a ≤ r.length → eachF (likeStep r) j ps (true, a) = (true, r.length)
  | [], j, a, h, ha => by
    have : r.length - a = 0 := by
      have := congrArg List.length h
      rw [List.length_drop] at this
      exact this
    have e : a = r.length := by omega
    rw [e]; rfl
  | p :: ps, j, a, h, ha => by
    unfold eachF
    unfold placesR at h
    cases hp : p.1 with
    | false =>
      rw [hp] at h
      exact places_like r ps (j + 1) a h ha
    | true =>
      rw [hp] at h
      simp only [if_true, List.cons_append, List.nil_append] at h
      have hal : a < r.length := by
        have := congrArg List.length h
        rw [List.length_drop, List.length_cons] at this
        omega
      have hd := List.drop_eq_getElem_cons hal
      rw [h] at hd
      injection hd with h1 h2
      have hs : likeStep r (true, a) ((j : Int) + 1) p.2.1 p.2.2 = (true, a + 1) := by
        unfold likeStep
        simp only
        rw [List.getElem?_eq_getElem hal, ← h1]
        simp
      rw [if_pos rfl, hs]
      exact places_like r ps (j + 1) (a + 1) h2.symm (by omega)
theorem like_true {st : List (Bool × Int × Int)} {l : List S53} (h : Agree st l) : likeF (eachR l 0 st.length) st = true ∧ (eachR l 0 st.length).length ≤ st.length := by
  have e := places_each h st.length 0 (by omega)
  rw [List.drop_zero] at e
  have hc := places_count st 0
  rw [e]
  constructor
  · unfold likeF
    rw [places_like (placesR 0 st) st 0 0 (by rw [List.drop_zero]) (Nat.zero_le _), hc]
    simp
  · rw [hc]
    exact List.countP_le_length

end Go.Proofs.Ytbjmgmngomlmfaa.R
