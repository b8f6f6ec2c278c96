import Derived.Test.YtbjmgmngomlmfaaT16
import Derived.Outline
import Derived.Shelf.Abstract
import Derived.Deep.LoopGhost
import Derived.Deep.Draws
import Derived.Laws.EntriesVeiled
import Derived.Laws.ResultCell
import Derived.Laws.Rows
import Derived.Deep.QuietTactic
import Derived.Deep.RegionWith
import Derived.BigQuiet
namespace Go.Proofs.Ytbjmgmngomlmfaa.R
open Go.RowKit Go.Proofs.YtbjmgmngomlmfaaW.PrintWords Go.Proofs.YtbjmgmngomlmfaaW.PrintLast Go.Proofs.YtbjmgmngomlmfaaW.PrintMore
attribute [local go_sem] max2_int min2_int max_two min_two max_three min_three max_four min_four   -- for this text's walks alone
set_option linter.unusedVariables false
set_option linter.unusedSimpArgs false
/-- What one call of like's closure makes of (same, at). -/
def likeStep (l : List S53) (s : Bool × Nat) (ino gen x : Int) : Bool × Nat :=
  (s.1 && (match l[s.2]? with
    | none => false
    | some y => (y.f0.f0 == ino && y.f0.f1 == gen) && (y.f1 == x && y.f2 == true)), s.2 + 1)
theorem likec (v7 v6 v5 cap : Nat) (A : Option Addr) (l : List S53) (s : Bool) (a : Nat) (ino gen x : Int) (w : World) (ha : a ≤ 1000) (hl : l.length ≤ 1000) (hC : Kd.C k53 w A l.length l) (hA : 0 < l.length → ∃ g, A = some ⟨g, 0, none⟩ ∧ g < w.heap.size)
    (h7 : w.heap[v7]? = some (.cells #[.bool s] 4 (0, 0))) (h6 : w.heap[v6]? = some (.cells #[.int .i64 a] 3 (0, 0))) (h5 : w.heap[v5]? = some (.cells #[.slice A l.length cap] 46 (0, 0))) (h76 : v7 ≠ v6) (h75 : v7 ≠ v5) (h65 : v6 ≠ v5) :
    Calls Try.prog 36 #[.agg #[.int .i64 ino, .int .i64 gen], .int .i64 x, .pointer (some ⟨v7, 0, none⟩), .pointer (some ⟨v6, 0, none⟩), .pointer (some ⟨v5, 0, none⟩)] w fun e w' => e = .returned (.tuple #[]) ∧ Liked w w' v7 v6 (likeStep l (s, a) ino gen x).1 a := by
  unfold likeStep
  cases s with
  | false => exact likec_false v7 v6 v5 a ino gen x w ha h7 h6 h76
  | true =>
    by_cases h : a < l.length
    · obtain ⟨g, rfl, hg⟩ := hA (by omega)
      obtain ⟨ad, e, d0, d1, d2, d3⟩ := at_T53 hC a (by omega) (by omega)
      cases e
      have hr : rd_T53 l a = l[a] := by simp [rd_T53, h]
      rw [hr] at d0 d1 d2 d3
      simp only [Addr.add_lit, Int.toNat_natCast, Nat.zero_add] at d0 d1 d2 d3
      have := likec_hit v7 v6 v5 g l.length cap a ino gen x w hl h7 h6 h5 h76 h75 h65 h _ _ _ _ hg d0 d1 d2 d3
      simpa [h] using this
    · have := likec_end v7 v6 v5 l.length cap A a ino gen x w ha (by omega) h7 h6 h5 h76
      rw [List.getElem?_eq_none (by omega)]
      exact this

end Go.Proofs.Ytbjmgmngomlmfaa.R
