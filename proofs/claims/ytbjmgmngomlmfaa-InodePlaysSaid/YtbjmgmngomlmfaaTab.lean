import Derived.Test.YtbjmgmngomlmfaaRx
import Derived.Outline
import Derived.Shelf.Abstract
import Derived.Deep.LoopGhost
import Derived.Deep.Draws
import Derived.Laws.EntriesVeiled
import Derived.Laws.ResultCell
import Derived.Laws.Rows
import Derived.Deep.QuietTactic
import Derived.Deep.RegionWith
import Derived.BigQuiet
namespace Go.Proofs.Ytbjmgmngomlmfaa.R
open Go.RowKit Go.Proofs.YtbjmgmngomlmfaaW.PrintWords Go.Proofs.YtbjmgmngomlmfaaW.PrintLast Go.Proofs.YtbjmgmngomlmfaaW.PrintMore
attribute [local go_sem] max2_int min2_int max_two min_two max_three min_three max_four min_four   -- for this text's walks alone
set_option linter.unusedVariables false
set_option linter.unusedSimpArgs false
/-! The table in memory: its places (three cells each), its block, the variable that its closure holds. -/
section
variable {α : Type}
def cells3 (enc : α → Value) (p : Bool × Int × α) : List Value := [.bool p.1, .int .i64 p.2.1, enc p.2.2]
def rows3 (enc : α → Value) (st : List (Bool × Int × α)) : List Value := st.flatMap (cells3 enc)
theorem rows3_length (enc : α → Value) (st : List (Bool × Int × α)) : (rows3 enc st).length = st.length * 3 := by
  induction st with
  | nil => rfl
  | cons p st ih => simp only [rows3, List.flatMap_cons, List.length_append, List.length_cons] at ih ⊢; rw [ih]; simp [cells3]; omega
theorem rows3_get (enc : α → Value) : ∀ (st : List (Bool × Int × α)) (i : Nat) (h : i < st.length), (rows3 enc st)[i * 3]? = some (.bool st[i].1) ∧ (rows3 enc st)[i * 3 + 1]? = some (.int .i64 st[i].2.1) ∧ (rows3 enc st)[i * 3 + 2]? = some (enc st[i].2.2)
  | p :: st, 0, h => by simp [rows3, cells3]
  | p :: st, i + 1, h => by
    have ih := rows3_get enc st i (by simpa using h)
    have e : ∀ j, (rows3 enc (p :: st))[(i + 1) * 3 + j]? = (rows3 enc st)[i * 3 + j]? := by
      intro j
      rw [show (i + 1) * 3 + j = i * 3 + j + 3 by omega]
      simp [rows3, cells3]
    refine ⟨?_, ?_, ?_⟩
    · have := e 0; simp only [Nat.add_zero] at this; rw [this, ih.1]; rfl
    · rw [e 1, ih.2.1]; rfl
    · rw [e 2, ih.2.2]; rfl
theorem rows3_set (enc : α → Value) : ∀ (st : List (Bool × Int × α)) (i : Nat) (p : Bool × Int × α), i < st.length → rows3 enc (st.set i p) = (((rows3 enc st).set (i * 3) (.bool p.1)).set (i * 3 + 1) (.int .i64 p.2.1)).set (i * 3 + 2) (enc p.2.2)
  | q :: st, 0, p, h => by simp [rows3, cells3]
  | q :: st, i + 1, p, h => by
    have ih := rows3_set enc st i p (by simpa using h)
    have e : ∀ (L : List Value) (j : Nat) (v : Value), (cells3 enc q ++ L).set (j + 3) v = cells3 enc q ++ L.set j v := by
      intro L j v; simp [cells3]
    have c : ∀ s, rows3 enc (q :: s) = cells3 enc q ++ rows3 enc s := fun s => by simp [rows3]
    rw [List.set_cons_succ, c, c, ih, show (i + 1) * 3 = i * 3 + 3 by omega, e, show i * 3 + 3 + 1 = i * 3 + 1 + 3 by omega, e, show i * 3 + 3 + 2 = i * 3 + 2 + 3 by omega, e]
/-- The places' row in memory. -/
def Rows3 (enc : α → Value) (e : TypeId) (w : World) (g : Nat) (st : List (Bool × Int × α)) : Prop := w.heap[g]? = some (.cells (rows3 enc st).toArray e (0, 0)) ∧ st.length ≤ 1000
theorem Rows3.at_ {enc : α → Value} {e : TypeId} {w : World} {g : Nat} {st : List (Bool × Int × α)} (h : Rows3 enc e w g st) (i : Nat) (hi : i < st.length) :
    w.cell? ⟨g, i * 3, none⟩ = some (.bool st[i].1) ∧ w.cell? ⟨g, i * 3 + 1, none⟩ = some (.int .i64 st[i].2.1) ∧ w.cell? ⟨g, i * 3 + 2, none⟩ = some (enc st[i].2.2) := by
  have hg := rows3_get enc st i hi
  refine ⟨?_, ?_, ?_⟩
  · rw [cell_of_row _ _ _ _ _ _ h.1]; simpa using hg.1
  · rw [cell_of_row _ _ _ _ _ _ h.1]; simpa using hg.2.1
  · rw [cell_of_row _ _ _ _ _ _ h.1]; simpa using hg.2.2
theorem Rows3.free {enc : α → Value} {e : TypeId} {w : World} {g : Nat} {st : List (Bool × Int × α)} (h : Rows3 enc e w g st) (o : Nat) : w.frozen? ⟨g, o, none⟩ = false := by simp [World.frozen?, h.1]
theorem Rows3.lt {enc : α → Value} {e : TypeId} {w : World} {g : Nat} {st : List (Bool × Int × α)} (h : Rows3 enc e w g st) : g < w.heap.size := (Array.getElem?_eq_some_iff.1 h.1).1
theorem Rows3.below {enc : α → Value} {e : TypeId} {w w1 : World} {g : Nat} {st : List (Bool × Int × α)} (h : Rows3 enc e w g st) (hb : Below w.heap.size w w1) : Rows3 enc e w1 g st := ⟨(hb.block g h.lt).trans h.1, h.2⟩
theorem Rows3.grown {enc : α → Value} {e : TypeId} {w w1 : World} {g : Nat} {st : List (Bool × Int × α)} (h : Rows3 enc e w g st) {row : Option Nat} (hg : w.grownBy w1 row) (hn : some g ≠ row) : Rows3 enc e w1 g st := ⟨(hg.block g h.lt hn).trans h.1, h.2⟩
end

end Go.Proofs.Ytbjmgmngomlmfaa.R
