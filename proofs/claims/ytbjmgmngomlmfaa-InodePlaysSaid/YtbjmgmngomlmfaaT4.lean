import Derived.Test.YtbjmgmngomlmfaaT3
import Derived.Outline
import Derived.Shelf.Abstract
import Derived.Deep.LoopGhost
import Derived.Deep.Draws
import Derived.Laws.EntriesVeiled
import Derived.Laws.ResultCell
import Derived.Laws.Rows
import Derived.Deep.QuietTactic
import Derived.Deep.RegionWith
import Derived.BigQuiet
namespace Go.Proofs.Ytbjmgmngomlmfaa.R
open Go.RowKit Go.Proofs.YtbjmgmngomlmfaaW.PrintWords Go.Proofs.YtbjmgmngomlmfaaW.PrintLast Go.Proofs.YtbjmgmngomlmfaaW.PrintMore
attribute [local go_sem] max2_int min2_int max_two min_two max_three min_three max_four min_four   -- for this text's walks alone
set_option linter.unusedVariables false
set_option linter.unusedSimpArgs false
section
variable {α : Type}
def staleC (st : List (Bool × Int × α)) (ino gen : Int) : Int := if (atN st ino gen).isSome then 0 else 8
def getF (z : α) (st : List (Bool × Int × α)) (ino gen : Int) : α :=
  match atN st ino gen with
  | none => z
  | some i => ((st[i]?).map (·.2.2)).getD z
def setF (st : List (Bool × Int × α)) (ino gen : Int) (x : α) : List (Bool × Int × α) :=
  match atN st ino gen with
  | none => st
  | some i => st.set i (true, gen, x)
def remF (z : α) (st : List (Bool × Int × α)) (ino gen : Int) : List (Bool × Int × α) :=
  match atN st ino gen with
  | none => st
  | some i => st.set i (false, gen, z)
theorem atN_some {st : List (Bool × Int × α)} {ino gen : Int} {i : Nat} (h : atN st ino gen = some i) : ∃ hi : i < st.length, ino = i + 1 ∧ st[i].1 = true ∧ st[i].2.1 = gen := by
  unfold atN at h
  split at h
  · rename_i hr
    split at h
    · rename_i hc
      simp only [Option.some.injEq] at h
      subst h
      exact ⟨by omega, by omega, hc.1, hc.2⟩
    · cases h
  · cases h
theorem TabIn.write {enc : α → Value} {te tt tp fn : Nat} {w w1 : World} {b m m1 : Nat} {st st1 : List (Bool × Int × α)} (h : TabIn enc te tt tp fn w b m st) (hg : w.grownBy w1 (some b)) (hr : w1.heap[b]? = some (.cells (rows3 enc st1).toArray te (0, 0))) (hl : st1.length = st.length) (hm : ∀ p ∈ st1, 0 ≤ p.2.1 ∧ p.2.1 ≤ m1) : TabIn enc te tt tp fn w1 b m1 st1 := by
  have hlt := h.lt
  refine ⟨⟨hr, by rw [hl]; exact h.rows.2⟩, ?_, ?_, by rw [hl]; exact h.small, hm⟩
  · rw [hl]; exact (hg.block _ (by omega) (by simp)).trans h.tab
  · exact (hg.block _ hlt (by simp)).trans h.var
theorem set_same {β : Type} {l : List β} {i : Nat} {v : β} (h : l[i]? = some v) : l.set i v = l := by
  apply List.ext_getElem?
  intro j
  rw [List.getElem?_set]
  split
  · rename_i e; subst e
    have hl := (List.getElem?_eq_some_iff.1 h).1
    rw [if_pos hl, h]
  · rfl
theorem rows3_setx (enc : α → Value) (st : List (Bool × Int × α)) (i : Nat) (hi : i < st.length) (is : Bool) (gen : Int) (hq : st[i].1 = is) (hg : st[i].2.1 = gen) (x : α) : (rows3 enc st).toArray.setIfInBounds (i * 3 + 2) (enc x) = (rows3 enc (st.set i (is, gen, x))).toArray := by
  obtain ⟨c0, c1, -⟩ := rows3_get enc st i hi
  rw [rows3_set enc st i _ hi]
  simp only []
  rw [← hq, ← hg, set_same c0, set_same c1]
  simp
theorem grown_setCell (W : World) (b o : Nat) (v : Value) : W.grownBy (W.setCell ⟨b, o, none⟩ v) (some b) := ⟨rfl, rfl, rfl, by simp [World.setCell], fun k hk hn => Below.heap_setCell W ⟨b, o, none⟩ v k (by intro e; exact hn (by rw [e]))⟩
theorem grown_trans {w w1 w2 : World} {row : Option Nat} (h1 : w.grownBy w1 row) (h2 : w1.grownBy w2 row) : w.grownBy w2 row :=
  ⟨h2.os.trans h1.os, h2.tape.trans h1.tape, h2.output.trans h1.output, Nat.le_trans h1.size h2.size, fun i hi hn => (h2.block i (Nat.lt_of_lt_of_le hi h1.size) hn).trans (h1.block i hi hn)⟩
theorem set_gens {m : Nat} {st : List (Bool × Int × α)} (h : ∀ p ∈ st, 0 ≤ p.2.1 ∧ p.2.1 ≤ m) (i : Nat) (p : Bool × Int × α) (hp : 0 ≤ p.2.1 ∧ p.2.1 ≤ m) : ∀ q ∈ st.set i p, 0 ≤ q.2.1 ∧ q.2.1 ≤ m := by
  intro q hq
  rcases List.mem_or_eq_of_mem_set hq with h1 | h1
  · exact h q h1
  · rw [h1]; exact hp
end
set_option maxHeartbeats 4000000 in
theorem get_int (b m : Nat) (st : List (Bool × Int × Int)) (ino gen : Int) (w : World) (hT : TabInt w b m st) : Calls Try.prog 15 #[.pointer (some ⟨b + 1, 0, none⟩), .agg #[.int .i64 ino, .int .i64 gen]] w fun e w' => e = .returned (.tuple #[.int .i64 (getF 0 st ino gen), .int .i64 (staleC st ino gen)]) ∧ Below w.heap.size w w' := by
  have hcall := fun W h => at_int b m st ino gen W h
  unfold getF staleC
  cases ha : atN st ino gen with
  | none =>
    rw [ha] at hcall
    go_enter Try.func15, Try.ntmps15
    go_wp2_with (go_at_call 32; refine (hcall _ (hT.below (below_alloc (Below.refl _ _) _))).mono ?_; rintro e w' ⟨rfl, hb'⟩; simp only [atV])
    go_ret2
    exact ⟨rfl, below_step (below_alloc (Below.refl _ _) _) hb'⟩
  | some i =>
    rw [ha] at hcall
    obtain ⟨hi, hat⟩ := atN_some ha
    have HAT : Aside (ino = i + 1 ∧ st[i].1 = true ∧ st[i].2.1 = gen) := hat
    clear hat
    obtain ⟨-, -, c2⟩ := hT.rows.at_ i hi
    have hx : ((st[i]?).map (·.2.2)).getD 0 = st[i].2.2 := by simp [hi]
    simp only [hx]
    go_enter Try.func15, Try.ntmps15
    go_wp2_with (go_at_call 32; refine (hcall _ (hT.below (below_alloc (Below.refl _ _) _))).mono ?_; rintro e w' ⟨rfl, hb'⟩; simp only [atV]; have c2' := pw_cell_below (below_step (below_alloc (Below.refl w.heap.size w) _) hb') c2)
    go_ret2
    exact ⟨rfl, below_step (below_alloc (Below.refl _ _) _) hb'⟩
set_option maxHeartbeats 4000000 in
theorem set_int (b m : Nat) (st : List (Bool × Int × Int)) (ino gen x : Int) (w : World) (hT : TabInt w b m st) : Calls Try.prog 16 #[.pointer (some ⟨b + 1, 0, none⟩), .agg #[.int .i64 ino, .int .i64 gen], .int .i64 x] w fun e w' => e = .returned (.int .i64 (staleC st ino gen)) ∧ w.grownBy w' (some b) ∧ TabInt w' b m (setF st ino gen x) := by
  have hcall := fun W h => at_int b m st ino gen W h
  unfold setF staleC
  cases ha : atN st ino gen with
  | none =>
    rw [ha] at hcall
    rw [if_neg (by simp)]
    go_enter Try.func16, Try.ntmps16
    go_wp2_with (go_at_call 32; refine (hcall _ (hT.below (below_alloc (Below.refl _ _) _))).mono ?_; rintro e w' ⟨rfl, hb'⟩; simp only [atV])
    go_ret
    have hb := below_step (below_alloc (Below.refl w.heap.size w) _) hb'
    exact ⟨rfl, grown_of_below hb _, hT.below hb⟩
  | some i =>
    rw [ha] at hcall
    rw [if_pos (by rfl)]
    obtain ⟨hi, hat⟩ := atN_some ha
    have HAT : Aside (ino = i + 1 ∧ st[i].1 = true ∧ st[i].2.1 = gen) := hat
    clear hat
    obtain ⟨-, -, c2⟩ := hT.rows.at_ i hi
    go_enter Try.func16, Try.ntmps16
    go_wp2_with (go_at_call 32; refine (hcall _ (hT.below (below_alloc (Below.refl _ _) _))).mono ?_; rintro e w' ⟨rfl, hb'⟩; simp only [atV]; have hT' := hT.below (below_step (below_alloc (Below.refl w.heap.size w) _) hb'); have c2' := (hT'.rows.at_ i hi).2.2; have f2' := hT'.rows.free (i * 3 + 2))
    go_ret
    have hg : w.grownBy (w'.setCell ⟨b, i * 3 + 2, none⟩ (.int .i64 x)) (some b) := grown_trans (grown_of_below (below_step (below_alloc (Below.refl w.heap.size w) _) hb') _) (grown_setCell _ _ _ _)
    refine ⟨rfl, hg, hT.write hg ?_ (by simp) (set_gens hT.gens _ _ ?_)⟩
    · rw [blk_set hT'.rows.1]
      congr 1
      exact congrArg (fun c => Obj.cells c _ _) (rows3_setx _ st i hi true gen HAT.out.2.1 HAT.out.2.2 x)
    · have := hT.gens _ (List.getElem_mem hi)
      rw [HAT.out.2.2] at this
      exact this

end Go.Proofs.Ytbjmgmngomlmfaa.R
