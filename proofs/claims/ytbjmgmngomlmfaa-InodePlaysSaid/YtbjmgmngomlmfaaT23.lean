import Derived.Test.YtbjmgmngomlmfaaT22
import Derived.Outline
import Derived.Shelf.Abstract
import Derived.Deep.LoopGhost
import Derived.Deep.Draws
import Derived.Laws.EntriesVeiled
import Derived.Laws.ResultCell
import Derived.Laws.Rows
import Derived.Deep.QuietTactic
import Derived.Deep.RegionWith
import Derived.BigQuiet
namespace Go.Proofs.Ytbjmgmngomlmfaa.R
open Go.RowKit Go.Proofs.YtbjmgmngomlmfaaW.PrintWords Go.Proofs.YtbjmgmngomlmfaaW.PrintLast Go.Proofs.YtbjmgmngomlmfaaW.PrintMore
attribute [local go_sem] max2_int min2_int max_two min_two max_three min_three max_four min_four   -- for this text's walks alone
set_option linter.unusedVariables false
set_option linter.unusedSimpArgs false
def tcells (hs : List (Int × Int)) : List Value := hs.flatMap fun h => [.int .i64 h.1, .int .i64 h.2]
theorem tcells_len : ∀ hs : List (Int × Int), (tcells hs).length = hs.length * 2
  | [] => rfl
  | h :: hs => by
    have ih := tcells_len hs
    unfold tcells at ih ⊢
    rw [List.flatMap_cons, List.length_append, ih]
    simp; omega
theorem tcells_succ (hs : List (Int × Int)) (a g : Int) : tcells (hs ++ [(a, g)]) = tcells hs ++ [.int .i64 a, .int .i64 g] := by unfold tcells; rw [List.flatMap_append]; rfl
theorem tcells_get : ∀ (hs : List (Int × Int)) (j : Nat) (h : j < hs.length), (tcells hs)[j * 2]? = some (.int .i64 hs[j].1) ∧ (tcells hs)[j * 2 + 1]? = some (.int .i64 hs[j].2)
  | h :: hs, 0, _ => ⟨rfl, rfl⟩
  | h :: hs, j + 1, hj => by
    have ih := tcells_get hs j (by simpa using hj)
    unfold tcells at ih ⊢
    rw [List.flatMap_cons, show (j + 1) * 2 = j * 2 + 2 by omega]
    exact ih
theorem owns_move {w w1 : World} {base : Nat} {e : TypeId} {size : Nat} {v : Value} {n : Nat} {xs : List Value} (h : w.ownsRow base e size v n xs) (hm : ∀ k, v.ownBlock = some k → w1.heap[k]? = w.heap[k]?) : w1.ownsRow base e size v n xs := by
  refine ⟨h.1, ?_⟩
  rcases h.2 with ⟨rfl, h0⟩ | ⟨g, cap, cur, rfl, hb, hh, h1, h2, h3, h4⟩
  · exact .inl ⟨rfl, h0⟩
  · exact .inr ⟨g, cap, cur, rfl, hb, (hm g rfl).trans hh, h1, h2, h3, h4⟩
/-- What holds in InodePlays' loop: nothing that was there at the call is turned; the table (blocks b to b + 2); the document's table (box y) with its row; the handles that were told. -/
structure PlaysIn (w0 : World) (b m y M : Nat) (w : World) (st : List (Bool × Int × Int)) (l : List S53) (v hv : Value) (hs : List (Int × Int)) : Prop where
  hb : Below w0.heap.size w0 w
  ht : TabInt w b m st
  hy : w.heap[y]? = some (.cells #[.int .i64 M, v] 48 (0, 0))
  hr : Kd.R k53 53 w w0.heap.size (fun k => y < k ∧ hv.ownBlock ≠ some k) v l
  ho : w.ownsRow (y + 1) 29 2 hv hs.length (tcells hs)
  bw : w0.heap.size ≤ b
  yb : b + 2 < y
  hh : ∀ k, hv.ownBlock = some k → y < k
section
variable {w0 w w1 : World} {b m y M : Nat} {st : List (Bool × Int × Int)} {l : List S53} {v hv : Value} {hs : List (Int × Int)}
theorem PlaysIn.ylt (h : PlaysIn w0 b m y M w st l v hv hs) : y < w.heap.size := (Array.getElem?_eq_some_iff.1 h.hy).1
theorem PlaysIn.vne (h : PlaysIn w0 b m y M w st l v hv hs) (k : Nat) (hk : v.ownBlock = some k) : y < k ∧ hv.ownBlock ≠ some k := h.hr.1 k hk
theorem PlaysIn.vlt (h : PlaysIn w0 b m y M w st l v hv hs) (k : Nat) (hk : v.ownBlock = some k) : k < w.heap.size := by
  obtain ⟨inner, ho⟩ := Kd.R_own h.hr
  exact (ho.lt k hk).2
theorem PlaysIn.hlt (h : PlaysIn w0 b m y M w st l v hv hs) (k : Nat) (hk : hv.ownBlock = some k) : k < w.heap.size := (h.ho.lt k hk).2
theorem PlaysIn.below (h : PlaysIn w0 b m y M w st l v hv hs) (hb : Below w.heap.size w w1) : PlaysIn w0 b m y M w1 st l v hv hs :=
  ⟨below_step h.hb hb, h.ht.below hb, (hb.block _ h.ylt).trans h.hy, Kd.R_below h.hr hb, owns_move h.ho (fun k hk => hb.block k (h.hlt k hk)), h.bw, h.yb, h.hh⟩
/-- .. behind a change of the table. -/
theorem PlaysIn.tab (h : PlaysIn w0 b m y M w st l v hv hs) {m1 : Nat} {st1 : List (Bool × Int × Int)} (hg : w.grownBy w1 (some b)) (ht : TabInt w1 b m1 st1) : PlaysIn w0 b m1 y M w1 st1 l v hv hs := by
  have hyb := h.yb
  exact ⟨below_of h.hb h.bw hg, ht, block_of hg h.hy (by omega), Kd.R_grown h.hr hg (fun k hk e => by cases e; omega), h.ho.kept hg (by
    cases hq : hv.ownBlock with
    | none => exact .inl rfl
    | some k => exact .inr (fun e => by cases e; have := h.hh b hq; omega)), h.bw, h.yb, h.hh⟩
theorem below_setCell {B : Nat} {a w : World} (h : Below B a w) {p : Addr} (hp : B ≤ p.block) (u : Value) : Below B a (w.setCell p u) :=
  h.trans ⟨rfl, rfl, rfl, by simp [World.setCell], fun k hk => Below.heap_setCell w p u k (by omega)⟩
/-- .. behind a call that hands the document's table back, once it is laid into its box. -/
theorem PlaysIn.stored (h : PlaysIn w0 b m y M w st l v hv hs) {w6 W6 : World} {v' : Value} {l' : List S53}
    (hR : Kd.R k53 53 w6 w0.heap.size (fun k => v.ownBlock = some k ∨ w.heap.size ≤ k) v' l') (hb : Below w0.heap.size w0 w6) (hk : Kept w w6 (fun k => v.ownBlock = some k)) (hB : Below w6.heap.size w6 W6) :
    PlaysIn w0 b m y M ((W6.setCell ⟨y, 0, none⟩ (.int .i64 M)).setCell ⟨y, 1, none⟩ v') st l' v' hv hs := by
  have hylt := h.ylt
  have hyb := h.yb
  have hsz := hk.1
  have hfix : ∀ k, k < w.heap.size → v.ownBlock ≠ some k → W6.heap[k]? = w.heap[k]? := fun k hlt hne => (hB.block k (by omega)).trans (hk.2 k hlt hne)
  have hfix2 : ∀ k, k < w.heap.size → v.ownBlock ≠ some k → k ≠ y → ((W6.setCell ⟨y, 0, none⟩ (.int .i64 M)).setCell ⟨y, 1, none⟩ v').heap[k]? = w.heap[k]? := fun k hlt hne hky =>
    (Below.heap_setCell _ ⟨y, 1, none⟩ v' k hky).trans ((Below.heap_setCell _ ⟨y, 0, none⟩ _ k hky).trans (hfix k hlt hne))
  have htlt := h.ht.lt
  have hvy : ∀ k, k ≤ y → v.ownBlock ≠ some k := fun k hk e => by have := (h.vne k e).1; omega
  have hv' : ∀ k, v'.ownBlock = some k → y < k ∧ hv.ownBlock ≠ some k := fun k hk' => by
    rcases hR.1 k hk' with h1 | h1
    · exact h.vne k h1
    · exact ⟨by omega, fun e => by have := h.hlt k e; omega⟩
  refine ⟨?_, ⟨⟨?_, h.ht.rows.2⟩, ?_, ?_, h.ht.small, h.ht.gens⟩, ?_, ?_, ?_, h.bw, h.yb, h.hh⟩
  · exact below_setCell (below_setCell (below_step hb hB) (by show w0.heap.size ≤ y; have := h.bw; omega) _) (by show w0.heap.size ≤ y; have := h.bw; omega) _
  · exact (hfix2 b (by omega) (hvy b (by omega)) (by omega)).trans h.ht.rows.1
  · exact (hfix2 (b + 1) (by omega) (hvy _ (by omega)) (by omega)).trans h.ht.tab
  · exact (hfix2 (b + 2) (by omega) (hvy _ (by omega)) (by omega)).trans h.ht.var
  · have h0 : W6.heap[y]? = some (.cells #[.int .i64 M, v] 48 (0, 0)) := (hfix y hylt (hvy y (Nat.le_refl _))).trans h.hy
    rw [blk_set (blk_set h0 _ _) _ _]
    rfl
  · have h1 : Kd.R k53 53 w6 w0.heap.size (fun k => y < k ∧ hv.ownBlock ≠ some k) v' l' := Kd.R_reok rfl hR hv'
    exact Kd.R_far (Kd.R_far (Kd.R_below h1 hB) (p := ⟨y, 0, none⟩) (fun k hk => by show k ≠ y; omega) _) (p := ⟨y, 1, none⟩) (fun k hk => by show k ≠ y; omega) _
  · refine owns_move h.ho (fun k hk' => hfix2 k (h.hlt k hk') (fun e => (h.vne k e).2 hk') ?_)
    have := h.hh k hk'
    omega
theorem PlaysIn.mono (h : PlaysIn w0 b m y M w st l v hv hs) {m1 : Nat} (hm : m ≤ m1) : PlaysIn w0 b m1 y M w st l v hv hs := ⟨h.hb, h.ht.mono hm, h.hy, h.hr, h.ho, h.bw, h.yb, h.hh⟩
theorem PlaysIn.row (h : PlaysIn w0 b m y M w st l v hv hs) {w6 : World} (hk : Kept w w6 (fun k => v.ownBlock = some k)) : w6.heap[y]? = some (.cells #[.int .i64 M, v] 48 (0, 0)) :=
  (hk.2 y h.ylt (fun e => by have := (h.vne y e).1; omega)).trans h.hy
/-- .. behind one more handle that is told. -/
theorem PlaysIn.told (h : PlaysIn w0 b m y M w st l v hv hs) {hv' : Value} {a g : Int} (hown : w1.ownsRow (y + 1) 29 2 hv' (hs.length + 1) (tcells hs ++ [.int .i64 a, .int .i64 g])) (hg : w.grownBy w1 hv.ownBlock) : PlaysIn w0 b m y M w1 st l v hv' (hs ++ [(a, g)]) := by
  have hyb := h.yb
  have hyl := h.ylt
  have hlt := h.ht.lt
  have hne : ∀ k, k ≤ y → some k ≠ hv.ownBlock := fun k hk e => by have := h.hh k e.symm; omega
  have hR1 := Kd.R_grown h.hr hg (fun k hk e => hk.2 e.symm)
  refine ⟨pw_below_grown h.hb _ h.hb.size hg (fun k e => by have := h.hh k e; have := h.bw; omega), ⟨⟨(hg.block _ (by omega) (hne _ (by omega))).trans h.ht.rows.1, h.ht.rows.2⟩, (hg.block _ (by omega) (hne _ (by omega))).trans h.ht.tab, (hg.block _ hlt (hne _ (by omega))).trans h.ht.var, h.ht.small, h.ht.gens⟩, (hg.block _ hyl (hne _ (Nat.le_refl _))).trans h.hy, ?_, ?_, h.bw, h.yb, fun k hk => (hown.lt k hk).1⟩
  · refine Kd.R_reok rfl hR1 (fun k hk => ⟨(h.vne k hk).1, fun e => ?_⟩)
    rcases hown.2 with ⟨rfl, -⟩ | ⟨g', cap, cur, rfl, -, hh, -⟩
    · cases e
    · cases e
      exact Kd.R_ne hR1 hh (by decide) hk.symm
  · rw [List.length_append, tcells_succ]
    exact hown
/-- .. and the box of the handle that is asked. -/
structure PlayX (w0 : World) (b m y M x : Nat) (ino gen : Int) (w : World) (st : List (Bool × Int × Int)) (l : List S53) (v hv : Value) (hs : List (Int × Int)) : Prop where
  p : PlaysIn w0 b m y M w st l v hv hs
  hx : w.heap[x]? = some (.cells #[.int .i64 ino, .int .i64 gen] 29 (0, 0))
  xy : y < x
  xv : v.ownBlock ≠ some x
  xh : hv.ownBlock ≠ some x
variable {x : Nat} {ino gen : Int}
theorem PlayX.below (h : PlayX w0 b m y M x ino gen w st l v hv hs) (hb : Below w.heap.size w w1) : PlayX w0 b m y M x ino gen w1 st l v hv hs :=
  ⟨h.p.below hb, (hb.block _ (Array.getElem?_eq_some_iff.1 h.hx).1).trans h.hx, h.xy, h.xv, h.xh⟩
theorem PlayX.tab (h : PlayX w0 b m y M x ino gen w st l v hv hs) {m1 : Nat} {st1 : List (Bool × Int × Int)} (hg : w.grownBy w1 (some b)) (ht : TabInt w1 b m1 st1) : PlayX w0 b m1 y M x ino gen w1 st1 l v hv hs :=
  ⟨h.p.tab hg ht, block_of hg h.hx (by have := h.xy; have := h.p.yb; omega), h.xy, h.xv, h.xh⟩
theorem PlayX.stored (h : PlayX w0 b m y M x ino gen w st l v hv hs) {w6 W6 : World} {v' : Value} {l' : List S53}
    (hR : Kd.R k53 53 w6 w0.heap.size (fun k => v.ownBlock = some k ∨ w.heap.size ≤ k) v' l') (hb : Below w0.heap.size w0 w6) (hk : Kept w w6 (fun k => v.ownBlock = some k)) (hB : Below w6.heap.size w6 W6) :
    PlayX w0 b m y M x ino gen ((W6.setCell ⟨y, 0, none⟩ (.int .i64 M)).setCell ⟨y, 1, none⟩ v') st l' v' hv hs := by
  have hxl := (Array.getElem?_eq_some_iff.1 h.hx).1
  have hxy := h.xy
  refine ⟨h.p.stored hR hb hk hB, ?_, h.xy, fun e => ?_, h.xh⟩
  · refine (Below.heap_setCell _ ⟨y, 1, none⟩ v' x (by show x ≠ y; omega)).trans ((Below.heap_setCell _ ⟨y, 0, none⟩ _ x (by show x ≠ y; omega)).trans ?_)
    exact ((hB.block x (Nat.lt_of_lt_of_le hxl hk.1)).trans (hk.2 x hxl h.xv)).trans h.hx
  · rcases hR.1 x e with h1 | h1
    · exact h.xv h1
    · omega
end

end Go.Proofs.Ytbjmgmngomlmfaa.R
