import Derived.Test.YtenhnkldhodegaaT23
import Derived.Outline
import Derived.Shelf.Abstract
import Derived.Deep.LoopGhost
import Derived.Deep.Draws
import Derived.Laws.EntriesVeiled
import Derived.Laws.ResultCell
import Derived.Laws.Rows
import Derived.Deep.QuietTactic
import Derived.Deep.RegionWith
import Derived.BigQuiet
import Derived.Deep.MidRow
import Derived.Laws.Tables
import Derived.Deep.WholeRow
import Derived.Lib.SliceRun
import Derived.LaidEql
import Derived.RowKitTokens
import Derived.Stop.Asserts
import Derived.Laws.CopyRow
import Derived.Lib.BufferRead
import Derived.Lib.SlBytesRow
import Derived.Test.YtenhnkldhodegaaGd0
import Derived.Test.YtenhnkldhodegaaGd1
import Derived.Test.YtenhnkldhodegaaT30
namespace Go.Proofs.Ytenhnkldhodegaa.R
open Go.RowKit Go.Proofs.YtenhnkldhodegaaW.PrintWords Go.Proofs.YtenhnkldhodegaaW.PrintLast Go.Proofs.YtenhnkldhodegaaW.PrintMore
attribute [local go_sem] max2_int min2_int max_two min_two max_three min_three max_four min_four   -- for this text's walks alone
set_option linter.unusedVariables false
set_option linter.unusedSimpArgs false
/-- All that holds of a world in TagsOnce: the tags' state (rows css, requests ps), the law's own row (requests os). -/
structure OnceIn (w0 : World) (b : Nat) (m : Int) (V : Value) (W : World) (css : List (List Value)) (ps os : List S32) : Prop where
  hb : Below w0.heap.size w0 W
  ht : TagsIn W b m css
  wb : w0.heap.size ≤ b
  hl : css.length = ps.length
  hc : ∀ (j : Nat) (c : List Value) (q : S32), css[j]? = some c → ps[j]? = some q → k32.M W w0.heap.size (fun _ => True) q c
  ho : Kd.R k32 32 W w0.heap.size (fun _ => True) V os
theorem k32_types {q : Nat} (h : q ∈ k32.E) : q = 9 ∨ q = 5 := by
  simp [k32, Kd.iso, Kd.pair, Kd.slice, Kd.int, Kd.string, Kd.scalar] at h
  exact h
theorem ask_move {W W1 : World} {base : Nat} {q : S32} {c : List Value} (h : k32.M W base (fun _ => True) q c) (hm : ∀ (k : Nat) (cells : Array Value) (t : Nat), (t = 9 ∨ t = 5) → k < W.heap.size → W.heap[k]? = some (.cells cells t (0, 0)) → W1.heap[k]? = W.heap[k]?) : k32.M W1 base (fun _ => True) q c :=
  k32.M_mono (fun _ _ => trivial) (k32.M_move (fun k hk => by
    obtain ⟨-, -, hlt, t, ht, cells, hc⟩ := hk
    exact hm k cells t (k32_types ht) hlt hc) (k32.M_bound h))
section
variable {w0 W W1 W2 : World} {b : Nat} {m : Int} {V V1 : Value} {css : List (List Value)} {ps os : List S32} {q : S32} {c : List Value} {k : Nat}
theorem OnceIn.step (h : OnceIn w0 b m V W css ps os) (hb : Below w0.heap.size w0 W1) (hm : ∀ (k : Nat) (cells : Array Value) (t : Nat), (t = 9 ∨ t = 5 ∨ t = 32 ∨ t = 60) → k < W.heap.size → W.heap[k]? = some (.cells cells t (0, 0)) → W1.heap[k]? = W.heap[k]?) : OnceIn w0 b m V W1 css ps os :=
  ⟨hb, ⟨(hm b _ _ (.inr (.inr (.inr rfl))) h.ht.lt h.ht.row).trans h.ht.row, h.ht.le8, h.ht.wf⟩, h.wb, h.hl, fun j c q hj hq => ask_move (h.hc j c q hj hq) (fun k cells t ht hlt hc => hm k cells t (by rcases ht with h | h <;> simp [h]) hlt hc),
    Kd.R_mono (Kd.R_move (Kd.R_bound h.ho) (fun k hk => by
      obtain ⟨-, -, hlt, t, ht, cells, hc⟩ := hk
      refine hm k cells t ?_ hlt hc
      rcases List.mem_cons.1 ht with h | h
      · exact .inr (.inr (.inl h))
      · rcases k32_types h with h | h <;> simp [h])) (fun _ _ => trivial)⟩
theorem OnceIn.below (h : OnceIn w0 b m V W css ps os) (hb : Below W.heap.size W W1) : OnceIn w0 b m V W1 css ps os :=
  h.step (below_step h.hb hb) (fun k _ _ _ hlt _ => hb.block k hlt)
theorem OnceIn.seen (h : OnceIn w0 b m V W css ps os) {g : Nat} {cs : Array Value} (hg : W.heap[g]? = some (.cells cs 4 (0, 0))) (hw : w0.heap.size ≤ g) (o : Nat) (u : Value) : OnceIn w0 b m V (W.setCell ⟨g, o, none⟩ u) css ps os :=
  h.step (below_set h.hb hw) (fun k cells t ht hlt hc => Below.heap_setCell W ⟨g, o, none⟩ u k (by
    intro e
    rw [e] at hc
    rw [show (⟨g, o, none⟩ : Addr).block = g from rfl, hg] at hc
    simp at hc
    rcases ht with h | h | h | h <;> simp [h] at hc))
theorem OnceIn.put (h : OnceIn w0 b m V W css ps os) (hb : Below W.heap.size W W1) (hg : W1.grownBy W2 (some b)) (hT : TagsIn W2 b m (css ++ [c])) (hM : k32.M W1 w0.heap.size (fun _ => True) q c) : OnceIn w0 b m V W2 (css ++ [c]) (ps ++ [q]) os := by
  have h1 := h.below hb
  have hne : ∀ (k : Nat) (cells : Array Value) (t : Nat), (t = 9 ∨ t = 5 ∨ t = 32) → k < W1.heap.size → W1.heap[k]? = some (.cells cells t (0, 0)) → W2.heap[k]? = W1.heap[k]? := fun k cells t ht hlt hc => hg.block k hlt (by
    intro e
    cases e
    rw [h1.ht.row] at hc
    simp at hc
    rcases ht with h | h | h <;> simp [h] at hc)
  refine ⟨below_of h1.hb h.wb hg, hT, h.wb, by simp [h.hl], fun j c' q' hj hq => ?_, ?_⟩
  · have hl := h.hl
    by_cases hjl : j < css.length
    · rw [List.getElem?_append_left hjl] at hj
      rw [List.getElem?_append_left (by omega)] at hq
      exact ask_move (h1.hc j c' q' hj hq) (fun k cells t ht hlt hc => hne k cells t (by rcases ht with h | h <;> simp [h]) hlt hc)
    · rw [List.getElem?_append_right (by omega)] at hj hq
      have h0 : j - css.length = 0 := by
        have := (List.getElem?_eq_some_iff.1 hj).1
        simp at this
        omega
      rw [h0] at hj
      rw [← hl, h0] at hq
      simp at hj hq
      subst hj hq
      exact ask_move hM (fun k cells t ht hlt hc => hne k cells t (by rcases ht with h | h <;> simp [h]) hlt hc)
  · exact Kd.R_mono (Kd.R_move (Kd.R_bound h1.ho) (fun k hk => by
      obtain ⟨-, -, hlt, t, ht, cells, hc⟩ := hk
      refine hne k cells t ?_ hlt hc
      rcases List.mem_cons.1 ht with h | h
      · exact .inr (.inr h)
      · rcases k32_types h with h | h <;> simp [h])) (fun _ _ => trivial)
theorem get_erase {α : Type} (l : List α) (k j : Nat) : (l.eraseIdx k)[j]? = l[if j < k then j else j + 1]? := by
  rw [List.getElem?_eraseIdx]
  split <;> rfl
theorem OnceIn.pick (h : OnceIn w0 b m V W css ps os) (hg : W.grownBy W1 (some b)) (hT : TagsIn W1 b m (css.eraseIdx k)) : OnceIn w0 b m V W1 (css.eraseIdx k) (ps.eraseIdx k) os := by
  have hne : ∀ (k : Nat) (cells : Array Value) (t : Nat), (t = 9 ∨ t = 5 ∨ t = 32) → k < W.heap.size → W.heap[k]? = some (.cells cells t (0, 0)) → W1.heap[k]? = W.heap[k]? := fun k cells t ht hlt hc => hg.block k hlt (by
    intro e
    cases e
    rw [h.ht.row] at hc
    simp at hc
    rcases ht with h | h | h <;> simp [h] at hc)
  refine ⟨below_of h.hb h.wb hg, hT, h.wb, by simp only [List.length_eraseIdx, h.hl], fun j c' q' hj hq => ?_, ?_⟩
  · rw [get_erase] at hj hq
    exact ask_move (h.hc _ c' q' hj hq) (fun k cells t ht hlt hc => hne k cells t (by rcases ht with h | h <;> simp [h]) hlt hc)
  · exact Kd.R_mono (Kd.R_move (Kd.R_bound h.ho) (fun k hk => by
      obtain ⟨-, -, hlt, t, ht, cells, hc⟩ := hk
      refine hne k cells t ?_ hlt hc
      rcases List.mem_cons.1 ht with h | h
      · exact .inr (.inr h)
      · rcases k32_types h with h | h <;> simp [h])) (fun _ _ => trivial)
/-- Appended to the law's own row. -/
theorem OnceIn.app (h : OnceIn w0 b m V W css ps os) (hR : Kd.R k32 32 W1 w0.heap.size (fun _ => True) V1 (os ++ [q])) (hb : Below w0.heap.size w0 W1) (hg : W.grownBy W1 V.ownBlock) : OnceIn w0 b m V1 W1 css ps (os ++ [q]) := by
  have hty := (Kd.R_own h.ho)
  obtain ⟨inner, hty⟩ := hty
  have hne : ∀ (k : Nat) (cells : Array Value) (t : Nat), (t = 9 ∨ t = 5 ∨ t = 60) → k < W.heap.size → W.heap[k]? = some (.cells cells t (0, 0)) → W1.heap[k]? = W.heap[k]? := fun k cells t ht hlt hc => hg.block k hlt (by
    intro e
    obtain ⟨cs, hcs⟩ := own_typed hty k e.symm
    rw [hcs] at hc
    simp at hc
    rcases ht with h | h | h <;> simp [h] at hc)
  exact ⟨hb, ⟨(hne b _ _ (.inr (.inr rfl)) h.ht.lt h.ht.row).trans h.ht.row, h.ht.le8, h.ht.wf⟩, h.wb, h.hl, fun j c q hj hq => ask_move (h.hc j c q hj hq) (fun k cells t ht hlt hc => hne k cells t (by rcases ht with h | h <;> simp [h]) hlt hc), hR⟩
theorem OnceIn.tag (h : OnceIn w0 b m V W css ps os) (j : Nat) (hj : j < css.length) (hp : j < ps.length) : tagOf css[j] = (ps[j]).f1 := by
  have := h.hc j _ _ (List.getElem?_eq_getElem hj) (List.getElem?_eq_getElem hp)
  obtain ⟨v11, v13, e, -, -⟩ := k32_openM this
  rw [e]
  rfl
end
/-- What is left of the requests: each waits once, as it was put, and is not seen yet. -/
structure LeftOf (ps os : List S32) (sn : List Bool) : Prop where
  each : ∀ q ∈ ps, ∃ t : Nat, q.f1 = t ∧ os[t]? = some q ∧ sn[t]? = some false
  once : ∀ (i j : Nat) (p q : S32), ps[i]? = some p → ps[j]? = some q → p.f1 = q.f1 → i = j
theorem LeftOf.start (os : List S32) (h : ∀ (j : Nat) (q : S32), os[j]? = some q → q.f1 = j) : LeftOf os os (List.replicate os.length false) := by
  refine ⟨fun q hq => ?_, ?_⟩
  · obtain ⟨j, hj, e⟩ := List.mem_iff_getElem.1 hq
    exact ⟨j, h j q (by rw [← e]; exact List.getElem?_eq_getElem hj), by rw [← e]; exact List.getElem?_eq_getElem hj, by rw [List.getElem?_replicate, if_pos hj]⟩
  · intro i j p q hi hj e
    have h1 := h i p hi
    have h2 := h j q hj
    omega
theorem mem_erase_ne {ps os : List S32} {sn : List Bool} (h : LeftOf ps os sn) {k : Nat} (hk : k < ps.length) {q : S32} (hq : q ∈ ps.eraseIdx k) : q ∈ ps ∧ q.f1 ≠ ps[k].f1 := by
  obtain ⟨j, hj, e⟩ := List.mem_iff_getElem.1 hq
  have hj' : (ps.eraseIdx k)[j]? = some q := by rw [← e]; exact List.getElem?_eq_getElem hj
  rw [get_erase] at hj'
  refine ⟨List.mem_of_getElem? hj', fun h2 => ?_⟩
  have := h.once _ k q ps[k] hj' (List.getElem?_eq_getElem hk) h2
  split at this <;> omega
theorem LeftOf.next {ps os : List S32} {sn : List Bool} (h : LeftOf ps os sn) {k t : Nat} (hk : k < ps.length) (ht : ps[k].f1 = t) : LeftOf (ps.eraseIdx k) os (sn.set t true) := by
  refine ⟨fun q hq => ?_, ?_⟩
  · obtain ⟨hm, hne⟩ := mem_erase_ne h hk hq
    obtain ⟨t', e1, e2, e3⟩ := h.each q hm
    refine ⟨t', e1, e2, ?_⟩
    rw [List.getElem?_set, if_neg (by intro e; subst e; rw [e1, ht] at hne; exact hne rfl)]
    exact e3
  · intro i j p q hi hj e
    rw [get_erase] at hi hj
    have := h.once _ _ p q hi hj e
    split at this <;> split at this <;> omega
theorem OnceIn.gone {w0 W : World} {b : Nat} {m : Int} {V : Value} {css : List (List Value)} {os qs : List S32} {t : Int} (h : OnceIn w0 b m V W css qs os) (hq : ∀ q ∈ qs, q.f1 ≠ t) : ¬ findN css t < css.length := by
  rw [findN_miss]
  · exact Nat.lt_irrefl _
  · intro j hj
    rw [h.tag j hj (by rw [← h.hl]; exact hj)]
    exact hq _ (List.getElem_mem _)

end Go.Proofs.Ytenhnkldhodegaa.R
