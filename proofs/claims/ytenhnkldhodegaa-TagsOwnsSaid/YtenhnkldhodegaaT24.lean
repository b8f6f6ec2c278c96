import Derived.Test.YtenhnkldhodegaaT23
import Derived.Outline
import Derived.Shelf.Abstract
import Derived.Deep.LoopGhost
import Derived.Deep.Draws
import Derived.Laws.EntriesVeiled
import Derived.Laws.ResultCell
import Derived.Laws.Rows
import Derived.Deep.QuietTactic
import Derived.Deep.RegionWith
import Derived.BigQuiet
import Derived.Deep.MidRow
import Derived.Laws.Tables
import Derived.Deep.WholeRow
import Derived.Lib.SliceRun
import Derived.LaidEql
import Derived.RowKitTokens
import Derived.Stop.Asserts
import Derived.Laws.CopyRow
import Derived.Lib.BufferRead
import Derived.Lib.SlBytesRow
import Derived.Test.YtenhnkldhodegaaGd0
import Derived.Test.YtenhnkldhodegaaGd1
namespace Go.Proofs.Ytenhnkldhodegaa.R
open Go.RowKit Go.Proofs.YtenhnkldhodegaaW.PrintWords Go.Proofs.YtenhnkldhodegaaW.PrintLast Go.Proofs.YtenhnkldhodegaaW.PrintMore
attribute [local go_sem] max2_int min2_int max_two min_two max_three min_three max_four min_four   -- for this text's walks alone
set_option linter.unusedVariables false
set_option linter.unusedSimpArgs false
structure OwnsIn (w0 : World) (b al ch : Nat) (W : World) (AR XR YR : List Value) (A2 : Option Addr) (c2 : Nat) (rn : List ByteArray) (D2 : Option Addr) (d2 : Nat) (rb : List Int) : Prop where
  hb : Below w0.heap.size w0 W
  ht : TagsIn W b 2 [YR]
  ha : W.heap[al]? = some (.cells AR.toArray 32 (0, 0))
  hx : W.heap[ch]? = some (.cells XR.toArray 32 (0, 0))
  hn : Kd.R Kd.string 9 W w0.heap.size (fun k => ch < k) (.slice A2 rn.length c2) rn
  hd : Kd.R (Kd.int .u8) 5 W w0.heap.size (fun k => ch < k) (.slice D2 rb.length d2) rb
  ab : al < b
  bc : b < ch
  wa : w0.heap.size ≤ al
section
variable {w0 W W1 : World} {b al ch : Nat} {AR XR YR : List Value} {A2 : Option Addr} {c2 : Nat} {rn : List ByteArray} {D2 : Option Addr} {d2 : Nat} {rb : List Int}
theorem OwnsIn.store (h : OwnsIn w0 b al ch W AR XR YR A2 c2 rn D2 d2 rb) {g : Nat} (hg1 : b < g) (hg2 : g < ch) (o : Nat) (u : Value) : OwnsIn w0 b al ch (W.setCell ⟨g, o, none⟩ u) AR XR YR A2 c2 rn D2 d2 rb := by
  have h1 := h.ab
  have h2 := h.wa
  exact ⟨below_set h.hb (by omega), h.ht.grown (grown_setCell W g o u) (fun e => by cases e; omega), blk_far h.ha (p := ⟨g, o, none⟩) (by show al ≠ g; omega) u, blk_far h.hx (p := ⟨g, o, none⟩) (by show ch ≠ g; omega) u, Kd.R_far h.hn (p := ⟨g, o, none⟩) (fun k hk => by show k ≠ g; omega) u, Kd.R_far h.hd (p := ⟨g, o, none⟩) (fun k hk => by show k ≠ g; omega) u, h.ab, h.bc, h.wa⟩
end
theorem OwnsIn.below {w0 W W1 : World} {b al ch : Nat} {AR XR YR : List Value} {A2 : Option Addr} {c2 : Nat} {rn : List ByteArray} {D2 : Option Addr} {d2 : Nat} {rb : List Int} (h : OwnsIn w0 b al ch W AR XR YR A2 c2 rn D2 d2 rb) (hb : Below W.heap.size W W1) : OwnsIn w0 b al ch W1 AR XR YR A2 c2 rn D2 d2 rb :=
  ⟨below_step h.hb hb, h.ht.below hb, (hb.block _ (Array.getElem?_eq_some_iff.1 h.ha).1).trans h.ha, (hb.block _ (Array.getElem?_eq_some_iff.1 h.hx).1).trans h.hx, Kd.R_below h.hn hb, Kd.R_below h.hd hb, h.ab, h.bc, h.wa⟩
theorem first_of {α : Type} {d : Kd α} {e base : Nat} {ok : Nat → Prop} {w : World} {A : Option Addr} {n c : Nat} {xs : List α} (h : d.R e w base ok (.slice A n c) xs) (hn : 0 < xs.length) (hat : ∀ ad, A = some ad → ∃ v, w.cell? (ad.add 0) = some v) : ∃ g cells, A = some ⟨g, 0, none⟩ ∧ w.heap[g]? = some (.cells cells e (0, 0)) ∧ base ≤ g ∧ g < w.heap.size ∧ ∃ v, cells[0]? = some v := by
  obtain ⟨g, cp, e1, hb, hl, cells, hc⟩ := Kd.R_form h hn
  cases e1
  obtain ⟨v, hv⟩ := hat _ rfl
  rw [add_plain, cell_of_row _ _ _ _ _ _ hc] at hv
  exact ⟨g, cells, rfl, hc, hb, hl, v, hv⟩

end Go.Proofs.Ytenhnkldhodegaa.R
