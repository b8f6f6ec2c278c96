import Derived.Test.YtbjmgmngomlmfaaT8
import Derived.Outline
import Derived.Shelf.Abstract
import Derived.Deep.LoopGhost
import Derived.Deep.Draws
import Derived.Laws.EntriesVeiled
import Derived.Laws.ResultCell
import Derived.Laws.Rows
import Derived.Deep.QuietTactic
import Derived.Deep.RegionWith
import Derived.BigQuiet
namespace Go.Proofs.Ytbjmgmngomlmfaa.R
open Go.RowKit Go.Proofs.YtbjmgmngomlmfaaW.PrintWords Go.Proofs.YtbjmgmngomlmfaaW.PrintLast Go.Proofs.YtbjmgmngomlmfaaW.PrintMore
attribute [local go_sem] max2_int min2_int max_two min_two max_three min_three max_four min_four   -- for this text's walks alone
set_option linter.unusedVariables false
set_option linter.unusedSimpArgs false
section
variable {α : Type}
theorem eachF_count : ∀ (i : Nat) (st : List (Bool × Int × α)) (s : Nat), eachF (fun s _ _ _ => s + 1) i st s = s + st.countP (·.1)
  | _, [], s => by simp [eachF]
  | i, p :: l, s => by
    rw [eachF, eachF_count]
    by_cases h : p.1
    · simp [h]; omega
    · simp [h]
end
set_option maxHeartbeats 2000000 in
theorem lenc_int (v : Nat) (s : Nat) (ino gen x : Int) (w : World) (hs : s ≤ 1000) (hv : w.heap[v]? = some (.cells #[.int .i64 s] 3 (0, 0))) : Calls Try.prog 37 #[.agg #[.int .i64 ino, .int .i64 gen], .int .i64 x, .pointer (some ⟨v, 0, none⟩)] w fun e w' => e = .returned (.tuple #[]) ∧ w'.heap[v]? = some (.cells #[.int .i64 ((s + 1 : Nat) : Int)] 3 (0, 0)) ∧ ∀ B, B ≤ v → B ≤ w.heap.size → Below B w w' := by
  have hlt : v < w.heap.size := (Array.getElem?_eq_some_iff.1 hv).1
  have c0 := blk_cell hv 0
  have z0 := blk_frozen hv 0
  have hs' : (s : Int) ≤ 1000 := by omega
  go_enter Try.func37, Try.ntmps37
  go_wp2
  go_end0
  refine ⟨rfl, ?_, fun B h1 h2 => ?_⟩
  · rw [heap_push, if_neg (by simp [World.setCell]; omega), blk_set hv]
    simp
  · have hs1 : Below B w (w.setCell ⟨v, 0, none⟩ (.int .i64 (s + 1))) := (Below.refl B w).setCell h1 _
    exact hs1.alloc (by simpa [World.setCell] using h2) _
set_option maxHeartbeats 2000000 in
theorem len_int (b m : Nat) (st : List (Bool × Int × Int)) (w : World) (hT : TabInt w b m st) : Calls Try.prog 21 #[.pointer (some ⟨b + 1, 0, none⟩)] w fun e w' => e = .returned (.int .i64 ((st.countP (·.1) : Nat) : Int)) ∧ Below w.heap.size w w' := by
  have hlt := hT.lt
  have hsm := hT.small
  have egg : ∀ args w, (callFunc 37 args).run Try.prog w = .ok (.enter 37 args) w := enters_of Try.func37 (by kernel_rfl) rfl
  have hb0 : Below w.heap.size w (w.alloc (.cells #[.int .i64 0] 3)) := below_alloc (Below.refl _ _) _
  have hcall := each_int (fun k (s : Nat) W => W.heap[w.heap.size]? = some (.cells #[.int .i64 s] 3 (0, 0)) ∧ s ≤ k) (fun s _ _ _ => s + 1) 37 #[.pointer (some ⟨w.heap.size, 0, none⟩)] b m w.heap.size st 0 (w.alloc (.cells #[.int .i64 0] 3)) (hT.below hb0) hlt (by simp) egg
    (fun k s W h => ⟨h.1, by omega⟩)
    (fun k s W W' h hb => ⟨(hb.block _ (Array.getElem?_eq_some_iff.1 h.1).1).trans h.1, h.2⟩)
    (fun k s W ino gen x hk h hb => (lenc_int w.heap.size s ino gen x W (by omega) h.1).mono fun e w' ⟨h1, h2, h3⟩ => ⟨h1, ⟨h2, by omega⟩, hb.trans (h3 _ (Nat.le_refl _) (Nat.le_of_lt (Array.getElem?_eq_some_iff.1 h.1).1))⟩)
    ⟨heap_alloc_new _ _, Nat.le_refl _⟩
  rw [eachF_count, Nat.zero_add] at hcall
  generalize st.countP (·.1) = n at hcall ⊢
  clear hsm
  go_enter Try.func21, Try.ntmps21
  go_wp2_with (go_at_call 35; refine hcall.mono ?_; rintro e w' ⟨rfl, ⟨hn, hk⟩, hb'⟩; have q0 := blk_cell hn 0)
  go_ret
  exact ⟨rfl, below_weaken hb0 (Nat.le_refl _) hb'⟩

end Go.Proofs.Ytbjmgmngomlmfaa.R
