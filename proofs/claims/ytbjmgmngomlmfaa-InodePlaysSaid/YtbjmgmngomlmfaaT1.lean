import Derived.Test.YtbjmgmngomlmfaaTab
import Derived.Outline
import Derived.Shelf.Abstract
import Derived.Deep.LoopGhost
import Derived.Deep.Draws
import Derived.Laws.EntriesVeiled
import Derived.Laws.ResultCell
import Derived.Laws.Rows
import Derived.Deep.QuietTactic
import Derived.Deep.RegionWith
import Derived.BigQuiet
namespace Go.Proofs.Ytbjmgmngomlmfaa.R
open Go.RowKit Go.Proofs.YtbjmgmngomlmfaaW.PrintWords Go.Proofs.YtbjmgmngomlmfaaW.PrintLast Go.Proofs.YtbjmgmngomlmfaaW.PrintMore
attribute [local go_sem] max2_int min2_int max_two min_two max_three min_three max_four min_four   -- for this text's walks alone
set_option linter.unusedVariables false
set_option linter.unusedSimpArgs false
set_option maxHeartbeats 1000000 in
theorem add1_int (b : Bool) (g x : Int) (w : World) : Calls Try.prog 31 #[.agg #[.bool b, .int .i64 g, .int .i64 x]] w fun e w' => e = .returned (.bool (!b)) ∧ Below w.heap.size w w' := by
  have hu := Try.underlying81
  go_enter Try.func31, Try.ntmps31
  go_wp2
  go_ret
  exact ⟨rfl, below_alloc (Below.refl _ _) _⟩
/-- Where the first free place is. -/
def freeAt {α : Type} (st : List (Bool × Int × α)) : Nat := st.findIdx fun p => !p.1
theorem freeAt_hit {α : Type} (st : List (Bool × Int × α)) (k : Nat) (hk : k < st.length) (h : st[k].1 = false) (ha : ∀ j (hj : j < st.length), j < k → st[j].1 = true) : freeAt st = k := by
  unfold freeAt; rw [List.findIdx_eq hk]; exact ⟨by simp [h], fun j hj => by simp [ha j (by omega) hj]⟩
theorem freeAt_miss {α : Type} (st : List (Bool × Int × α)) (ha : ∀ j (hj : j < st.length), st[j].1 = true) : freeAt st = st.length := by
  unfold freeAt; rw [List.findIdx_eq_length]; intro x hx; obtain ⟨j, hj, rfl⟩ := List.mem_iff_getElem.1 hx; simp [ha j hj]
def freeInt {α : Type} (st : List (Bool × Int × α)) : Int := if freeAt st < st.length then (freeAt st : Int) else -1
set_option maxHeartbeats 2000000 in
theorem index_int (cap : Nat) (st : List (Bool × Int × Int)) (g : Nat) (w : World) (hr : Rows3 (Value.int .i64) 81 w g st) : Calls Try.prog 30 #[.slice (some ⟨g, 0, none⟩) st.length cap, .func (.func 31) #[] #[]] w fun e w' => e = .returned (.int .i64 (freeInt st)) ∧ Below w.heap.size w w' := by
  have hlen := hr.2
  have eg : ∀ args w, (callFunc 31 args).run Try.prog w = .ok (.enter 31 args) w := enters_of Try.func31 (by kernel_rfl) rfl
  go_enter Try.func30, Try.ntmps30
  go_wp2
  go_loopg [5, 8] st.length (fun gg _ s8 wr => ∃ kk : Nat, kk ≤ st.length ∧ st.length - kk ≤ gg ∧ s8 = .int .i64 kk ∧ Aside (Below w.heap.size w wr) ∧ Aside (∀ j (hj : j < st.length), j < kk → st[j].1 = true))
  case atStart => exact ⟨0, Nat.zero_le _, by omega, rfl, Below.refl _ w, fun j _ hj => absurd hj (Nat.not_lt_zero _)⟩
  case round =>
    obtain ⟨kk, hkk, hg, rfl, BW, A⟩ := hrel
    by_cases hlt : kk < st.length
    · have hltz : (kk : Int) < (st.length : Int) := by omega
      have hc := (hr.below BW.out).at_ kk hlt
      have hcall := add1_int st[kk].1 st[kk].2.1 st[kk].2.2
      obtain ⟨c0, c1, c2⟩ := hc
      cases hq : st[kk].1 with
      | false =>
        rw [hq] at hcall c0
        go_wp2_with (go_at_fn 31; refine (hcall _).mono ?_; rintro e w' ⟨rfl, hb'⟩)
        go_ret
        refine ⟨?_, BW.out.trans (hb'.mono BW.out.size)⟩
        unfold freeInt
        rw [freeAt_hit st kk hlt hq A.out, if_pos hlt]
        rfl
      | true =>
        rw [hq] at hcall c0
        go_wp2_with (go_at_fn 31; refine (hcall _).mono ?_; rintro e w' ⟨rfl, hb'⟩)
        go_roundg (st.length - (kk + 1))
        case measure => omega
        case rel =>
          refine ⟨kk + 1, by omega, by omega, by go_num, BW.out.trans (hb'.mono BW.out.size), (show Aside _ from fun j hj hjk => ?_)⟩
          by_cases e : j = kk
          · subst e
            exact hq
          · exact A.out j hj (by omega)
    · have hltz : ¬ (kk : Int) < (st.length : Int) := by omega
      have : kk = st.length := by omega
      subst this
      go_wp2
      go_ret
      refine ⟨?_, BW.out⟩
      unfold freeInt
      rw [freeAt_miss st (fun j hj => A.out j hj hj), if_neg (Nat.lt_irrefl _)]
      rfl

end Go.Proofs.Ytbjmgmngomlmfaa.R
