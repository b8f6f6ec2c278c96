import Derived.Test.YtbjmgmngomlmfaaT5
import Derived.Outline
import Derived.Shelf.Abstract
import Derived.Deep.LoopGhost
import Derived.Deep.Draws
import Derived.Laws.EntriesVeiled
import Derived.Laws.ResultCell
import Derived.Laws.Rows
import Derived.Deep.QuietTactic
import Derived.Deep.RegionWith
import Derived.BigQuiet
namespace Go.Proofs.Ytbjmgmngomlmfaa.R
open Go.RowKit Go.Proofs.YtbjmgmngomlmfaaW.PrintWords Go.Proofs.YtbjmgmngomlmfaaW.PrintLast Go.Proofs.YtbjmgmngomlmfaaW.PrintMore
attribute [local go_sem] max2_int min2_int max_two min_two max_three min_three max_four min_four   -- for this text's walks alone
set_option linter.unusedVariables false
set_option linter.unusedSimpArgs false
section
variable {α S : Type}
/-- What a call for each that is there makes of a state. -/
def eachF (step : S → Int → Int → α → S) : Nat → List (Bool × Int × α) → S → S
  | _, [], s => s
  | i, p :: l, s => eachF step (i + 1) l (if p.1 then step s (i + 1) p.2.1 p.2.2 else s)
theorem eachF_drop (step : S → Int → Int → α → S) (st : List (Bool × Int × α)) (k : Nat) (h : k < st.length) (i : Nat) (s : S) : eachF step i (st.drop k) s = eachF step (i + 1) (st.drop (k + 1)) (if st[k].1 then step s (i + 1) st[k].2.1 st[k].2.2 else s) := by
  rw [List.drop_eq_getElem_cons h]; rfl
theorem TabIn.base {enc : α → Value} {te tt tp fn : Nat} {w w1 : World} {b m B : Nat} {st : List (Bool × Int × α)} (h : TabIn enc te tt tp fn w b m st) (hB : b + 2 < B) (hb : Below B w w1) : TabIn enc te tt tp fn w1 b m st :=
  ⟨⟨(hb.block _ (by omega)).trans h.rows.1, h.rows.2⟩, (hb.block _ (by omega)).trans h.tab, (hb.block _ hB).trans h.var, h.small, h.gens⟩
end
theorem below_weaken2 {B : Nat} {w w1 w2 : World} (hB : B ≤ w.heap.size) (h : Below B w w1) (k : Below w1.heap.size w1 w2) : Below B w w2 := below_then h (Nat.le_trans hB h.size) k
set_option maxHeartbeats 4000000 in
theorem each_int {S : Type} (Rel : Nat → S → World → Prop) (step : S → Int → Int → Int → S) (g : Nat) (lb : Array Value) (b m B : Nat) (st : List (Bool × Int × Int)) (s0 : S) (w : World)
    (hT : TabInt w b m st) (hB : b + 2 < B) (hBw : B ≤ w.heap.size) (egg : ∀ args w, (callFunc g args).run Try.prog w = .ok (.enter g args) w)
    (hmono : ∀ k s W, Rel k s W → Rel (k + 1) s W) (hstab : ∀ k s W W', Rel k s W → Below W.heap.size W W' → Rel k s W')
    (hstep : ∀ k s W ino gen x, k < st.length → Rel k s W → Below B w W → Calls Try.prog g (#[.agg #[.int .i64 ino, .int .i64 gen], .int .i64 x] ++ lb) W fun e w' => e = .returned (.tuple #[]) ∧ Rel (k + 1) (step s ino gen x) w' ∧ Below B w w')
    (h0 : Rel 0 s0 w) :
    Calls Try.prog 35 #[.pointer (some ⟨b + 1, 0, none⟩), .func (.func g) #[] lb] w fun e w' => e = .returned (.tuple #[]) ∧ Rel st.length (eachF step 0 st s0) w' ∧ Below B w w' := by
  have hs := hT.slice
  have hsm := hT.small
  have eg : ∀ args w, (callFunc 29 args).run Try.prog w = .ok (.enter 29 args) w := enters_of Try.func29 (by kernel_rfl) rfl
  go_enter Try.func35, Try.ntmps35
  go_wp2
  go_loopg [11] st.length (fun gg s11 wr => ∃ kk : Nat, kk ≤ st.length ∧ st.length - kk ≤ gg ∧ s11 = .int .i64 kk ∧ Aside (Below B w wr) ∧ Aside (∃ s, Rel kk s wr ∧ eachF step 0 st s0 = eachF step kk (st.drop kk) s))
  case atStart => exact ⟨0, Nat.zero_le _, by omega, rfl, Below.refl _ w, s0, h0, rfl⟩
  case round =>
    obtain ⟨kk, hkk, hg, rfl, BW, A⟩ := hrel
    by_cases hlt : kk < st.length
    · have hltz : (kk : Int) < (st.length : Int) := by omega
      have hTr := hT.base hB BW.out
      obtain ⟨c0, c1, c2⟩ := hTr.rows.at_ kk hlt
      have hsr := hTr.slice
      have hfr := hTr.fnc
      have hltr := hTr.lt
      have hl1 : b + 1 < wr.heap.size := by omega
      have hl0 : b < wr.heap.size := by omega
      cases hq : st[kk].1 with
      | false =>
        rw [hq] at c0
        go_wp2
        go_roundg (st.length - (kk + 1))
        case measure => omega
        case rel =>
          obtain ⟨s, hs0, hs1⟩ := A.out
          have hbl : Below wr.heap.size wr (wr.alloc (.cells #[.bool false, .int .i64 st[kk].2.1, .int .i64 st[kk].2.2] 81)) := below_alloc (Below.refl _ _) _
          refine ⟨kk + 1, by omega, by omega, by go_num, below_weaken2 hBw BW.out hbl, ⟨s, hmono _ _ _ (hstab _ _ _ _ hs0 hbl), ?_⟩⟩
          rw [hs1, eachF_drop _ _ _ hlt, hq]
          rfl
      | true =>
        rw [hq] at c0
        go_wp2
        have hbl : Below wr.heap.size wr (wr.alloc (.cells #[.bool true, .int .i64 st[kk].2.1, .int .i64 st[kk].2.2] 81)).drew := below_drew (below_alloc (Below.refl _ _) _)
        have hnew : (wr.alloc (.cells #[.bool true, .int .i64 st[kk].2.1, .int .i64 st[kk].2.2] 81)).drew.heap[wr.heap.size]? = some (.cells #[.bool true, .int .i64 st[kk].2.1, .int .i64 st[kk].2.2] 81) := heap_alloc_new _ _
        have hh := hand_int b m st kk _ (hTr.below hbl) hlt
        obtain ⟨s, hs0, hs1⟩ := A.out
        have HS0 : Aside (Rel kk s wr) := hs0
        have HS1 : Aside (eachF step 0 st s0 = eachF step kk (st.drop kk) s) := hs1
        have HNEW : Aside ((wr.alloc (.cells #[.bool true, .int .i64 st[kk].2.1, .int .i64 st[kk].2.2] 81)).drew.heap[wr.heap.size]? = some (.cells #[.bool true, .int .i64 st[kk].2.1, .int .i64 st[kk].2.2] 81)) := hnew
        clear hs0 hs1 hnew
        go_region_with (first | (go_at_fn 29; refine hh.mono ?_; rintro e w' ⟨rfl, hb'⟩; have HQ2 := (blk_cell ((hb'.block _ (Array.getElem?_eq_some_iff.1 HNEW.out).1).trans HNEW.out) 2)) | (go_at_fn g; refine (hstep kk s _ _ _ _ hlt (hstab _ _ _ _ HS0.out (below_step hbl hb')) (below_weaken2 hBw BW.out (below_step hbl hb'))).mono ?_; rintro e w2 ⟨rfl, hr2, hb2⟩))
        all_goals
          go_wp2
          go_roundg (st.length - (kk + 1))
          case measure => omega
          case rel =>
            refine ⟨kk + 1, by omega, by omega, by go_num, hb2, ⟨_, hr2, ?_⟩⟩
            rw [HS1.out, eachF_drop _ _ _ hlt, hq]
            rfl
    · have hltz : ¬ (kk : Int) < (st.length : Int) := by omega
      have : kk = st.length := by omega
      subst this
      go_wp2
      obtain ⟨s, hs0, hs1⟩ := A.out
      go_end0
      rw [hs1, List.drop_length]
      exact ⟨rfl, hs0, BW.out⟩

end Go.Proofs.Ytbjmgmngomlmfaa.R
