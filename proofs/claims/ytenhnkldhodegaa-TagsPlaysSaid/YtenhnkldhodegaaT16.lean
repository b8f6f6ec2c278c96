import Derived.Test.YtenhnkldhodegaaT15
import Derived.Outline
import Derived.Shelf.Abstract
import Derived.Deep.LoopGhost
import Derived.Deep.Draws
import Derived.Laws.EntriesVeiled
import Derived.Laws.ResultCell
import Derived.Laws.Rows
import Derived.Deep.QuietTactic
import Derived.Deep.RegionWith
import Derived.BigQuiet
import Derived.Deep.MidRow
import Derived.Laws.Tables
import Derived.Deep.WholeRow
import Derived.Lib.SliceRun
import Derived.LaidEql
import Derived.RowKitTokens
import Derived.Stop.Asserts
import Derived.Laws.CopyRow
namespace Go.Proofs.Ytenhnkldhodegaa.R
open Go.RowKit Go.Proofs.YtenhnkldhodegaaW.PrintWords Go.Proofs.YtenhnkldhodegaaW.PrintLast Go.Proofs.YtenhnkldhodegaaW.PrintMore
attribute [local go_sem] max2_int min2_int max_two min_two max_three min_three max_four min_four   -- for this text's walks alone
set_option linter.unusedVariables false
set_option linter.unusedSimpArgs false
/-! Clones of names and of bytes: rows of the call's own. -/
set_option maxHeartbeats 2000000 in
set_option maxRecDepth 100000 in
theorem clone_strs (A : Option Addr) (c : Nat) (l : List ByteArray) (w : World) (hC : Kd.C Kd.string w A l.length l) (hn : l.length ≤ 1000) : Calls Try.prog 34 #[.slice A l.length c] w fun e w' => ∃ v, e = .returned v ∧ Kd.R Kd.string 9 w' w.heap.size (fun _ => True) v l ∧ Below w.heap.size w w' := by
  cases A with
  | none =>
    have hl : l = [] := by
      cases l with
      | nil => rfl
      | cons x l =>
        obtain ⟨ad, e, -⟩ := Kd.at_string hC 0 (Int.le_refl 0) (by simp)
        cases e
    subst hl
    refine (clone_strs_nil _ _ w).mono ?_
    rintro e w' ⟨rfl, rfl⟩
    exact ⟨_, rfl, Kd.R_nil _ _ _ _ _, Below.refl _ _⟩
  | some a =>
    have hc : ∀ j u, (l.map Value.string)[j]? = some u → w.cell? (a.add j) = some u := by
      intro j u hj
      have hjl : j < l.length := by have := (List.getElem?_eq_some_iff.1 hj).1; simpa using this
      obtain ⟨ad, e, h⟩ := Kd.at_string hC j (by omega) (by omega)
      cases e
      rw [Int.toNat_natCast] at h
      rw [h, ← hj]
      simp [rdOf, hjl]
    have HC := Aside0.mk hc
    clear hc hC
    obtain ⟨i0, hi0, hz0, hz1, hz2⟩ := info_parts info9
    have q22 : ∀ (w : World) (a : Option Addr) (n c n' c' : Nat), (binOp .eql 29 (.slice a n c) (.slice none n' c')).run Try.prog w = .ok (.bool a.isNone) w := fun w a n c n' c' => Lib.run_eql_slice_nil w _ _ a n c n' c' Try.underlying29
    go_enter Try.func34, Try.ntmps34
    go_wp2_with (at_builtin; go_loud (refine wpList_append_own _ rfl _ _ 29 rfl w.heap.size 9 i0 _ 1 16 Try.underlying29 hi0 hz0 hz1 hz2 rfl (by decide) _ _ _ rfl (World.ownsRow_made w #[] 0 (Nat.le_refl _) (Nat.zero_le _) (by simp)) a l.length c (l.map Value.string) rfl (by simp) (fun j u hj => Lib.cell?_alloc_some _ (HC.out j u hj)) (fun u hu => by obtain ⟨x, -, rfl⟩ := List.mem_map.1 hu; rfl) (by rw [Nat.zero_add]; unfold maxLen; omega) (by rw [Nat.zero_add]; omega) (by simp) ?_); intro v' w1 hown hgrow hnil)
    go_ret
    refine ⟨v', rfl, Kd.R_of_own (by simpa [encs] using hown) (fun _ _ => trivial), ?_⟩
    exact ((Below.refl _ w).alloc (Nat.le_refl _) _).grown hgrow (by simp) (by intro k hk; have hk' : some w.heap.size = some k := hk; cases hk'; exact Nat.le_refl _)
set_option maxHeartbeats 2000000 in
set_option maxRecDepth 100000 in
theorem clone_bytes (A : Option Addr) (c : Nat) (l : List Int) (w : World) (hC : Kd.C (Kd.int .u8) w A l.length l) (hn : l.length ≤ 1000000) : Calls Try.prog 35 #[.slice A l.length c] w fun e w' => ∃ v, e = .returned v ∧ Kd.R (Kd.int .u8) 5 w' w.heap.size (fun _ => True) v l ∧ Below w.heap.size w w' := by
  cases A with
  | none =>
    have hl : l = [] := by
      cases l with
      | nil => rfl
      | cons x l =>
        obtain ⟨ad, e, -⟩ := Kd.at_int hC 0 (Int.le_refl 0) (by simp)
        cases e
    subst hl
    refine (clone_bytes_nil _ _ w).mono ?_
    rintro e w' ⟨rfl, rfl⟩
    exact ⟨_, rfl, Kd.R_nil _ _ _ _ _, Below.refl _ _⟩
  | some a =>
    have hc : ∀ j u, (l.map (Value.int .u8))[j]? = some u → w.cell? (a.add j) = some u := by
      intro j u hj
      have hjl : j < l.length := by have := (List.getElem?_eq_some_iff.1 hj).1; simpa using this
      obtain ⟨ad, e, h⟩ := Kd.at_int hC j (by omega) (by omega)
      cases e
      rw [Int.toNat_natCast] at h
      rw [h, ← hj]
      simp [rd, hjl]
    have HC := Aside0.mk hc
    clear hc hC
    obtain ⟨i0, hi0, hz0, hz1, hz2⟩ := info_parts info5
    have q22 : ∀ (w : World) (a : Option Addr) (n c n' c' : Nat), (binOp .eql 30 (.slice a n c) (.slice none n' c')).run Try.prog w = .ok (.bool a.isNone) w := fun w a n c n' c' => Lib.run_eql_slice_nil w _ _ a n c n' c' Try.underlying30
    go_enter Try.func35, Try.ntmps35
    go_wp2_with (at_builtin; go_loud (refine wpList_append_own _ rfl _ _ 30 rfl w.heap.size 5 i0 _ 1 1 Try.underlying30 hi0 hz0 hz1 hz2 rfl (by decide) _ _ _ rfl (World.ownsRow_made w #[] 0 (Nat.le_refl _) (Nat.zero_le _) (by simp)) a l.length c (l.map (Value.int .u8)) rfl (by simp) (fun j u hj => Lib.cell?_alloc_some _ (HC.out j u hj)) (fun u hu => by obtain ⟨x, -, rfl⟩ := List.mem_map.1 hu; rfl) (by rw [Nat.zero_add]; unfold maxLen; omega) (by rw [Nat.zero_add]; omega) (by simp) ?_); intro v' w1 hown hgrow hnil)
    go_ret
    refine ⟨v', rfl, Kd.R_of_own (by simpa [encs] using hown) (fun _ _ => trivial), ?_⟩
    exact ((Below.refl _ w).alloc (Nat.le_refl _) _).grown hgrow (by simp) (by intro k hk; have hk' : some w.heap.size = some k := hk; cases hk'; exact Nat.le_refl _)

end Go.Proofs.Ytenhnkldhodegaa.R
