import Derived.Test.YtenhnkldhodegaaT19
import Derived.Outline
import Derived.Shelf.Abstract
import Derived.Deep.LoopGhost
import Derived.Deep.Draws
import Derived.Laws.EntriesVeiled
import Derived.Laws.ResultCell
import Derived.Laws.Rows
import Derived.Deep.QuietTactic
import Derived.Deep.RegionWith
import Derived.BigQuiet
import Derived.Deep.MidRow
import Derived.Laws.Tables
import Derived.Deep.WholeRow
import Derived.Lib.SliceRun
import Derived.LaidEql
import Derived.RowKitTokens
import Derived.Stop.Asserts
import Derived.Laws.CopyRow
import Derived.Lib.BufferRead
import Derived.Lib.SlBytesRow
import Derived.Test.YtenhnkldhodegaaGd0
namespace Go.Proofs.Ytenhnkldhodegaa.R
open Go.RowKit Go.Proofs.YtenhnkldhodegaaW.PrintWords Go.Proofs.YtenhnkldhodegaaW.PrintLast Go.Proofs.YtenhnkldhodegaaW.PrintMore
attribute [local go_sem] max2_int min2_int max_two min_two max_three min_three max_four min_four   -- for this text's walks alone
set_option linter.unusedVariables false
set_option linter.unusedSimpArgs false
/-! The reference's functions always answer. -/
theorem around_f (a m : Int) (hm : 0 < m) (ha : -9223372036854775808 ≤ a ∧ a ≤ 9223372036854775807) : truchmanref01_Around.f a m = some (arF a m) := by
  unfold truchmanref01_Around.f arF
  have h0 : ¬ m = 0 := by omega
  split
  · rw [show wrap64 (a + 1) = a + 1 by unfold wrap64; omega, show wrap64 (-(a + 1)) = -(a + 1) by unfold wrap64; omega]
  · rfl
theorem low_f (a : Int) (ha : -9223372036854775808 ≤ a ∧ a ≤ 9223372036854775807) : truchmanref17_low.f a = some (arF a 4294967296) := by
  unfold truchmanref17_low.f
  rw [around_f a _ (by omega) ha]
  rfl
theorem kind_f (a : Int) (ha : -9223372036854775808 ≤ a ∧ a ≤ 9223372036854775807) : ∃ r, truchmanref17_Kind.f a = some r := by
  unfold truchmanref17_Kind.f
  rw [around_f a 12 (by omega) ha]
  have hr := arF_range a 12 (by omega)
  simp only [Option.bind_some]
  rw [if_pos hr.1, if_pos (by simpa using hr.2)]
  exact ⟨_, rfl⟩
theorem short_f (s : ByteArray) : ∃ r, truchmanref01_Short.f s 40 = some r := by
  unfold truchmanref01_Short.f
  split
  · rw [if_pos (by omega), if_pos (by omega)]
    exact ⟨_, rfl⟩
  · exact ⟨_, rfl⟩
theorem fields_l0 (a : Int) (X : List Int) (Y : List ByteArray) (hX : X.length ≤ 12) (hXY : X.length = Y.length) (hY : ∀ y ∈ Y, y.size ≤ 4) : ∀ (k i : Nat), i ≤ X.length → X.length - i < k → ∃ t, truchmanref17_Fields.l0 k a X Y i = some t ∧ t.size ≤ 4
  | 0, i, _, h => absurd h (by omega)
  | k + 1, i, hi, hk => by
    unfold truchmanref17_Fields.l0
    by_cases h : i < X.length
    · have hw : wrap64 ((i : Int) + 1) = ((i + 1 : Nat) : Int) := by unfold wrap64; omega
      rw [if_pos (by omega), if_pos (by omega), hw]
      split
      · rw [if_pos (by omega)]
        refine ⟨_, rfl, ?_⟩
        have hy : i < Y.length := by omega
        have e : rdOf ByteArray.empty Y (i : Int) = Y[i] := by simp [rdOf, hy]
        rw [e]
        exact hY _ (List.getElem_mem hy)
      · exact fields_l0 a X Y hX hXY hY k (i + 1) (by omega) (by omega)
    · rw [if_neg (by omega)]
      exact ⟨_, rfl, by decide⟩
theorem has_l0 (c : Int) (t : ByteArray) (ht : t.size ≤ 4) : ∀ (k i : Nat), i ≤ t.size → t.size - i < k → ∃ b, truchmanref17_has.l0 k c t i = some b
  | 0, i, _, h => absurd h (by omega)
  | k + 1, i, hi, hk => by
    unfold truchmanref17_has.l0
    by_cases h : i < t.size
    · have hw : wrap64 ((i : Int) + 1) = ((i + 1 : Nat) : Int) := by unfold wrap64; omega
      rw [if_pos (by omega), if_pos (by omega), hw]
      split
      · exact ⟨_, rfl⟩
      · exact has_l0 c t ht k (i + 1) (by omega) (by omega)
    · rw [if_neg (by omega)]
      exact ⟨_, rfl⟩
theorem has_f (a c : Int) (k : Nat) (hk : 13 < k) : ∃ b, truchmanref17_has.f k a c = some b := by
  obtain ⟨t, ht, h4⟩ := fields_l0 a [100, 104, 108, 110, 112, 114, 116, 118, 120, 122, 124, 126] [⟨#[122, 110]⟩, ⟨#[102, 110]⟩, ⟨#[116]⟩, ⟨#[102, 119, 108]⟩, ⟨#[102, 109]⟩, ⟨#[102, 110, 112, 109]⟩, ⟨#[102, 111, 99]⟩, ⟨#[102, 111, 100]⟩, ⟨#[102]⟩, ⟨#[102]⟩, ⟨#[102]⟩, ⟨#[102, 115, 110]⟩] (by simp) rfl (by decide) k 0 (Nat.zero_le _) (by simp; omega)
  obtain ⟨b, hb⟩ := has_l0 c t h4 k 0 (Nat.zero_le _) (by omega)
  refine ⟨b, ?_⟩
  unfold truchmanref17_has.f truchmanref17_Fields.f
  rw [show ((0 : Nat) : Int) = 0 from rfl] at ht hb
  rw [ht]
  exact hb
theorem keep_f (a c x : Int) (k : Nat) (hk : 13 < k) : ∃ r, truchmanref17_keep.f k a c x = some r := by
  obtain ⟨b, hb⟩ := has_f a c k hk
  unfold truchmanref17_keep.f
  rw [hb]
  simp only [Option.bind_some]
  split <;> exact ⟨_, rfl⟩

end Go.Proofs.Ytenhnkldhodegaa.R
