import Derived.Test.YtenhnkldhodegaaT18
import Derived.Outline
import Derived.Shelf.Abstract
import Derived.Deep.LoopGhost
import Derived.Deep.Draws
import Derived.Laws.EntriesVeiled
import Derived.Laws.ResultCell
import Derived.Laws.Rows
import Derived.Deep.QuietTactic
import Derived.Deep.RegionWith
import Derived.BigQuiet
import Derived.Deep.MidRow
import Derived.Laws.Tables
import Derived.Deep.WholeRow
import Derived.Lib.SliceRun
import Derived.LaidEql
import Derived.RowKitTokens
import Derived.Stop.Asserts
import Derived.Laws.CopyRow
import Derived.Lib.BufferRead
import Derived.Lib.SlBytesRow
namespace Go.Proofs.Ytenhnkldhodegaa.R
open Go.RowKit Go.Proofs.YtenhnkldhodegaaW.PrintWords Go.Proofs.YtenhnkldhodegaaW.PrintLast Go.Proofs.YtenhnkldhodegaaW.PrintMore
attribute [local go_sem] max2_int min2_int max_two min_two max_three min_three max_four min_four   -- for this text's walks alone
set_option linter.unusedVariables false
set_option linter.unusedSimpArgs false
/-- Texts are the same as themselves. -/
theorem texts_l0 (l : List ByteArray) (hl : l.length ≤ 1000) : ∀ (k i : Nat), i ≤ l.length → l.length - i < k → truchmanref01_SameTexts.l0 k l l i = some true
  | 0, i, _, h => absurd h (by omega)
  | k + 1, i, hi, hk => by
    unfold truchmanref01_SameTexts.l0
    by_cases h : i < l.length
    · have hw : wrap64 ((i : Int) + 1) = ((i + 1 : Nat) : Int) := by unfold wrap64; omega
      simp only [hw, texts_l0 l hl k (i + 1) (by omega) (by omega)]
      rw [if_pos (by omega)]
      simp [h]
    · rw [if_neg (by omega)]
theorem texts_f (l : List ByteArray) (hl : l.length ≤ 1000) : truchmanref01_SameTexts.f 1002 l l = some true := by
  unfold truchmanref01_SameTexts.f
  rw [if_pos rfl]
  exact texts_l0 l hl 1002 0 (Nat.zero_le _) (by omega)
theorem conv_bytes (D : Option Addr) (d : Nat) (bs : List Int) (W : World) (hC : Kd.C (Kd.int .u8) W D bs.length bs) (hs : D = none ∨ ∃ g o, D = some ⟨g, o, none⟩) : Sem.run Try.prog (convert 30 9 (.slice D bs.length d)) W = .ok (.string (strOfNums bs)) W := by
  rcases hs with rfl | ⟨g, o, rfl⟩
  · have hl : bs = [] := by
      cases bs with
      | nil => rfl
      | cons x l =>
        obtain ⟨ad, e, -⟩ := Kd.at_int hC 0 (Int.le_refl 0) (by simp)
        cases e
    subst hl
    exact Lib.run_convert_nil_bytes W _ _ _ d Try.underlying30 Try.underlying5 Try.underlying9
  · exact Go.run_convert_bytes_arg W 30 5 Try.underlying30 Try.underlying5 g o bs.length d bs rfl (fun i hi => by
      obtain ⟨ad, e, h⟩ := Kd.at_int hC i (by omega) (by omega)
      cases e
      rw [Int.toNat_natCast, Addr.add_mid] at h
      rw [h]
      simp [rd]) 9 Try.underlying9
set_option maxRecDepth 100000 in
set_option maxHeartbeats 40000000 in
theorem same_eq (a0 a1 a2 a3 a4 a5 a6 a7 a8 a9 : Int) (s : ByteArray) (ns : List ByteArray) (a12 : Int) (bs : List Int) (A B D E : Option Addr) (c c' d d' : Nat) (w : World) (hnl : ns.length ≤ 1000)
    (hA : Kd.C Kd.string w A ns.length ns) (hB : Kd.C Kd.string w B ns.length ns) (hD : Kd.C (Kd.int .u8) w D bs.length bs) (hE : Kd.C (Kd.int .u8) w E bs.length bs) (hc : ns.length ≤ c) (hc' : ns.length ≤ c') (hDs : D = none ∨ ∃ g o, D = some ⟨g, o, none⟩) (hEs : E = none ∨ ∃ g o, E = some ⟨g, o, none⟩) :
    Calls Try.prog 14 #[.agg #[.int .i64 a0, .int .i64 a1, .int .i64 a2, .int .i64 a3, .int .i64 a4, .int .i64 a5, .int .i64 a6, .int .i64 a7, .int .i64 a8, .int .i64 a9, .string s, .slice A ns.length c, .int .i64 a12, .slice D bs.length d],
      .agg #[.int .i64 a0, .int .i64 a1, .int .i64 a2, .int .i64 a3, .int .i64 a4, .int .i64 a5, .int .i64 a6, .int .i64 a7, .int .i64 a8, .int .i64 a9, .string s, .slice B ns.length c', .int .i64 a12, .slice E bs.length d']] w fun e w' => e = .returned (.bool true) ∧ Below w.heap.size w w' := by
  have hu := Try.underlying32
  have hT := fun W (hW : Below w.heap.size w W) => truchmanref01_SameTexts.calls 1002 A c ns B c' ns true W (Kd.C_below hA hW) hc (Kd.C_below hB hW) hc' (texts_f ns hnl)
  have HCD := Aside0.mk (fun W (hW : Below w.heap.size w W) => conv_bytes D d bs W (Kd.C_below hD hW) hDs)
  have HCE := Aside0.mk (fun W (hW : Below w.heap.size w W) => conv_bytes E d' bs W (Kd.C_below hE hW) hEs)
  clear hA hB hD hE
  go_enter Try.func14, Try.ntmps14
  go_wp2_with (go_at_call 30; (with_reducible refine (hT _ (below_alloc (below_alloc (Below.refl _ _) _) _)).mono ?_); go_loud (rintro e w1 ⟨rfl, hd1⟩); go_loud (have hb1 := hd1.below); go_loud (have hx1 := (hb1.block w.heap.size (by simp; omega)).trans (show _ = some (.cells #[.int .i64 a0, .int .i64 a1, .int .i64 a2, .int .i64 a3, .int .i64 a4, .int .i64 a5, .int .i64 a6, .int .i64 a7, .int .i64 a8, .int .i64 a9, .string s, .slice A ns.length c, .int .i64 a12, .slice D bs.length d] 32 (0, 0)) from by rw [heap_push, if_neg (by simp), heap_push, if_pos rfl])); go_loud (have hy1 := (hb1.block (w.heap.size + 1) (by simp)).trans (show _ = some (.cells #[.int .i64 a0, .int .i64 a1, .int .i64 a2, .int .i64 a3, .int .i64 a4, .int .i64 a5, .int .i64 a6, .int .i64 a7, .int .i64 a8, .int .i64 a9, .string s, .slice B ns.length c', .int .i64 a12, .slice E bs.length d'] 32 (0, 0)) from by rw [heap_push, if_pos (by simp)])); have hbw := below_step (below_alloc (below_alloc (Below.refl w.heap.size w) _) _) hb1; have cv1 := HCD.out _ hbw; have cv2 := HCE.out _ hbw; have q0 := blk_cell hx1 0; have p0 := blk_cell hy1 0; have q1 := blk_cell hx1 1; have p1 := blk_cell hy1 1; have q2 := blk_cell hx1 2; have p2 := blk_cell hy1 2; have q3 := blk_cell hx1 3; have p3 := blk_cell hy1 3; have q4 := blk_cell hx1 4; have p4 := blk_cell hy1 4; have q5 := blk_cell hx1 5; have p5 := blk_cell hy1 5; have q6 := blk_cell hx1 6; have p6 := blk_cell hy1 6; have q7 := blk_cell hx1 7; have p7 := blk_cell hy1 7; have q8 := blk_cell hx1 8; have p8 := blk_cell hy1 8; have q9 := blk_cell hx1 9; have p9 := blk_cell hy1 9; have q10 := blk_cell hx1 10; have p10 := blk_cell hy1 10; have q11 := blk_cell hx1 11; have p11 := blk_cell hy1 11; have q12 := blk_cell hx1 12; have p12 := blk_cell hy1 12; have q13 := blk_cell hx1 13; have p13 := blk_cell hy1 13)

  go_ret
  exact ⟨rfl, below_step (below_alloc (below_alloc (Below.refl _ _) _) _) hb1⟩

end Go.Proofs.Ytenhnkldhodegaa.R
