import Derived.Test.YtenhnkldhodegaaT24
import Derived.Outline
import Derived.Shelf.Abstract
import Derived.Deep.LoopGhost
import Derived.Deep.Draws
import Derived.Laws.EntriesVeiled
import Derived.Laws.ResultCell
import Derived.Laws.Rows
import Derived.Deep.QuietTactic
import Derived.Deep.RegionWith
import Derived.BigQuiet
import Derived.Deep.MidRow
import Derived.Laws.Tables
import Derived.Deep.WholeRow
import Derived.Lib.SliceRun
import Derived.LaidEql
import Derived.RowKitTokens
import Derived.Stop.Asserts
import Derived.Laws.CopyRow
import Derived.Lib.BufferRead
import Derived.Lib.SlBytesRow
import Derived.Test.YtenhnkldhodegaaGd0
import Derived.Test.YtenhnkldhodegaaGd1
namespace Go.Proofs.Ytenhnkldhodegaa.R
open Go.RowKit Go.Proofs.YtenhnkldhodegaaW.PrintWords Go.Proofs.YtenhnkldhodegaaW.PrintLast Go.Proofs.YtenhnkldhodegaaW.PrintMore
attribute [local go_sem] max2_int min2_int max_two min_two max_three min_three max_four min_four   -- for this text's walks alone
set_option linter.unusedVariables false
set_option linter.unusedSimpArgs false
set_option maxRecDepth 100000 in
set_option maxHeartbeats 100000000 in
theorem TagsOwns.walk_nd (a0 a1 a2 a3 a4 a5 a6 a7 a8 a9 : Int) (s : ByteArray) (A : Option Addr) (c : Nat) (ns : List ByteArray) (a12 : Int) (D : Option Addr) (d : Nat) (bs : List Int) (y : Int) (w : World) (hN : Kd.C Kd.string w A ns.length ns) (hc : ns.length ≤ c) (hB : Kd.C (Kd.int .u8) w D bs.length bs) (hd : bs.length ≤ d)
    (r0 r1 r2 r3 r4 r5 r6 r7 r8 r9 : Int) (rs : ByteArray) (rn : List ByteArray) (r12 : Int) (rb : List Int) (hG : truchmanref17_Good.f 100 a0 a1 a2 a3 a4 a5 a6 a7 a8 a9 s ns a12 bs = some (r0, r1, r2, r3, r4, r5, r6, r7, r8, r9, rs, rn, r12, rb)) (hrn : rn.length ≤ 8) (hrb : rb.length ≤ 30) (hn : ¬ 0 < rn.length) (hm : ¬ 0 < rb.length) :
    Calls Try.prog 4 #[.agg #[.int .i64 a0, .int .i64 a1, .int .i64 a2, .int .i64 a3, .int .i64 a4, .int .i64 a5, .int .i64 a6, .int .i64 a7, .int .i64 a8, .int .i64 a9, .string s, .slice A ns.length c, .int .i64 a12, .slice D bs.length d], .int .u8 y] w fun e w' => e = .returned (.bool true) ∧ Below w.heap.size w w' := by
  have hGd := fun W (hW : Below w.heap.size w W) => good_ok a0 a1 a2 a3 a4 a5 a6 a7 a8 a9 s A c ns a12 D d bs r0 r1 r2 r3 r4 r5 r6 r7 r8 r9 rs rn r12 rb hG W (Kd.C_below hN hW) hc (Kd.C_below hB hW) hd
  have hNew := fun W => new_ok 2 W (by omega) (by omega)
  have hu := Try.underlying32
  clear hG hN hB
  have hnI : ¬ (0 : Int) < rn.length := by omega
  have hmI : ¬ (0 : Int) < rb.length := by omega
  go_enter Try.func4, Try.ntmps4
  go_wp2_with (first
    | (go_at_call 9; (with_reducible refine (hNew _).mono ?_); rintro e w1 ⟨rfl, hb1, hT0⟩; have hT1 : TagsIn w1 (w.heap.size + 1) 2 [] := (by have h := hT0; rw [World.size_alloc] at h; exact h); have hbw1 := below_step (below_alloc (Below.refl w.heap.size w) _) hb1; have hx1 := (hb1.block w.heap.size (by simp)).trans (heap_alloc_new w _); have q0 := blk_cell hx1 0; have q1 := blk_cell hx1 1; have q2 := blk_cell hx1 2; have q3 := blk_cell hx1 3; have q4 := blk_cell hx1 4; have q5 := blk_cell hx1 5; have q6 := blk_cell hx1 6; have q7 := blk_cell hx1 7; have q8 := blk_cell hx1 8; have q9 := blk_cell hx1 9; have q10 := blk_cell hx1 10; have q11 := blk_cell hx1 11; have q12 := blk_cell hx1 12; have q13 := blk_cell hx1 13)
    | (go_at_call 12; (with_reducible refine (hGd _ hbw1).mono ?_); rintro e w2 ⟨AX, cX, DX, dX, rfl, hRX1, hRX2, hb2⟩; skip; skip)
    | (go_at_call 10; go_loud (refine (put_any (w.heap.size + 1) 2 [] r0 r1 r2 r3 r4 r5 r6 r7 r8 r9 rs _ cX rn r12 _ dX rb _ ((hT1.below hb2).below (below_alloc (Below.refl _ _) _)) (Nat.not_lt_zero _) (by decide) (by decide) (Kd.C_below (Kd.R_reads' hRX1).2.2 (below_alloc (Below.refl _ _) _)) (Kd.C_below (Kd.R_reads' hRX2).2.2 (below_alloc (Below.refl _ _) _)) (by omega) (by omega)).mono ?_); rintro e w4 ⟨rfl, A2, c2, D2, d2, w3, hR1, hR2, hb3, hg4, hT4⟩; have hx4 := block_of hg4 ((hb3.block w2.heap.size (by simp)).trans (heap_alloc_new w2 _)) (by have := hT1.lt; have := hb2.size; omega); have p11 := blk_cell hx4 11; have p13 := blk_cell hx4 13; skip))
  have hxl := (Array.getElem?_eq_some_iff.1 hx1).1
  have htl := hT1.lt
  have hs2 := hb2.size
  have hsa : (w2.alloc (.cells [Value.int .i64 r0, .int .i64 r1, .int .i64 r2, .int .i64 r3, .int .i64 r4, .int .i64 r5, .int .i64 r6, .int .i64 r7, .int .i64 r8, .int .i64 r9, .string rs, .slice AX rn.length cX, .int .i64 r12, .slice DX rb.length dX].toArray 32)).heap.size = w2.heap.size + 1 := by simp
  have hs3 := hb3.size
  rw [hsa] at hs3
  have hx2 := (hb2.block _ hxl).trans hx1
  have hb2a : Below w2.heap.size w2 (w2.alloc (.cells [Value.int .i64 r0, .int .i64 r1, .int .i64 r2, .int .i64 r3, .int .i64 r4, .int .i64 r5, .int .i64 r6, .int .i64 r7, .int .i64 r8, .int .i64 r9, .string rs, .slice AX rn.length cX, .int .i64 r12, .slice DX rb.length dX].toArray 32)) := below_alloc (Below.refl _ _) _
  have hO : OwnsIn w (w.heap.size + 1) w.heap.size w2.heap.size w4 [Value.int .i64 a0, .int .i64 a1, .int .i64 a2, .int .i64 a3, .int .i64 a4, .int .i64 a5, .int .i64 a6, .int .i64 a7, .int .i64 a8, .int .i64 a9, .string s, .slice A ns.length c, .int .i64 a12, .slice D bs.length d] [Value.int .i64 r0, .int .i64 r1, .int .i64 r2, .int .i64 r3, .int .i64 r4, .int .i64 r5, .int .i64 r6, .int .i64 r7, .int .i64 r8, .int .i64 r9, .string rs, .slice AX rn.length cX, .int .i64 r12, .slice DX rb.length dX] [Value.int .i64 r0, .int .i64 r1, .int .i64 r2, .int .i64 r3, .int .i64 r4, .int .i64 r5, .int .i64 r6, .int .i64 r7, .int .i64 r8, .int .i64 r9, .string rs, .slice A2 rn.length c2, .int .i64 r12, .slice D2 rb.length d2] A2 c2 rn D2 d2 rb := by
    refine ⟨below_of (below_step (below_step (below_step hbw1 hb2) hb2a) hb3) (by omega) hg4, hT4, ?_, ?_, ?_, ?_, by omega, by omega, Nat.le_refl _⟩
    · exact block_of hg4 ((hb3.block _ (by rw [hsa]; omega)).trans ((hb2a.block _ (by omega)).trans hx2)) (by omega)
    · exact block_of hg4 ((hb3.block _ (by rw [hsa]; omega)).trans (heap_alloc_new w2 _)) (by omega)
    · exact Kd.R_grown (Kd.R_lower (Kd.R_mono (Kd.R_bound hR1) (ok' := fun k => w2.heap.size < k) (fun k hk => by have := hk.2.1; rw [hsa] at this; omega)) (by rw [hsa]; omega)) hg4 (fun k hk e => by cases e; omega)
    · exact Kd.R_grown (Kd.R_lower (Kd.R_mono (Kd.R_bound hR2) (ok' := fun k => w2.heap.size < k) (fun k hk => by have := hk.2.1; rw [hsa] at this; omega)) (by rw [hsa]; omega)) hg4 (fun k hk e => by cases e; omega)
  have hX1 : Kd.R Kd.string 9 w4 w1.heap.size (fun _ => True) (.slice AX rn.length cX) rn := Kd.R_mono (Kd.R_grown (Kd.R_mono (Kd.R_bound (Kd.R_below (Kd.R_below hRX1 hb2a) hb3)) (ok' := fun k => w1.heap.size ≤ k) (fun k hk => hk.2.1)) hg4 (fun k hk e => by cases e; omega)) (fun _ _ => trivial)
  have hX2 : Kd.R (Kd.int .u8) 5 w4 w1.heap.size (fun _ => True) (.slice DX rb.length dX) rb := Kd.R_mono (Kd.R_grown (Kd.R_mono (Kd.R_bound (Kd.R_below (Kd.R_below hRX2 hb2a) hb3)) (ok' := fun k => w1.heap.size ≤ k) (fun k hk => hk.2.1)) hg4 (fun k hk e => by cases e; omega)) (fun _ _ => trivial)
  have hlt1 : ∀ k, (Value.slice AX rn.length cX).ownBlock = some k → w.heap.size + 1 < k ∧ k < w2.heap.size := fun k hk => by
    obtain ⟨inner, ho⟩ := Kd.R_own hRX1
    have := ho.lt k hk
    omega
  have hlt2 : ∀ k, (Value.slice DX rb.length dX).ownBlock = some k → w.heap.size + 1 < k ∧ k < w2.heap.size := fun k hk => by
    obtain ⟨inner, ho⟩ := Kd.R_own hRX2
    have := ho.lt k hk
    omega
  have O1 := hO
  have HO1 := Aside0.mk O1
  have p5 := blk_cell O1.hx 13
  clear hO hX1 hX2 hx4 p11 p13 hR1 hR2 hb3 hg4 hT4 hx2 hb2a hsa hs3 O1 hRX1 hRX2
  generalize w4 = w5 at *
  all_goals
    have O3 := HO1.out
    generalize w5 = w6 at *
    have hP := pick_ok (w.heap.size + 1) 0 2 [[Value.int .i64 r0, .int .i64 r1, .int .i64 r2, .int .i64 r3, .int .i64 r4, .int .i64 r5, .int .i64 r6, .int .i64 r7, .int .i64 r8, .int .i64 r9, .string rs, .slice A2 rn.length c2, .int .i64 r12, .slice D2 rb.length d2]] w6 O3.ht Nat.one_pos
    simp only [List.getElem_cons_zero, show ((0 : Nat) : Int) = 0 from rfl] at hP
    have HO3 := Aside0.mk O3
    clear O3 HO1 p5
    go_wp2_with (go_at_call 13; go_loud (refine hP.mono ?_); rintro e w7 ⟨rfl, hg7, hT7⟩; go_loud (have ha8 := block_of hg7 HO3.out.ha (by omega)); have q0 := blk_cell ha8 0; have q1 := blk_cell ha8 1; have q2 := blk_cell ha8 2; have q3 := blk_cell ha8 3; have q4 := blk_cell ha8 4; have q5 := blk_cell ha8 5; have q6 := blk_cell ha8 6; have q7 := blk_cell ha8 7; have q8 := blk_cell ha8 8; have q9 := blk_cell ha8 9; have q10 := blk_cell ha8 10; have q11 := blk_cell ha8 11; have q12 := blk_cell ha8 12; have q13 := blk_cell ha8 13)
    have hb7w : Below w.heap.size w w7 := below_of HO3.out.hb (by omega) hg7
    have hn7 := Kd.R_grown HO3.out.hn hg7 (fun k hk e => by cases e; omega)
    have hd7 := Kd.R_grown HO3.out.hd hg7 (fun k hk e => by cases e; omega)
    have HN7 := Aside0.mk hn7
    have HD7 := Aside0.mk hd7
    have HB7 := Aside0.mk hb7w
    have hlw := (Array.getElem?_eq_some_iff.1 ha8).1
    have hnw := Nat.ne_of_lt hlw
    have HA8 := Aside0.mk ha8
    clear hn7 hd7 hb7w hg7 hT7 ha8 HO3 hP
    go_region_with (first
      | (go_at_call 12; go_loud (refine (hGd _ (below_drew (below_alloc HB7.out _))).mono ?_); rintro e w8 ⟨A3, c3, D3, d3, rfl, hR3, hR4, hb8⟩; go_loud (have hb78 := below_step (below_drew (below_alloc (Below.refl w7.heap.size w7) _)) hb8); go_loud (have ha9 := (hb78.block _ (Array.getElem?_eq_some_iff.1 HA8.out).1).trans HA8.out); go_loud (have hx9 := (hb8.block w7.heap.size (by first | simp | (show w7.heap.size < (w7.alloc _).heap.size; simp))).trans (show _ = _ from heap_alloc_new w7 _)); have s0 := blk_cell ha9 0; have u0 := blk_cell hx9 0; have s1 := blk_cell ha9 1; have u1 := blk_cell hx9 1; have s2 := blk_cell ha9 2; have u2 := blk_cell hx9 2; have s3 := blk_cell ha9 3; have u3 := blk_cell hx9 3; have s4 := blk_cell ha9 4; have u4 := blk_cell hx9 4; have s5 := blk_cell ha9 5; have u5 := blk_cell hx9 5; have s6 := blk_cell ha9 6; have u6 := blk_cell hx9 6; have s7 := blk_cell ha9 7; have u7 := blk_cell hx9 7; have s8 := blk_cell ha9 8; have u8 := blk_cell hx9 8; have s9 := blk_cell ha9 9; have u9 := blk_cell hx9 9; have s10 := blk_cell ha9 10; have u10 := blk_cell hx9 10; have s11 := blk_cell ha9 11; have u11 := blk_cell hx9 11; have s12 := blk_cell ha9 12; have u12 := blk_cell hx9 12; have s13 := blk_cell ha9 13; have u13 := blk_cell hx9 13)
      | (go_at_call 14; go_loud (refine (same_eq r0 r1 r2 r3 r4 r5 r6 r7 r8 r9 rs rn r12 rb A2 A3 D2 D3 c2 c3 d2 d3 _ (by omega) (Kd.C_below (Kd.R_reads' HN7.out).2.2 hb78) (Kd.R_reads' hR3).2.2 (Kd.C_below (Kd.R_reads' HD7.out).2.2 hb78) (Kd.R_reads' hR4).2.2 (Kd.R_reads' HN7.out).2.1 (Kd.R_reads' hR3).2.1 (row_head HD7.out) (row_head hR4)).mono ?_); rintro e w9 ⟨rfl, hb9⟩)
      | (go_at_call 11; refine (lives_ok _).mono ?_; rintro e w10 ⟨rfl, hb10⟩))
    all_goals go_wp2
    all_goals (go_ret; exact ⟨rfl, below_step (below_step (below_step HB7.out hb78) hb9) hb10⟩)

end Go.Proofs.Ytenhnkldhodegaa.R
