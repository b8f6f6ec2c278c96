import Derived.Test.YtenhnkldhodegaaTB
import Derived.Outline
import Derived.Shelf.Abstract
import Derived.Deep.LoopGhost
import Derived.Deep.Draws
import Derived.Laws.EntriesVeiled
import Derived.Laws.ResultCell
import Derived.Laws.Rows
import Derived.Deep.QuietTactic
import Derived.Deep.RegionWith
import Derived.BigQuiet
import Derived.Deep.MidRow
import Derived.Laws.Tables
import Derived.Deep.WholeRow
import Derived.Lib.SliceRun
import Derived.LaidEql
import Derived.RowKitTokens
import Derived.Stop.Asserts
import Derived.Laws.CopyRow
import Derived.Lib.BufferRead
import Derived.Lib.SlBytesRow
import Derived.Test.YtenhnkldhodegaaGd0
import Derived.Test.YtenhnkldhodegaaGd1
import Derived.Deep.DeepCutAuto
import Derived.Deep.CutBlock
namespace Go.Proofs.Ytenhnkldhodegaa.R
open Go.RowKit Go.Proofs.YtenhnkldhodegaaW.PrintWords Go.Proofs.YtenhnkldhodegaaW.PrintLast Go.Proofs.YtenhnkldhodegaaW.PrintMore
attribute [local go_sem] max2_int min2_int max_two min_two max_three min_three max_four min_four   -- for this text's walks alone
set_option linter.unusedVariables false
set_option linter.unusedSimpArgs false
set_option maxRecDepth 100000 in
set_option maxHeartbeats 400000000 in
theorem TagsPlays.walk (a0 : Int) (Al : Option Addr) (cl : Nat) (l : List (Int × Int × S32)) (w : World) (h0 : i64 a0) (hl : l.length ≤ 9223372036854775807) (hr : OsIn w Al l) :
    Calls Try.prog 7 #[.int .i64 a0, .slice Al l.length cl] w fun e w' => e = .returned (.bool true) ∧ Below w.heap.size w w' := by
  have hA0 := around_any a0 8 (by omega) h0
  have hr0 := arF_range a0 8 (by omega)
  generalize arF a0 8 = rr at hA0 hr0
  obtain ⟨r, rfl⟩ : ∃ r : Nat, rr = r := ⟨rr.toNat, by omega⟩
  have hN := fun W => new_ok (1 + (r : Int)) W (by omega) (by omega)
  have hm8 : 1 + (r : Int) ≤ 8 := by omega
  have hu := Try.underlying32
  have hu2 := Try.underlying47
  have HL := Aside0.mk hr
  clear hr h0
  go_enter Try.func7, Try.ntmps7
  go_wp2_with (first
    | (go_at_call 8; (with_reducible refine (hA0 _).mono ?_); rintro e w1 ⟨rfl, hb1⟩)
    | (go_at_call 9; (with_reducible refine (hN _).mono ?_); rintro e w2 ⟨rfl, hb2, hT2⟩))
  have HS1 : Aside (OnceIn w w1.heap.size (1 + (r : Int)) (.slice none 0 0) w2 [] [] []) := ⟨below_step hb1 hb2, hT2, hb1.size, rfl, fun j c q hj _ => by simp at hj, Kd.R_nil _ _ _ _ _⟩
  generalize w1.heap.size = b at *
  clear hb1 hb2 hT2 hN hA0
  obtain ⟨N, hNd⟩ : ∃ N, N = min l.length 24 := ⟨_, rfl⟩
  have HN := Aside0.mk hNd
  clear hNd
  go_loopg [8, 9] N (fun gg s8 s9 wv => ∃ (i : Nat) (css : List (List Value)) (ps : List S32), i ≤ N ∧ N - i ≤ gg ∧ s9 = .int .i64 i ∧ ∃ VA vc, s8 = .slice VA ps.length vc ∧ Aside (OnceIn w b (1 + (r : Int)) (.slice VA ps.length vc) wv css ps ps) ∧ Aside (∀ q ∈ ps, Sm q))
  case atStart => exact ⟨0, [], [], Nat.zero_le _, by omega, rfl, none, 0, rfl, HS1, fun q hq => by simp at hq⟩
  case round =>
    obtain ⟨i, css, ps, hiN, hgi, rfl, VA, vc, rfl, HS, HP⟩ := hrel
    by_cases hlt : i < N
    · have hli : (i : Int) < l.length := by have := HN.out; omega
      have h24 : (i : Int) < 24 := by have := HN.out; omega
      have hlin : i < l.length := by omega
      have hp8 : ps.length ≤ 1000 := by have := HS.out.ht.le8; have := HS.out.hl; omega
      obtain ⟨⟨o0, on, q⟩, ho⟩ : ∃ o, l[i]? = some o := ⟨_, List.getElem?_eq_getElem hlin⟩
      obtain ⟨ad, A, c, D, d, rfl, hO, ⟨hi0, hIq⟩, hCN, hcN, hCD, hcD⟩ := HL.out.below HS.out.hb i _ ho
      simp only [OAt] at hO
      obtain ⟨z0, z1, z2, z3, z4, z5, z6, z7, z8, z9, z10, z11, z12, z13, z14, z15⟩ := hO
      obtain ⟨i0, i1, i2, i3, i4, i5, i6, i7, i8, i9, i12⟩ := hIq
      obtain ⟨r0, r2, r3, r4, r5, r6, r7, r8, r9, rs, rn, r12, rb, hG, hrn, hrb⟩ := good_f q.f0 q.f1 q.f2 q.f3 q.f4 q.f5 q.f6 q.f7 q.f8 q.f9 q.f10 q.f11 q.f12 q.f13 i0 i1 i2 i3 i4 i5 i6 i7 i8 i9 i12
      generalize arF q.f1 65536 = r1 at hG
      have hA7 := around_any o0 7 (by omega) hi0
      have hr7 := arF_range o0 7 (by omega)
      generalize arF o0 7 = k7 at hA7 hr7
      have hAsk := fun W (hW : Below wr.heap.size wr W) => refAsk_ok o0 on q.f0 q.f1 q.f2 q.f3 q.f4 q.f5 q.f6 q.f7 q.f8 q.f9 q.f10 A c q.f11 q.f12 D d q.f13 r0 r1 r2 r3 r4 r5 r6 r7 r8 r9 rs rn r12 rb hG W (Kd.C_below hCN hW) hcN (Kd.C_below hCD hW) hcD
      simp only at hcN hcD
      clear hG i0 i1 i2 i3 i4 i5 i6 i7 i8 i9 i12 hCN hCD hi0 ho
      go_upto_block 2 with ((go_at_call 8; (with_reducible refine (hA7 _).mono ?_); rintro e w3 ⟨rfl, hb3⟩; go_loud (have hb3r := below_step (below_alloc (Below.refl wr.heap.size wr) (.cells #[.int .i64 o0, .int .i64 on, .int .i64 q.f0, .int .i64 q.f1, .int .i64 q.f2, .int .i64 q.f3, .int .i64 q.f4, .int .i64 q.f5, .int .i64 q.f6, .int .i64 q.f7, .int .i64 q.f8, .int .i64 q.f9, .string q.f10, .slice A q.f11.length c, .int .i64 q.f12, .slice D q.f13.length d] 47)) hb3); go_loud (have hx3 := (hb3.block wr.heap.size (by simp)).trans (heap_alloc_new wr _)); have b3_0 := blk_cell hx3 0; have b3_1 := blk_cell hx3 1; have b3_2 := blk_cell hx3 2; have b3_3 := blk_cell hx3 3; have b3_4 := blk_cell hx3 4; have b3_5 := blk_cell hx3 5; have b3_6 := blk_cell hx3 6; have b3_7 := blk_cell hx3 7; have b3_8 := blk_cell hx3 8; have b3_9 := blk_cell hx3 9; have b3_10 := blk_cell hx3 10; have b3_11 := blk_cell hx3 11; have b3_12 := blk_cell hx3 12; have b3_13 := blk_cell hx3 13; have b3_14 := blk_cell hx3 14; have b3_15 := blk_cell hx3 15; go_loud (have hS3 := HS.out.below hb3r)))
      go_cut [8] (fun s8 wx => ∃ (VB : Option Addr) (vb : Nat) (css5 : List (List Value)) (ps4 : List S32), s8 = .slice VB ps4.length vb ∧ Aside (PlayIn w b (1 + (r : Int)) (.slice VB ps4.length vb) wx css5 ps4 wr.heap.size #[.int .i64 o0, .int .i64 on, .int .i64 q.f0, .int .i64 q.f1, .int .i64 q.f2, .int .i64 q.f3, .int .i64 q.f4, .int .i64 q.f5, .int .i64 q.f6, .int .i64 q.f7, .int .i64 q.f8, .int .i64 q.f9, .string q.f10, .slice A q.f11.length c, .int .i64 q.f12, .slice D q.f13.length d]) ∧ Aside (∀ q ∈ ps4, Sm q))
      case first =>
        by_cases e4 : k7 = 4
        · subst e4
          as_aux_lemma =>
            clear hAsk
            have hPr := fun W (h : OnceIn w b (1 + (r : Int)) (.slice VA ps.length vc) W css ps ps) => refPick_u h on hp8
            have hPt := fun W V (h : OnceIn w b (1 + (r : Int)) V W css ps (pickS ps on)) => pick_u h on
            have hsm := sm_pickQ HP.out on
            have HSM := Aside0.mk (sm_pickS HP.out on)
            generalize pickQ ps on = pq at hPr hPt hsm
            generalize pickC ps on = pc at hPr hPt
            generalize pickS ps on = ps4 at hPr hPt HSM
            have hq11 : pq.f11.length ≤ 1000 := by have := hsm.1; omega
            go_wp2_with (first
              | (go_at_call 18; (with_reducible refine (hPr _ hS3).mono ?_); rintro e w4 ⟨VB, vb, A4, c4, D4, d4, rfl, hS4, hK4, hN4, hD4⟩; go_loud (have hb4 := below_alloc (Below.refl w4.heap.size w4) (.cells #[.int .i64 pq.f0, .int .i64 pq.f1, .int .i64 pq.f2, .int .i64 pq.f3, .int .i64 pq.f4, .int .i64 pq.f5, .int .i64 pq.f6, .int .i64 pq.f7, .int .i64 pq.f8, .int .i64 pq.f9, .string pq.f10, .slice A4 pq.f11.length c4, .int .i64 pq.f12, .slice D4 pq.f13.length d4] 32)); go_loud (have hS4' := hS4.below hb4); go_loud (have hx4 := (hb4.block _ (Array.getElem?_eq_some_iff.1 (hK4 _ _ _ (by decide) hx3)).1).trans (hK4 _ _ _ (by decide) hx3)); go_loud (have hy4 := heap_alloc_new w4 (.cells #[.int .i64 pq.f0, .int .i64 pq.f1, .int .i64 pq.f2, .int .i64 pq.f3, .int .i64 pq.f4, .int .i64 pq.f5, .int .i64 pq.f6, .int .i64 pq.f7, .int .i64 pq.f8, .int .i64 pq.f9, .string pq.f10, .slice A4 pq.f11.length c4, .int .i64 pq.f12, .slice D4 pq.f13.length d4] 32)); have bx4 := blk_cell hx4 1)
              | (go_at_call 13; (with_reducible refine (hPt _ _ hS4').mono ?_); rintro e w5 ⟨A5, c5, D5, d5, css5, rfl, hS5, hK5, hN5, hD5⟩; go_loud (have hb5 := below_alloc (Below.refl w5.heap.size w5) (.cells #[.int .i64 pq.f0, .int .i64 pq.f1, .int .i64 pq.f2, .int .i64 pq.f3, .int .i64 pq.f4, .int .i64 pq.f5, .int .i64 pq.f6, .int .i64 pq.f7, .int .i64 pq.f8, .int .i64 pq.f9, .string pq.f10, .slice A5 pq.f11.length c5, .int .i64 pq.f12, .slice D5 pq.f13.length d5] 32)); go_loud (have hy5 := (hb5.block _ (Array.getElem?_eq_some_iff.1 (hK5 _ _ _ (by decide) hy4)).1).trans (hK5 _ _ _ (by decide) hy4)); have y0 := blk_cell hy5 0; have y1 := blk_cell hy5 1; have y2 := blk_cell hy5 2; have y3 := blk_cell hy5 3; have y4 := blk_cell hy5 4; have y5 := blk_cell hy5 5; have y6 := blk_cell hy5 6; have y7 := blk_cell hy5 7; have y8 := blk_cell hy5 8; have y9 := blk_cell hy5 9; have y10 := blk_cell hy5 10; have y11 := blk_cell hy5 11; have y12 := blk_cell hy5 12; have y13 := blk_cell hy5 13; go_loud (have hN4' := hK5.names (Kd.R_below hN4 hb4)); go_loud (have hD4' := hK5.bytes (Kd.R_below hD4 hb4)); go_loud (have hp5 : PlayIn w b (1 + (r : Int)) (.slice VB ps4.length vb) _ css5 ps4 wr.heap.size #[.int .i64 o0, .int .i64 on, .int .i64 q.f0, .int .i64 q.f1, .int .i64 q.f2, .int .i64 q.f3, .int .i64 q.f4, .int .i64 q.f5, .int .i64 q.f6, .int .i64 q.f7, .int .i64 q.f8, .int .i64 q.f9, .string q.f10, .slice A q.f11.length c, .int .i64 q.f12, .slice D q.f13.length d] := ⟨hS5.below hb5, (hb5.block _ (Array.getElem?_eq_some_iff.1 (hK5 _ _ _ (by decide) hx4)).1).trans (hK5 _ _ _ (by decide) hx4)⟩))
              | (go_at_call 14; go_loud (refine (same_eq pq.f0 pq.f1 pq.f2 pq.f3 pq.f4 pq.f5 pq.f6 pq.f7 pq.f8 pq.f9 pq.f10 pq.f11 pq.f12 pq.f13 A5 A4 D5 D4 c5 c4 d5 d4 _ hq11 (Kd.C_below (Kd.R_reads' hN5).2.2 hb5) (Kd.C_below (Kd.R_reads' hN4').2.2 hb5) (Kd.C_below (Kd.R_reads' hD5).2.2 hb5) (Kd.C_below (Kd.R_reads' hD4').2.2 hb5) (Kd.R_reads' hN5).2.1 (Kd.R_reads' hN4').2.1 (row_head hD5) (row_head hD4')).mono ?_); rintro e w6 ⟨rfl, hb6⟩; go_loud (have HPL := Aside0.mk (hp5.below hb6))))
            clear hPr hPt hS3 hS4 hS4' hS5 hp5 hK4 hK5 hN4 hN5 hD4 hD5 hN4' hD4' hx3 hx4 hy4 hy5 hb3 hb3r hb4 hb5 hb6
            go_meet
            case rel => exact ⟨VB, vb, css5, ps4, rfl, HPL.out, HSM.out⟩
        by_cases e5 : k7 = 5
        · subst e5
          as_aux_lemma =>
            clear hAsk
            have hPr := fun W (h : OnceIn w b (1 + (r : Int)) (.slice VA ps.length vc) W css ps ps) => refPick_u h on hp8
            have hPt := fun W V (h : OnceIn w b (1 + (r : Int)) V W css ps (pickS ps on)) => pick_u h on
            have hsm := sm_pickQ HP.out on
            have HSM := Aside0.mk (sm_pickS HP.out on)
            generalize pickQ ps on = pq at hPr hPt hsm
            generalize pickC ps on = pc at hPr hPt
            generalize pickS ps on = ps4 at hPr hPt HSM
            have hq11 : pq.f11.length ≤ 1000 := by have := hsm.1; omega
            go_wp2_with (first
              | (go_at_call 18; (with_reducible refine (hPr _ hS3).mono ?_); rintro e w4 ⟨VB, vb, A4, c4, D4, d4, rfl, hS4, hK4, hN4, hD4⟩; go_loud (have hb4 := below_alloc (Below.refl w4.heap.size w4) (.cells #[.int .i64 pq.f0, .int .i64 pq.f1, .int .i64 pq.f2, .int .i64 pq.f3, .int .i64 pq.f4, .int .i64 pq.f5, .int .i64 pq.f6, .int .i64 pq.f7, .int .i64 pq.f8, .int .i64 pq.f9, .string pq.f10, .slice A4 pq.f11.length c4, .int .i64 pq.f12, .slice D4 pq.f13.length d4] 32)); go_loud (have hS4' := hS4.below hb4); go_loud (have hx4 := (hb4.block _ (Array.getElem?_eq_some_iff.1 (hK4 _ _ _ (by decide) hx3)).1).trans (hK4 _ _ _ (by decide) hx3)); go_loud (have hy4 := heap_alloc_new w4 (.cells #[.int .i64 pq.f0, .int .i64 pq.f1, .int .i64 pq.f2, .int .i64 pq.f3, .int .i64 pq.f4, .int .i64 pq.f5, .int .i64 pq.f6, .int .i64 pq.f7, .int .i64 pq.f8, .int .i64 pq.f9, .string pq.f10, .slice A4 pq.f11.length c4, .int .i64 pq.f12, .slice D4 pq.f13.length d4] 32)); have bx4 := blk_cell hx4 1)
              | (go_at_call 13; (with_reducible refine (hPt _ _ hS4').mono ?_); rintro e w5 ⟨A5, c5, D5, d5, css5, rfl, hS5, hK5, hN5, hD5⟩; go_loud (have hb5 := below_alloc (Below.refl w5.heap.size w5) (.cells #[.int .i64 pq.f0, .int .i64 pq.f1, .int .i64 pq.f2, .int .i64 pq.f3, .int .i64 pq.f4, .int .i64 pq.f5, .int .i64 pq.f6, .int .i64 pq.f7, .int .i64 pq.f8, .int .i64 pq.f9, .string pq.f10, .slice A5 pq.f11.length c5, .int .i64 pq.f12, .slice D5 pq.f13.length d5] 32)); go_loud (have hy5 := (hb5.block _ (Array.getElem?_eq_some_iff.1 (hK5 _ _ _ (by decide) hy4)).1).trans (hK5 _ _ _ (by decide) hy4)); have y0 := blk_cell hy5 0; have y1 := blk_cell hy5 1; have y2 := blk_cell hy5 2; have y3 := blk_cell hy5 3; have y4 := blk_cell hy5 4; have y5 := blk_cell hy5 5; have y6 := blk_cell hy5 6; have y7 := blk_cell hy5 7; have y8 := blk_cell hy5 8; have y9 := blk_cell hy5 9; have y10 := blk_cell hy5 10; have y11 := blk_cell hy5 11; have y12 := blk_cell hy5 12; have y13 := blk_cell hy5 13; go_loud (have hN4' := hK5.names (Kd.R_below hN4 hb4)); go_loud (have hD4' := hK5.bytes (Kd.R_below hD4 hb4)); go_loud (have hp5 : PlayIn w b (1 + (r : Int)) (.slice VB ps4.length vb) _ css5 ps4 wr.heap.size #[.int .i64 o0, .int .i64 on, .int .i64 q.f0, .int .i64 q.f1, .int .i64 q.f2, .int .i64 q.f3, .int .i64 q.f4, .int .i64 q.f5, .int .i64 q.f6, .int .i64 q.f7, .int .i64 q.f8, .int .i64 q.f9, .string q.f10, .slice A q.f11.length c, .int .i64 q.f12, .slice D q.f13.length d] := ⟨hS5.below hb5, (hb5.block _ (Array.getElem?_eq_some_iff.1 (hK5 _ _ _ (by decide) hx4)).1).trans (hK5 _ _ _ (by decide) hx4)⟩))
              | (go_at_call 14; go_loud (refine (same_eq pq.f0 pq.f1 pq.f2 pq.f3 pq.f4 pq.f5 pq.f6 pq.f7 pq.f8 pq.f9 pq.f10 pq.f11 pq.f12 pq.f13 A5 A4 D5 D4 c5 c4 d5 d4 _ hq11 (Kd.C_below (Kd.R_reads' hN5).2.2 hb5) (Kd.C_below (Kd.R_reads' hN4').2.2 hb5) (Kd.C_below (Kd.R_reads' hD5).2.2 hb5) (Kd.C_below (Kd.R_reads' hD4').2.2 hb5) (Kd.R_reads' hN5).2.1 (Kd.R_reads' hN4').2.1 (row_head hD5) (row_head hD4')).mono ?_); rintro e w6 ⟨rfl, hb6⟩; go_loud (have HPL := Aside0.mk (hp5.below hb6))))
            clear hPr hPt hS3 hS4 hS4' hS5 hp5 hK4 hK5 hN4 hN5 hD4 hD5 hN4' hD4' hx3 hx4 hy4 hy5 hb3 hb3r hb4 hb5 hb6
            go_meet
            case rel => exact ⟨VB, vb, css5, ps4, rfl, HPL.out, HSM.out⟩
        by_cases e6 : k7 = 6
        · subst e6
          as_aux_lemma =>
            clear hAsk
            have hFr := fun W (h : OnceIn w b (1 + (r : Int)) (.slice VA ps.length vc) W css ps ps) => refFlush_ok on h.ho h.hb hp8
            have hFt := fun W V (h : OnceIn w b (1 + (r : Int)) V W css ps (ps.eraseIdx (findQ ps on))) => flush_u h on
            have HSM := Aside0.mk (sm_erase HP.out (findQ ps on))
            generalize ps.eraseIdx (findQ ps on) = ps4 at hFr hFt HSM
            generalize decide (findQ ps on < ps.length) = B at hFr hFt
            go_wp2_with (first
              | (go_at_call 19; (with_reducible refine (hFr _ hS3).mono ?_); rintro e w4 ⟨VB, vb, rfl, hV4, hb4⟩; go_loud (have hS4 := hS3.refd hb4 hV4); go_loud (have hx4 := (hb4.block _ (Array.getElem?_eq_some_iff.1 hx3).1).trans hx3); have bx4 := blk_cell hx4 1)
              | (go_at_call 17; (with_reducible refine (hFt _ _ hS4).mono ?_); rintro e w5 ⟨css5, rfl, hS5, hK5⟩; go_loud (have HPL : Aside0 (PlayIn w b (1 + (r : Int)) (.slice VB ps4.length vb) w5 css5 ps4 wr.heap.size #[.int .i64 o0, .int .i64 on, .int .i64 q.f0, .int .i64 q.f1, .int .i64 q.f2, .int .i64 q.f3, .int .i64 q.f4, .int .i64 q.f5, .int .i64 q.f6, .int .i64 q.f7, .int .i64 q.f8, .int .i64 q.f9, .string q.f10, .slice A q.f11.length c, .int .i64 q.f12, .slice D q.f13.length d]) := ⟨⟨hS5, hK5 _ _ _ (by decide) hx4⟩⟩)))
            clear hFr hFt hS3 hS4 hS5 hK5 hx3 hx4 hb3 hb3r hb4 hV4
            go_meet
            case rel => exact ⟨VB, vb, css5, ps4, rfl, HPL.out, HSM.out⟩
        · as_aux_lemma =>
            have hsm : Sm (⟨r0, r1.tmod 10, r2, r3, r4, r5, r6, r7, r8, r9, rs, rn, r12, rb⟩ : S32) := ⟨hrn, hrb⟩
            have hPr := fun W A1 c1 D1 d1 (h : OnceIn w b (1 + (r : Int)) (.slice VA ps.length vc) W css ps ps) (hA : Kd.R Kd.string 9 W w.heap.size (fun _ => True) (.slice A1 rn.length c1) rn) (hD : Kd.R (Kd.int .u8) 5 W w.heap.size (fun _ => True) (.slice D1 rb.length d1) rb) => refPut_ok h.ho h.hb r0 (r1.tmod 10) r2 r3 r4 r5 r6 r7 r8 r9 rs A1 c1 rn r12 D1 d1 rb (1 + (r : Int)) hA hD hp8
            have hPt := fun W V A1 c1 D1 d1 (h : OnceIn w b (1 + (r : Int)) V W css ps (putSQ (1 + (r : Int)) ps (⟨r0, r1.tmod 10, r2, r3, r4, r5, r6, r7, r8, r9, rs, rn, r12, rb⟩ : S32))) (hA : Kd.C Kd.string W A1 rn.length rn) (hD : Kd.C (Kd.int .u8) W D1 rb.length rb) => put_u h hm8 (⟨r0, r1.tmod 10, r2, r3, r4, r5, r6, r7, r8, r9, rs, rn, r12, rb⟩ : S32) A1 c1 D1 d1 hA hD hrn hrb
            simp only at hPt
            have HSM := Aside0.mk (sm_putS HP.out (1 + (r : Int)) hsm)
            generalize putSQ (1 + (r : Int)) ps (⟨r0, r1.tmod 10, r2, r3, r4, r5, r6, r7, r8, r9, rs, rn, r12, rb⟩ : S32) = ps4 at hPr hPt HSM
            generalize putCQ (1 + (r : Int)) ps (r1.tmod 10) = pc at hPr hPt
            go_wp2_with (first
              | (go_at_call 21; (with_reducible refine (hAsk _ hb3r).mono ?_); rintro e w4 ⟨A4, c4, D4, d4, rfl, hN4, hD4, hb4⟩; go_loud (have hS4 := hS3.below hb4); go_loud (have hx4 := (hb4.block _ (Array.getElem?_eq_some_iff.1 hx3).1).trans hx3))
              | (go_at_call 20; go_loud (refine (hPr _ A4 c4 D4 d4 hS4 (Kd.R_lower hN4 hS3.hb.size) (Kd.R_lower hD4 hS3.hb.size)).mono ?_); rintro e w5 ⟨VB, vb, rfl, hV5, hb5⟩; go_loud (have hS5 := hS4.refd hb5 hV5); go_loud (have hx5 := (hb5.block _ (Array.getElem?_eq_some_iff.1 hx4).1).trans hx4); go_loud (have hb5r := below_step hb3r (below_step hb4 hb5)); have b5_0 := blk_cell hx5 0; have b5_1 := blk_cell hx5 1; have b5_2 := blk_cell hx5 2; have b5_3 := blk_cell hx5 3; have b5_4 := blk_cell hx5 4; have b5_5 := blk_cell hx5 5; have b5_6 := blk_cell hx5 6; have b5_7 := blk_cell hx5 7; have b5_8 := blk_cell hx5 8; have b5_9 := blk_cell hx5 9; have b5_10 := blk_cell hx5 10; have b5_11 := blk_cell hx5 11; have b5_12 := blk_cell hx5 12; have b5_13 := blk_cell hx5 13; have b5_14 := blk_cell hx5 14; have b5_15 := blk_cell hx5 15; skip)
              | (go_at_call 21; (with_reducible refine (hAsk _ hb5r).mono ?_); rintro e w6 ⟨A6, c6, D6, d6, rfl, hN6, hD6, hb6⟩; go_loud (have hS6 := hS5.below hb6); go_loud (have hx6 := (hb6.block _ (Array.getElem?_eq_some_iff.1 hx5).1).trans hx5))
              | (go_at_call 10; go_loud (refine (hPt _ _ A6 c6 D6 d6 hS6 (Kd.R_reads' hN6).2.2 (Kd.R_reads' hD6).2.2).mono ?_); rintro e w7 ⟨css5, rfl, hS7, hK7⟩; go_loud (have HPL : Aside0 (PlayIn w b (1 + (r : Int)) (.slice VB ps4.length vb) w7 css5 ps4 wr.heap.size #[.int .i64 o0, .int .i64 on, .int .i64 q.f0, .int .i64 q.f1, .int .i64 q.f2, .int .i64 q.f3, .int .i64 q.f4, .int .i64 q.f5, .int .i64 q.f6, .int .i64 q.f7, .int .i64 q.f8, .int .i64 q.f9, .string q.f10, .slice A q.f11.length c, .int .i64 q.f12, .slice D q.f13.length d]) := ⟨⟨hS7, hK7 _ _ _ (by decide) hx6⟩⟩)))
            clear hPr hPt hAsk hS3 hS4 hS5 hS6 hS7 hK7 hx3 hx4 hx5 hx6 hb3 hb3r hb4 hb5 hb5r hb6 hN4 hD4 hN6 hD6 hV5
            go_meet
            case rel => exact ⟨VB, vb, css5, ps4, rfl, HPL.out, HSM.out⟩
      case rest =>
        obtain ⟨VB, vb, css5, ps4, rfl, HPL0, HSM⟩ := hcut
        have HPL := Aside0.mk HPL0.out
        clear HPL0
        have hHas := fun W (h : PlayIn w b (1 + (r : Int)) (.slice VB ps4.length vb) W css5 ps4 wr.heap.size #[.int .i64 o0, .int .i64 on, .int .i64 q.f0, .int .i64 q.f1, .int .i64 q.f2, .int .i64 q.f3, .int .i64 q.f4, .int .i64 q.f5, .int .i64 q.f6, .int .i64 q.f7, .int .i64 q.f8, .int .i64 q.f9, .string q.f10, .slice A q.f11.length c, .int .i64 q.f12, .slice D q.f13.length d]) => has_ok b (1 + (r : Int)) on css5 W h.s.ht
        rw [has_eq HPL.out.s on] at hHas
        have hFnd := fun W (h : PlayIn w b (1 + (r : Int)) (.slice VB ps4.length vb) W css5 ps4 wr.heap.size #[.int .i64 o0, .int .i64 on, .int .i64 q.f0, .int .i64 q.f1, .int .i64 q.f2, .int .i64 q.f3, .int .i64 q.f4, .int .i64 q.f5, .int .i64 q.f6, .int .i64 q.f7, .int .i64 q.f8, .int .i64 q.f9, .string q.f10, .slice A q.f11.length c, .int .i64 q.f12, .slice D q.f13.length d]) => refFind_ok VB vb ps4 on W (Kd.R_reads' h.s.ho).2.2
        generalize findQI ps4 on = F at hHas hFnd
        have hpd := HPL.out.below (below_drew (Below.refl _ _))
        have bd := blk_cell hpd.x 1
        go_wp2_with fail
        go_region_with (first
          | (go_at_call 22; go_loud (refine (like_ok hpd.s).mono ?_); rintro e w11 ⟨rfl, hb11⟩; go_loud (have hp11 := hpd.below hb11); have b11 := blk_cell hp11.x 1)
          | (go_at_call 15; go_loud (refine (hHas _ (by assumption)).mono ?_); rintro e w12 ⟨rfl, hb12⟩; go_loud (have hp12 := PlayIn.below (by assumption) hb12); have b12 := blk_cell hp12.x 1)
          | (go_at_call 23; go_loud (refine (hFnd _ (by assumption)).mono ?_); rintro e w13 ⟨rfl, hb13⟩; go_loud (have hp13 := PlayIn.below (by assumption) hb13); have b13 := blk_cell hp13.x 1))
        all_goals go_wp2
        all_goals
          go_roundg (N - (i + 1))
          case measure => omega
          case rel => exact ⟨i + 1, css5, ps4, by omega, by omega, by go_num, VB, vb, rfl, PlayIn.s (by assumption), HSM.out⟩
    · have hiN2 : ¬ i < N := hlt
      have hli : ¬ (i : Int) < l.length ∨ ((i : Int) < l.length ∧ ¬ (i : Int) < 24) := by have := HN.out; omega
      rcases hli with f1 | ⟨f1, f2⟩
      all_goals
        go_wp2_with (go_at_call 11; (with_reducible refine (lives_ok _).mono ?_); rintro e w5 ⟨rfl, hb5⟩)
        go_ret
        exact ⟨rfl, below_step HS.out.hb hb5⟩

end Go.Proofs.Ytenhnkldhodegaa.R
