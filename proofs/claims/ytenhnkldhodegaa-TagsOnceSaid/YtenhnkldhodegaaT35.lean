import Derived.Test.YtenhnkldhodegaaT32
import Derived.Outline
import Derived.Shelf.Abstract
import Derived.Deep.LoopGhost
import Derived.Deep.Draws
import Derived.Laws.EntriesVeiled
import Derived.Laws.ResultCell
import Derived.Laws.Rows
import Derived.Deep.QuietTactic
import Derived.Deep.RegionWith
import Derived.BigQuiet
import Derived.Deep.MidRow
import Derived.Laws.Tables
import Derived.Deep.WholeRow
import Derived.Lib.SliceRun
import Derived.LaidEql
import Derived.RowKitTokens
import Derived.Stop.Asserts
import Derived.Laws.CopyRow
import Derived.Lib.BufferRead
import Derived.Lib.SlBytesRow
import Derived.Test.YtenhnkldhodegaaGd0
import Derived.Test.YtenhnkldhodegaaGd1
namespace Go.Proofs.Ytenhnkldhodegaa.R
open Go.RowKit Go.Proofs.YtenhnkldhodegaaW.PrintWords Go.Proofs.YtenhnkldhodegaaW.PrintLast Go.Proofs.YtenhnkldhodegaaW.PrintMore
attribute [local go_sem] max2_int min2_int max_two min_two max_three min_three max_four min_four   -- for this text's walks alone
set_option linter.unusedVariables false
set_option linter.unusedSimpArgs false
set_option maxRecDepth 100000 in
set_option maxHeartbeats 100000000 in
theorem TagsOnce.walk_long (A0 : Option Addr) (c0 : Nat) (l0 : List S32) (A1 : Option Addr) (c1 : Nat) (l1 : List Int) (w : World) (hr0 : Kd.C k32 w A0 l0.length l0) (hi0 : ∀ q ∈ l0, I64 q) (hr1 : Kd.C (Kd.int .i64) w A1 l1.length l1) (hi1 : ∀ x ∈ l1, i64 x) (hcase : 8 < l0.length) :
    Calls Try.prog 5 #[.slice A0 l0.length c0, .slice A1 l1.length c1] w fun e w' => e = .returned (.bool true) ∧ Below w.heap.size w w' := by
  have hN := fun W => new_ok 8 W (by omega) (by omega)
  have hu := Try.underlying32
  have HR0 := Aside0.mk hr0
  have HR1 := Aside0.mk hr1
  have HI0 := Aside0.mk hi0
  have HI1 := Aside0.mk hi1
  clear hr0 hr1 hi0 hi1
  go_enter Try.func5, Try.ntmps5
  go_wp2_with (go_at_call 9; (with_reducible refine (hN _).mono ?_); rintro e w1 ⟨rfl, hb1, hT1⟩)
  have HS1 : Aside (OnceIn w w.heap.size (.slice none 0 0) w1 [] [] []) := ⟨hb1, hT1, Nat.le_refl _, rfl, fun j c q hj _ => by simp at hj, Kd.R_nil _ _ _ _ _⟩
  obtain ⟨b, hbd⟩ : ∃ b, b = w.heap.size := ⟨_, rfl⟩
  clear hb1 hT1 hN
  obtain ⟨N, hNd⟩ : ∃ N, N = min l0.length 8 := ⟨_, rfl⟩
  have HN := Aside0.mk hNd
  clear hNd
  go_loopg [7, 8] N (fun gg s7 s8 wv => ∃ (i : Nat) (css : List (List Value)) (os : List S32), i ≤ N ∧ N - i ≤ gg ∧ s8 = .int .i64 i ∧ os.length = i ∧ ∃ VA vc, s7 = .slice VA i vc ∧ Aside (OnceIn w w.heap.size (.slice VA i vc) wv css os os) ∧ Aside (∀ (j : Nat) (q : S32), os[j]? = some q → q.f1 = j ∧ q.f11.length ≤ 8 ∧ q.f13.length ≤ 30))
  case atStart => exact ⟨0, [], [], Nat.zero_le _, by omega, rfl, rfl, none, 0, rfl, HS1, fun j q hj => by simp at hj⟩
  case round =>
    obtain ⟨i, css, os, hiN, hgi, rfl, hol, VA, vc, rfl, HS, HO⟩ := hrel
    by_cases hlt : i < N
    · have hli : (i : Int) < l0.length := by have := HN.out; omega
      have h8i : (i : Int) < 8 := by have := HN.out; omega
      have hlin : i < l0.length := by omega
      obtain ⟨q, hq⟩ : ∃ q, l0[i]? = some q := ⟨_, List.getElem?_eq_getElem hlin⟩
      obtain ⟨ad, A11, c11, A13, c13, rfl, z0, z1, z2, z3, z4, z5, z6, z7, z8, z9, z10, z11, z12, z13, hc11, hC11, hc13, hC13⟩ := ask_at (Kd.C_below HR0.out HS.out.hb) i hq
      obtain ⟨i0, i1, i2, i3, i4, i5, i6, i7, i8, i9, i12⟩ := HI0.out q (List.mem_of_getElem? hq)
      obtain ⟨r0, r2, r3, r4, r5, r6, r7, r8, r9, rs, rn, r12, rb, hG, hrn, hrb⟩ := good_f q.f0 q.f1 q.f2 q.f3 q.f4 q.f5 q.f6 q.f7 q.f8 q.f9 q.f10 q.f11 q.f12 q.f13 i0 i1 i2 i3 i4 i5 i6 i7 i8 i9 i12
      generalize arF q.f1 65536 = r1 at hG
      have hGd := good_ok q.f0 q.f1 q.f2 q.f3 q.f4 q.f5 q.f6 q.f7 q.f8 q.f9 q.f10 A11 c11 q.f11 q.f12 A13 c13 q.f13 r0 r1 r2 r3 r4 r5 r6 r7 r8 r9 rs rn r12 rb hG wr hC11 hc11 hC13 hc13
      clear hG i0 i1 i2 i3 i4 i5 i6 i7 i8 i9 i12 hC11 hC13 hc11 hc13 hq
      go_wp2_with (first
        | (go_at_call 12; (with_reducible refine hGd.mono ?_); rintro e w2 ⟨AX, cX, DX, dX, rfl, hRX1, hRX2, hb2⟩)
        | (at_builtin; go_loud (have hW := below_step hb2 (below_alloc (below_alloc (Below.refl w2.heap.size w2) (.cells #[.int .i64 r0, .int .i64 i, .int .i64 r2, .int .i64 r3, .int .i64 r4, .int .i64 r5, .int .i64 r6, .int .i64 r7, .int .i64 r8, .int .i64 r9, .string rs, .slice AX rn.length cX, .int .i64 r12, .slice DX rb.length dX] 32)) (.cells #[.int .i64 r0, .int .i64 i, .int .i64 r2, .int .i64 r3, .int .i64 r4, .int .i64 r5, .int .i64 r6, .int .i64 r7, .int .i64 r8, .int .i64 r9, .string rs, .slice AX rn.length cX, .int .i64 r12, .slice DX rb.length dX] 32))); go_loud (have hm := ask_made (r0 := r0) (r1 := (i : Int)) (r2 := r2) (r3 := r3) (r4 := r4) (r5 := r5) (r6 := r6) (r7 := r7) (r8 := r8) (r9 := r9) (r12 := r12) (rs := rs) HS.out.ho hW HS.out.hb.size (Kd.R_below hRX1 (below_alloc (below_alloc (Below.refl _ _) _) _)) (Kd.R_below hRX2 (below_alloc (below_alloc (Below.refl _ _) _) _))); go_loud (refine Kd.R_append_rows k32 (w0 := w) w.heap.size rfl (.tmp 44) (.tmp 46) 40 32 (.agg #[(.int .i64 0), (.int .i64 0), (.int .i64 0), (.int .i64 0), (.int .i64 0), (.int .i64 0), (.int .i64 0), (.int .i64 0), (.int .i64 0), (.int .i64 0), (.string ⟨#[]⟩), (.slice none 0 0), (.int .i64 0), (.slice none 0 0)]) 152 rfl Try.underlying40 info32 rfl (by decide) (by omega) _ os [(⟨r0, i, r2, r3, r4, r5, r6, r7, r8, r9, rs, rn, r12, rb⟩ : S32)] _ 1 1 (fun _ => True) _ rfl rfl (Kd.R_below HS.out.ho hW) (one_row hm) (fun _ _ h => h) (fun k hk => ⟨trivial, hk⟩) (fun _ _ => trivial) (below_step HS.out.hb hW) (Nat.le_trans HS.out.hb.size hW.size) (by omega) ?_); intro V1 w4 hV1 hB4 hg4 hat4; go_loud (have hx4 := box_kept HS.out.ho hb2 hg4); have u0_ := blk_cell hx4 0; have u1_ := blk_cell hx4 1; have u2_ := blk_cell hx4 2; have u3_ := blk_cell hx4 3; have u4_ := blk_cell hx4 4; have u5_ := blk_cell hx4 5; have u6_ := blk_cell hx4 6; have u7_ := blk_cell hx4 7; have u8_ := blk_cell hx4 8; have u9_ := blk_cell hx4 9; have u10_ := blk_cell hx4 10; have u11_ := blk_cell hx4 11; have u12_ := blk_cell hx4 12; have u13_ := blk_cell hx4 13; go_loud (have hN4 := names_kept HS.out.ho hW (Kd.R_below hRX1 (below_alloc (below_alloc (Below.refl _ _) _) _)) hg4); go_loud (have hD4 := bytes_kept HS.out.ho hW (Kd.R_below hRX2 (below_alloc (below_alloc (Below.refl _ _) _) _)) hg4); go_loud (have hS4 := (HS.out.below hW).app hV1 hB4 hg4); go_loud (have hput := put_any w.heap.size 8 css r0 (i : Int) r2 r3 r4 r5 r6 r7 r8 r9 rs AX cX rn r12 DX dX rb w4 hS4.ht (hS4.gone (asks_tags hol HO.out)) (by have := HS.out.hl; omega) (by omega) (Kd.R_reads' hN4).2.2 (Kd.R_reads' hD4).2.2 (by omega) (by omega)))
        | (go_at_call 10; (with_reducible refine hput.mono ?_); rintro e w6 ⟨rfl, AY, cY, DY, dY, w5, hY1, hY2, hb5, hg6, hT6⟩))
      have hM6 : k32.M w5 w.heap.size (fun _ => True) (⟨r0, (i : Int), r2, r3, r4, r5, r6, r7, r8, r9, rs, rn, r12, rb⟩ : S32) _ := k32_mkM w5 w.heap.size (fun _ => True) (⟨r0, (i : Int), r2, r3, r4, r5, r6, r7, r8, r9, rs, rn, r12, rb⟩ : S32) (Kd.R_lower hY1 hB4.size) (Kd.R_lower hY2 hB4.size)
      have hS6 := hS4.put hb5 hg6 hT6 hM6
      obtain ⟨VB, vb, hVe, -, -⟩ := Kd.R_reads hV1
      rw [show (os ++ [(⟨r0, (i : Int), r2, r3, r4, r5, r6, r7, r8, r9, rs, rn, r12, rb⟩ : S32)]).length = i + 1 by simp [hol]] at hVe
      subst hVe
      have HS6 := Aside0.mk hS6
      have HO6 := Aside0.mk (asks_more (q := (⟨r0, (i : Int), r2, r3, r4, r5, r6, r7, r8, r9, rs, rn, r12, rb⟩ : S32)) hol HO.out rfl hrn hrb)
      clear hM6 hS6 hS4 hV1 hB4 hg4 hat4 hx4 hN4 hD4 hY1 hY2 hb5 hg6 hT6 hW hm hRX1 hRX2 hb2
      go_roundg (N - (i + 1))
      case measure => omega
      case rel => exact ⟨i + 1, _, _, by omega, by omega, by go_num, by simp [hol], VB, vb, rfl, HS6.out, HO6.out⟩
    · obtain rfl : i = N := by omega
      have hi8 : i ≤ 8 := by have := HN.out; omega
      have hmk := print_make_of (P := Try.prog) 41 4 (.bool false) 1 Try.underlying41 (by kernel_rfl) rfl (by omega) i (by omega)
      have f1 : (i : Int) < l0.length := by have := HN.out; omega
      have f2 : ¬ (i : Int) < 8 := by have := HN.out; omega
      go_wp2
      have HS2 := Aside0.mk (HS.out.below (below_alloc (Below.refl _ _) (.cells (madeCells #[.bool false] i) 4)))
      have HG2 := Aside0.mk (seen_new wr i)
      have HL2 := Aside0.mk (LeftOf.start os (fun j q h => (HO.out j q h).1))
      rw [hol] at HL2
      have hgw : w.heap.size < wr.heap.size := HS.out.ht.lt
      generalize wr.heap.size = g at *
      go_loopg [11] i (fun gg s11 wv => ∃ (j : Nat) (css' : List (List Value)) (ps : List S32) (sn : List Bool), j ≤ i ∧ i - j ≤ gg ∧ s11 = .int .i64 j ∧ ps.length + j = i ∧ sn.length = i ∧ Aside (OnceIn w w.heap.size (.slice VA i vc) wv css' ps os) ∧ Aside (LeftOf ps os sn) ∧ Aside (wv.heap[g]? = some (.cells (sn.map Value.bool).toArray 4 (0, 0))))
      case atStart => exact ⟨0, css, os, List.replicate i false, Nat.zero_le _, by omega, rfl, by omega, by simp, HS2.out, HL2.out, HG2.out⟩
      case round =>
        obtain ⟨j, css', ps, sn, hj, hgj, rfl, hpl, hsl, HS3, HL3, HG3⟩ := hrel
        by_cases hlt2 : j < i
        · have hji : (j : Int) < (i : Int) := by omega
          have hP : 0 < ps.length := by omega
          have hil : os.length = i := hol
          have hil : os.length = i := hol
          by_cases hjr : j < l1.length
          rotate_left
          focus
            have f3 : ¬ (j : Int) < l1.length := by omega
            have hPk := fun W (h : OnceIn w w.heap.size (.slice VA i vc) W css' ps os) => once_pick h HL3.out 0 hP
            simp only [show ((0 : Nat) : Int) = 0 from rfl] at hPk
            have hSa := HS3.out
            have hGa := HG3.out
            go_wp2_with (go_at_call 13; (with_reducible refine (hPk _ hSa).mono ?_); rintro e w8 ⟨q, t, A8, c8, D8, d8, css8, ps8, rfl, hqt, hqo, hqs, hpl8, hS8, hL8, hne8, hA8, hD8, hg8⟩; go_loud (have hb9 := below_alloc (Below.refl w8.heap.size w8) (.cells #[.int .i64 q.f0, .int .i64 t, .int .i64 q.f2, .int .i64 q.f3, .int .i64 q.f4, .int .i64 q.f5, .int .i64 q.f6, .int .i64 q.f7, .int .i64 q.f8, .int .i64 q.f9, .string q.f10, .slice A8 q.f11.length c8, .int .i64 q.f12, .slice D8 q.f13.length d8] 32)); go_loud (have hS9 := hS8.below hb9); go_loud (have hG8 := block_of hg8 hGa (Nat.ne_of_gt hgw)); go_loud (have hG9 := (hb9.block g (Array.getElem?_eq_some_iff.1 hG8).1).trans hG8); go_loud (have sc := seen_at hG9 hqs); go_loud (obtain ⟨ad9, AO, cO, DO, dO, rfl, y0, y1, y2, y3, y4, y5, y6, y7, y8, y9, y10, y11, y12, y13, hcO, hCO, hdO, hCD, hDO⟩ := own_at hS9.ho t hqo); go_loud (rw [hqt] at y1); go_loud (have htn := (List.getElem?_eq_some_iff.1 hqo).1); go_loud (have htI : (t : Int) < (i : Int) := by omega); go_loud (have ht0 : ¬ (t : Int) < 0 := by omega); go_loud (have hti2 : ¬ (i : Int) ≤ (t : Int) := by omega))
          rotate_left
          focus
            have f3 : (j : Int) < l1.length := by omega
            obtain ⟨ad1, e1, hx1⟩ := Kd.at_int (Kd.C_below HR1.out HS3.out.hb) (j : Int) (by omega) f3
            rw [Int.toNat_natCast] at hx1
            have hxi : i64 (rd l1 (j : Int)) := HI1.out _ (by simp [rd, hjr])
            have hA := fun W => around_any (rd l1 (j : Int)) ((i : Int) - (j : Int)) (by omega) hxi W
            have hAr := arF_range (rd l1 (j : Int)) ((i : Int) - (j : Int)) (by omega)
            generalize arF (rd l1 (j : Int)) ((i : Int) - (j : Int)) = k0 at hA hAr
            obtain ⟨k, rfl⟩ : ∃ k : Nat, k0 = k := ⟨k0.toNat, by omega⟩
            have hPk := fun W (h : OnceIn w w.heap.size (.slice VA i vc) W css' ps os) => once_pick h HL3.out k (by omega)
            subst e1
            clear hAr hxi
            go_wp2_with (first
              | (go_at_call 8; (with_reducible refine (hA _).mono ?_); rintro e wa ⟨rfl, hba⟩; go_loud (have hSa := HS3.out.below hba); go_loud (have hGa := (hba.block g (Array.getElem?_eq_some_iff.1 HG3.out).1).trans HG3.out))
              | (go_at_call 13; (with_reducible refine (hPk _ hSa).mono ?_); rintro e w8 ⟨q, t, A8, c8, D8, d8, css8, ps8, rfl, hqt, hqo, hqs, hpl8, hS8, hL8, hne8, hA8, hD8, hg8⟩; go_loud (have hb9 := below_alloc (Below.refl w8.heap.size w8) (.cells #[.int .i64 q.f0, .int .i64 t, .int .i64 q.f2, .int .i64 q.f3, .int .i64 q.f4, .int .i64 q.f5, .int .i64 q.f6, .int .i64 q.f7, .int .i64 q.f8, .int .i64 q.f9, .string q.f10, .slice A8 q.f11.length c8, .int .i64 q.f12, .slice D8 q.f13.length d8] 32)); go_loud (have hS9 := hS8.below hb9); go_loud (have hG8 := block_of hg8 hGa (Nat.ne_of_gt hgw)); go_loud (have hG9 := (hb9.block g (Array.getElem?_eq_some_iff.1 hG8).1).trans hG8); go_loud (have sc := seen_at hG9 hqs); go_loud (obtain ⟨ad9, AO, cO, DO, dO, rfl, y0, y1, y2, y3, y4, y5, y6, y7, y8, y9, y10, y11, y12, y13, hcO, hCO, hdO, hCD, hDO⟩ := own_at hS9.ho t hqo); go_loud (rw [hqt] at y1); go_loud (have htn := (List.getElem?_eq_some_iff.1 hqo).1); go_loud (have htI : (t : Int) < (i : Int) := by omega); go_loud (have ht0 : ¬ (t : Int) < 0 := by omega); go_loud (have hti2 : ¬ (i : Int) ≤ (t : Int) := by omega)))
          all_goals
            have hq11 : q.f11.length ≤ 1000 := by have := (HO.out t q hqo).2.1; omega
            have hHas := fun W (h : TagsIn W w.heap.size 8 css8) => has_ok w.heap.size 8 (t : Int) css8 W h
            rw [decide_eq_false (hS8.gone hne8)] at hHas
            have hlw := (Array.getElem?_eq_some_iff.1 hG8).1
            have HS8 := Aside0.mk hS8
            have HG8 := Aside0.mk hG8
            have HS9 := Aside0.mk hS9
            have HL8 := Aside0.mk hL8
            have HA8 := Aside0.mk hA8
            have HD8 := Aside0.mk hD8
            have HCO := Aside0.mk hCO
            have HCD := Aside0.mk hCD
            clear hS8 hS9 hL8 hA8 hD8 hG8 hG9 hCO hCD hPk hSa hGa hne8 hg8
            go_region_with (first
              | (go_at_call 14; go_loud (refine (same_eq q.f0 (t : Int) q.f2 q.f3 q.f4 q.f5 q.f6 q.f7 q.f8 q.f9 q.f10 q.f11 q.f12 q.f13 A8 AO D8 DO c8 cO d8 dO _ hq11 (Kd.C_below (Kd.R_reads' HA8.out).2.2 (below_drew hb9)) (Kd.C_below HCO.out (below_drew (Below.refl _ _))) (Kd.C_below (Kd.R_reads' HD8.out).2.2 (below_drew hb9)) (Kd.C_below HCD.out (below_drew (Below.refl _ _))) (Kd.R_reads' HA8.out).2.1 hcO (row_head HD8.out) hDO).mono ?_); rintro e w10 ⟨rfl, hb10⟩; go_loud (have hb810 := below_step (below_drew hb9) hb10); go_loud (have hx10 := (hb10.block w8.heap.size (by first | simp | (show w8.heap.size < (w8.alloc _).heap.size; simp))).trans (show _ = _ from heap_alloc_new w8 _)); have s1 := blk_cell hx10 1)
              | (go_at_call 15; go_loud (refine (hHas _ (HS8.out.below hb810).ht).mono ?_); rintro e w11 ⟨rfl, hb11⟩; go_loud (have hb811 := below_step hb810 hb11); go_loud (have hx11 := (hb11.block w8.heap.size (Array.getElem?_eq_some_iff.1 hx10).1).trans hx10); go_loud (have hG11 := (hb811.block g hlw).trans HG8.out); have v1 := blk_cell hx11 1; go_loud (have sc11 := seen_at hG11 hqs); go_loud (have fz11 := blk_frozen hG11 t)))
            all_goals go_wp2
            all_goals
              go_roundg (i - (j + 1))
              case measure => omega
              case rel => exact ⟨j + 1, css8, ps8, sn.set t true, by omega, by omega, by go_num, by omega, by simp [hsl], (HS8.out.below hb811).seen hG11 (Nat.le_of_lt hgw) t _, HL8.out, seen_set hG11 t⟩
        · have hji2 : ¬ (j : Int) < (i : Int) := by omega
          have hc0 : css'.length = 0 := by have := HS3.out.hl; omega
          have hPn := pick_none w.heap.size 8 0 css' wr HS3.out.ht (.inr (by omega))
          simp only [zq] at hPn
          have hLn := fun W (h : TagsIn W w.heap.size 8 css') => len_ok w.heap.size 8 css' W h
          rw [hc0] at hLn
          simp only [show ((0 : Nat) : Int) = 0 from rfl] at hLn
          go_wp2_with (first
            | (go_at_call 13; (with_reducible refine hPn.mono ?_); rintro e w4 ⟨rfl, hb4⟩)
            | (go_at_call 16; (with_reducible refine (hLn _ (HS3.out.ht.below (below_step hb4 (below_alloc (Below.refl _ _) _)))).mono ?_); rintro e w5 ⟨rfl, hb5⟩)
            | (go_at_call 11; (with_reducible refine (lives_ok _).mono ?_); rintro e w6 ⟨rfl, hb6⟩))
          go_ret
          exact ⟨rfl, below_step (below_step (below_step HS3.out.hb (below_step hb4 (below_alloc (Below.refl _ _) _))) hb5) hb6⟩

end Go.Proofs.Ytenhnkldhodegaa.R
