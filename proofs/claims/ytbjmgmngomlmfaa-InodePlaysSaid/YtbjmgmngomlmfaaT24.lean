import Derived.Test.YtbjmgmngomlmfaaT23
import Derived.Outline
import Derived.Shelf.Abstract
import Derived.Deep.LoopGhost
import Derived.Deep.Draws
import Derived.Laws.EntriesVeiled
import Derived.Laws.ResultCell
import Derived.Laws.Rows
import Derived.Deep.QuietTactic
import Derived.Deep.RegionWith
import Derived.BigQuiet
namespace Go.Proofs.Ytbjmgmngomlmfaa.R
open Go.RowKit Go.Proofs.YtbjmgmngomlmfaaW.PrintWords Go.Proofs.YtbjmgmngomlmfaaW.PrintLast Go.Proofs.YtbjmgmngomlmfaaW.PrintMore
attribute [local go_sem] max2_int min2_int max_two min_two max_three min_three max_four min_four   -- for this text's walks alone
set_option linter.unusedVariables false
set_option linter.unusedSimpArgs false
theorem like_ok (b m M : Nat) (A : Option Addr) (c : Nat) (st : List (Bool × Int × Int)) (l : List S53) (hM : st.length = M) (hM6 : M ≤ 6) (hl : l.length ≤ 24) (hA : Agree st l) (hc : l.length ≤ c) (w : World) (hT : TabInt w b m st) (hC : Kd.C k53 w A l.length l) :
    Calls Try.prog 20 #[.pointer (some ⟨b + 1, 0, none⟩), .agg #[.int .i64 M, .slice A l.length c]] w fun e w' => e = .returned (.bool true) ∧ Below w.heap.size w w' := by
  have hlk := like_true hA
  rw [hM] at hlk
  have hE := each_f M l (by omega) (by omega) 1000 (by have := Nat.mul_le_mul hM6 (show l.length + 2 ≤ 26 by omega); omega)
  have := like_int b m c 1000 M A l (eachR l 0 M) st w hT hC hc hE (by omega)
  rw [hlk.1] at this
  exact this
set_option maxHeartbeats 200000000 in
set_option maxRecDepth 100000 in
theorem InodePlays.walk (a0 : Int) (bv : Value) (len : Nat) (os : Nat → Int × Int × Int × Int) (w : World) (h0 : -9223372036854775808 ≤ a0 ∧ a0 ≤ 9223372036854775807)
    (h2 : ((∃ A cap, bv = .slice A 0 cap) ∧ len = 0) ∨ ∃ blk off cap, bv = .slice (some ⟨blk, off, none⟩) len cap ∧ len ≤ 9223372036854775807 ∧ blk < w.heap.size ∧ ∀ i, i < len → (-9223372036854775808 ≤ (os i).1 ∧ (os i).1 ≤ 9223372036854775807) ∧ (-9223372036854775808 ≤ (os i).2.1 ∧ (os i).2.1 ≤ 9223372036854775807) ∧
      w.cell? ⟨blk, off + i * 4, none⟩ = some (.int .i64 (os i).1) ∧ w.cell? ⟨blk, off + i * 4 + 1, none⟩ = some (.int .i64 (os i).2.1) ∧ w.cell? ⟨blk, off + i * 4 + 2, none⟩ = some (.int .i64 (os i).2.2.1) ∧ w.cell? ⟨blk, off + i * 4 + 3, none⟩ = some (.int .i64 (os i).2.2.2)) :
    Calls Try.prog 5 #[.int .i64 a0, bv] w fun e w' => e = .returned (.bool true) ∧ Below w.heap.size w w' := by
  have hA0 := around_any a0 6 (by omega) h0
  obtain ⟨r, hr⟩ : ∃ r : Nat, arF a0 6 = r := ⟨(arF a0 6).toNat, by have := arF_range a0 6 (by omega); omega⟩
  have hr6 : r < 6 := by have := (arF_range a0 6 (by omega)).2; omega
  rw [hr] at hA0
  obtain ⟨M, hM⟩ : ∃ M : Nat, M = r + 1 := ⟨_, rfl⟩
  have hMI : (1 : Int) + (r : Int) = M := by omega
  have hM6 : M ≤ 6 := by omega
  have hM1 : 1 ≤ M := by omega
  have hNew := fun W => new_int M W hM1 (by omega)
  have H2 := Aside0.mk h2
  have c1 : ¬ (1 + (r : Int) < -9223372036854775808) := by omega
  clear h2 hM hr
  go_enter Try.func5, Try.ntmps5
  go_wp2_with (first
    | (go_at_call 8; (with_reducible refine (hA0 _).mono ?_); rintro e w1 ⟨rfl, hb1⟩)
    | (go_at_call 12; (with_reducible refine (hNew _).mono ?_); rintro e w2 ⟨rfl, hb2, hT2⟩))
  have hbB : w1.heap.size + 2 < w2.heap.size := hT2.lt
  have HP : Aside (PlaysIn w w1.heap.size 0 w2.heap.size M (w2.alloc (.cells #[.int .i64 M, .slice none 0 0] 48)) (List.replicate M (false, 0, 0)) [] (.slice none 0 0) (.slice none 0 0) []) :=
    ⟨below_alloc (below_step hb1 hb2) _, hT2.below (below_alloc (Below.refl _ _) _), heap_alloc_new _ _, Kd.R_nil _ _ _ _ _, World.ownsRow_nil _ _ _ _, hb1.size, hbB, fun k hk => by cases hk⟩
  generalize w2.alloc (.cells #[.int .i64 M, .slice none 0 0] 48) = w3 at *
  generalize w1.heap.size = b at *
  generalize w2.heap.size = y at *
  clear hb1 hb2 hT2 hA0 hNew c1 hMI hr6
  rcases H2.out with ⟨⟨A, cpn, rfl⟩, rfl⟩ | ⟨blk, off, cp, rfl, hl63, hblk, hos⟩
  · go_loopg [9, 10] 1 (fun gg s9 s10 wr => s10 = .int .i64 0 ∧ Aside (Below w.heap.size w wr))
    case atStart => exact ⟨rfl, HP.out.hb⟩
    case round =>
      obtain ⟨rfl, BV⟩ := hrel
      go_wp2_with (go_at_call 11; refine (lives_ok _).mono ?_; rintro e w8 ⟨rfl, hb8⟩)
      go_ret
      exact ⟨rfl, below_step BV.out hb8⟩
  · have HOS := Aside0.mk hos
    clear hos H2
    obtain ⟨N, hN⟩ : ∃ N, N = min len 24 := ⟨_, rfl⟩
    have HNN : Aside (N = min len 24) := hN
    clear hN
    go_loopg [9, 10] N (fun gg s9 s10 wr => ∃ (i : Nat) (st : List (Bool × Int × Int)) (l : List S53) (v hv : Value) (hs : List (Int × Int)), i ≤ N ∧ N - i ≤ gg ∧ s10 = .int .i64 i ∧ s9 = hv ∧ Aside (PlaysIn w b i y M wr st l v hv hs) ∧ Aside (Agree st l ∧ l.length ≤ i ∧ hs.length ≤ i ∧ st.length = M))
    case atStart => exact ⟨0, _, _, _, _, _, Nat.zero_le _, by omega, rfl, rfl, HP, ⟨agree_new M, Nat.le_refl _, Nat.le_refl _, by simp⟩⟩
    case round =>
      obtain ⟨i, st, l, v, hv, hs, hiN, hg, rfl, h9, HI, HA⟩ := hrel
      clear HP
      by_cases hlt : i < N
      · have hil : (i : Int) < (len : Int) := by have := HNN.out; omega
        have hi24 : (i : Int) < 24 := by have := HNN.out; omega
        have hi24N : i < 24 := by have := HNN.out; omega
        have hos := HOS.out i (by omega)
        generalize os i = oo at hos
        obtain ⟨oD, oN, oI, oG⟩ := oo
        obtain ⟨hoD, hoN, cD, cN, cI, cG⟩ := hos
        simp only at hoD hoN cD cN cI cG
        have cD := pw_cell_below HI.out.hb cD
        have cN := pw_cell_below HI.out.hb cN
        have cI := pw_cell_below HI.out.hb cI
        have cG := pw_cell_below HI.out.hb cG
        have hblk' : blk < wr.heap.size := Nat.lt_of_lt_of_le hblk HI.out.hb.size
        have hA1 := around_any oN ((hs.length : Int) + 1) (by omega) hoN
        obtain ⟨kk, hkk⟩ : ∃ kk : Nat, arF oN ((hs.length : Int) + 1) = kk := ⟨(arF oN ((hs.length : Int) + 1)).toNat, by have := arF_range oN ((hs.length : Int) + 1) (by omega); omega⟩
        have hkl : kk < hs.length + 1 := by have := (arF_range oN ((hs.length : Int) + 1) (by omega)).2; omega
        rw [hkk] at hA1
        have hA2 := around_any oD 8 (by omega) hoD
        obtain ⟨dd, hdd⟩ : ∃ dd : Nat, arF oD 8 = dd := ⟨(arF oD 8).toNat, by have := arF_range oD 8 (by omega); omega⟩
        have hd8 : dd < 8 := by have := (arF_range oD 8 (by omega)).2; omega
        rw [hdd] at hA2
        clear hkk hdd hoD hoN
        have hhl : hs.length ≤ 24 := by have := HA.out.2.2.1; omega
        obtain ⟨A9, c9, hhv⟩ : ∃ A9 c9, hv = .slice A9 hs.length c9 := by
          rcases HI.out.ho.2 with ⟨e, h0⟩ | ⟨g, cap, cur, e, -⟩
          · exact ⟨none, 0, by rw [e, h0]⟩
          · exact ⟨_, cap, e⟩
        subst hhv
        subst h9
        have hhlI : (hs.length : Int) ≤ 24 := by omega
        have hMM : M = M := rfl
        by_cases hkc : kk < hs.length
        focus
          have hkcI : (kk : Int) < (hs.length : Int) := by omega
          obtain ⟨g, cap, hge, hgC, hcl⟩ := own_cells HI.out.ho (by omega)
          cases hge
          have hglt : g < wr.heap.size := HI.out.hlt g rfl
          have ch0 := hcl _ _ (tcells_get hs kk hkc).1
          have ch1 := hcl _ _ (tcells_get hs kk hkc).2
          generalize hs[kk].1 = hI at ch0
          generalize hs[kk].2 = hG at ch1
          have hw2 : ∀ W : World, Below wr.heap.size wr W → W.cell? ⟨g, kk * 2, none⟩ = some (.int .i64 hI) ∧ W.cell? ⟨g, kk * 2 + 1, none⟩ = some (.int .i64 hG) := fun W hW => ⟨pw_cell_below hW ch0, pw_cell_below hW ch1⟩
          have HW2 := Aside0.mk hw2
          clear hcl ch0 ch1 hw2
          go_wp2_with (go_at_call 8; (with_reducible refine (hA1 _).mono ?_); rintro e w5 ⟨rfl, hb5⟩; have hb5' := below_step (below_alloc (below_alloc (Below.refl wr.heap.size wr) _) _) hb5; obtain ⟨d0, d1⟩ := HW2.out _ hb5'; have hx5 := (hb5.block (wr.heap.size + 1) (by simp)).trans (show _ = some (.cells #[.int .i64 oI, .int .i64 oG] 29 (0, 0)) from by rw [heap_push, if_pos (by simp)]); have e0 := blk_cell hx5 0; have e1 := blk_cell hx5 1; have z0 := blk_frozen hx5 0; have z1 := blk_frozen hx5 1; have ho5 := (hb5.block wr.heap.size (by simp; omega)).trans (show _ = some (.cells #[.int .i64 oD, .int .i64 oN, .int .i64 oI, .int .i64 oG] 50 (0, 0)) from by rw [heap_push, if_neg (by simp), heap_push, if_pos rfl]); have q0 := blk_cell ho5 0)
          have hbW : Below wr.heap.size wr ((w5.setCell ⟨wr.heap.size + 1, 0, none⟩ (.int .i64 hI)).setCell ⟨wr.heap.size + 1, 1, none⟩ (.int .i64 hG)) := below_set (below_set hb5' (by omega)) (by omega)
          obtain ⟨ino, gen, PX⟩ : ∃ ino gen : Int, PlayX w b i y M (wr.heap.size + 1) ino gen ((w5.setCell ⟨wr.heap.size + 1, 0, none⟩ (.int .i64 hI)).setCell ⟨wr.heap.size + 1, 1, none⟩ (.int .i64 hG)) st l v (.slice (some ⟨g, 0, none⟩) hs.length c9) hs :=
            ⟨hI, hG, HI.out.below hbW, by rw [blk_set (blk_set hx5 _ _) _ _]; rfl, by have := HI.out.ylt; omega, fun e => by have := HI.out.vlt _ e; omega, fun e => by have := HI.out.hlt _ e; omega⟩
          generalize (w5.setCell ⟨wr.heap.size + 1, 0, none⟩ (.int .i64 hI)).setCell ⟨wr.heap.size + 1, 1, none⟩ (.int .i64 hG) = w6 at *
          clear hb5 hb5' d0 d1 hx5 e0 e1 z0 z1 ho5 q0 hbW cD cN cI cG HI hA1 HW2 hkcI
          generalize (some ⟨g, 0, none⟩ : Option Addr) = A9 at *
        rotate_left
        focus
          have hkcI : ¬ (kk : Int) < (hs.length : Int) := by omega
          go_wp2_with (go_at_call 8; (with_reducible refine (hA1 _).mono ?_); rintro e w6 ⟨rfl, hb5⟩; have hb5' := below_step (below_alloc (below_alloc (Below.refl wr.heap.size wr) _) _) hb5; have hx5 := (hb5.block (wr.heap.size + 1) (by simp)).trans (show _ = some (.cells #[.int .i64 oI, .int .i64 oG] 29 (0, 0)) from by rw [heap_push, if_pos (by simp)]); have ho5 := (hb5.block wr.heap.size (by simp; omega)).trans (show _ = some (.cells #[.int .i64 oD, .int .i64 oN, .int .i64 oI, .int .i64 oG] 50 (0, 0)) from by rw [heap_push, if_neg (by simp), heap_push, if_pos rfl]); have q0 := blk_cell ho5 0)
          obtain ⟨ino, gen, PX⟩ : ∃ ino gen : Int, PlayX w b i y M (wr.heap.size + 1) ino gen w6 st l v (.slice A9 hs.length c9) hs :=
            ⟨oI, oG, HI.out.below hb5', hx5, by have := HI.out.ylt; omega, fun e => by have := HI.out.vlt _ e; omega, fun e => by have := HI.out.hlt _ e; omega⟩
          clear hb5 hb5' hx5 ho5 q0 cD cN cI cG HI hA1 hkcI
        all_goals
          refine (hA2 _).mono ?_
          rintro e w7 ⟨rfl, hb7⟩
          have P7 := PX.below hb7
          clear PX hb7 hA2 hkl hkc
          obtain ⟨A, c, rfl, hc, hC⟩ := Kd.R_reads P7.p.hr
          have hAg := HA.out.1
          have hll : l.length ≤ 24 := by have := HA.out.2.1; omega
          have hst : Aside (st.length = M) := HA.out.2.2.2
          have hcI : (l.length : Int) ≤ 24 := by omega
          have y0 := blk_cell P7.p.hy 0
          have y1 := blk_cell P7.p.hy 1
          have fy0 := blk_frozen P7.p.hy 0
          have fy1 := blk_frozen P7.p.hy 1
          have x0 := blk_cell P7.hx 0
          have x1 := blk_cell P7.hx 1
          have hcase : dd = 4 ∨ dd = 5 ∨ dd = 6 ∨ dd = 7 ∨ dd ≤ 3 := by omega
          rcases hcase with rfl | rfl | rfl | rfl | hd3
          · have hGet := get_int b i st ino gen w7 P7.p.ht
            cases ha : atN st ino gen with
            | none =>
              rw [none_getF ha, none_stale ha] at hGet
              have hF : ∀ W, Below w7.heap.size w7 W → Calls Try.prog 17 #[.agg #[.int .i64 M, .slice A l.length c], .agg #[.int .i64 ino, .int .i64 gen]] W fun e w' => e = .returned (.int .i64 (-1)) ∧ Below W.heap.size W w' := fun W hW =>
                truchmanref10_Find.calls 1000 M A c l ino gen (-1) W (Kd.C_below hC hW) hc (by rw [find_f _ _ _ _ (by omega) _ (by omega), agree_find_none hAg ino gen ha])
              have HL := fun W hT hC => like_ok b i M A c st l hst.out hM6 hll hAg hc W hT hC
              clear ha
              go_wp2_with (first
                | (go_at_call 15; (with_reducible refine hGet.mono ?_); rintro e w8 ⟨rfl, hb8⟩; have P8 := P7.below hb8; have y08 := blk_cell P8.p.hy 0; have y18 := blk_cell P8.p.hy 1; have x08 := blk_cell P8.hx 0; have x18 := blk_cell P8.hx 1)
                | (go_at_call 17; (with_reducible refine (hF _ hb8).mono ?_); rintro e w9 ⟨rfl, hb9⟩; have P9 := P8.below hb9; have y09 := blk_cell P9.p.hy 0; have y19 := blk_cell P9.p.hy 1)
                | (go_at_call 20; (with_reducible refine (HL _ P9.p.ht (Kd.R_reads' P9.p.hr).2.2).mono ?_); rintro e w10 ⟨rfl, hb10⟩))
              go_roundg (N - (i + 1))
              case measure => omega
              case rel => exact ⟨i + 1, st, l, _, _, hs, by omega, by omega, by go_num, rfl, ((P9.below hb10).p.mono (Nat.le_succ i)), ⟨hAg, by have := HA.out.2.1; omega, by have := HA.out.2.2.1; omega, hst.out⟩⟩
            | some j =>
              obtain ⟨hj, A', B', hi, ht, hgn, hle, hfr, -, -⟩ := agree_find_some hAg ino gen j ha
              have hgv : getF 0 st ino gen = st[j].2.2 := by unfold getF; rw [ha]; simp [hj]
              have hgc : staleC st ino gen = 0 := by unfold staleC; rw [ha]; rfl
              rw [hgv, hgc] at hGet
              have hql : A'.length < l.length := by rw [hle]; simp
              have hF : ∀ W, Below w7.heap.size w7 W → Calls Try.prog 17 #[.agg #[.int .i64 M, .slice A l.length c], .agg #[.int .i64 ino, .int .i64 gen]] W fun e w' => e = .returned (.int .i64 (A'.length : Int)) ∧ Below W.heap.size W w' := fun W hW =>
                truchmanref10_Find.calls 1000 M A c l ino gen (A'.length : Int) W (Kd.C_below hC hW) hc (by rw [find_f _ _ _ _ (by omega) _ (by omega), hfr])
              have hlv : (rd_T53 l (A'.length : Int)).f1 = st[j].2.2 := by
                rw [rd_lt l _ hql]
                simp only [hle]
                rw [List.getElem_append_right (Nat.le_refl _)]
                simp
              generalize st[j].2.2 = xv at hGet hlv
              obtain ⟨gA, hgA, hcell⟩ : ∃ gA, A = some ⟨gA, 0, none⟩ ∧ ∀ W, Below w7.heap.size w7 W → W.cell? ⟨gA, A'.length * 4 + 2, none⟩ = some (.int .i64 xv) := by
                obtain ⟨gA, cp, e, -, -, -⟩ := Kd.R_form P7.p.hr (by omega)
                cases e
                obtain ⟨ad, cs, e2, _, hK, hc0⟩ := Kd.C_get hC z53 (A'.length : Int) (by omega) (by omega)
                cases e2
                have hc2 : ∀ j u, cs[j]? = some u → w7.cell? ((⟨gA, 0, none⟩ : Addr).add ((A'.length : Int).toNat * 4 + j)) = some u := hc0
                obtain rfl := k53_open hK
                refine ⟨gA, rfl, fun W hW => pw_cell_below hW ?_⟩
                have h3 := hc2 2 _ rfl
                rw [add_plain, Int.toNat_natCast] at h3
                rw [h3]
                exact congrArg (fun z => some (Value.int .i64 z)) hlv
              subst hgA
              have HCL := Aside0.mk hcell
              have HL := fun W hT hC => like_ok b i M (some ⟨gA, 0, none⟩) c st l hst.out hM6 hll hAg hc W hT hC
              clear ha hj hi ht hgn hle hfr hgv hgc hlv hcell
              generalize A'.length = q at *
              have hqI : (q : Int) < (l.length : Int) := by omega
              have hq0 : (0 : Int) ≤ (q : Int) := by omega
              have hqn : ¬ (q : Int) < 0 := by omega
              go_wp2_with (first
                | (go_at_call 15; (with_reducible refine hGet.mono ?_); rintro e w8 ⟨rfl, hb8⟩; have P8 := P7.below hb8; have y08 := blk_cell P8.p.hy 0; have y18 := blk_cell P8.p.hy 1; have x08 := blk_cell P8.hx 0; have x18 := blk_cell P8.hx 1)
                | (go_at_call 17; (with_reducible refine (hF _ hb8).mono ?_); rintro e w9 ⟨rfl, hb9⟩; have P9 := P8.below hb9; have y09 := blk_cell P9.p.hy 0; have y19 := blk_cell P9.p.hy 1; have cq := HCL.out _ (below_step hb8 hb9))
                | (go_at_call 20; (with_reducible refine (HL _ P9.p.ht (Kd.R_reads' P9.p.hr).2.2).mono ?_); rintro e w10 ⟨rfl, hb10⟩))
              go_roundg (N - (i + 1))
              case measure => omega
              case rel => exact ⟨i + 1, st, l, _, _, hs, by omega, by omega, by go_num, rfl, ((P9.below hb10).p.mono (Nat.le_succ i)), ⟨hAg, by have := HA.out.2.1; omega, by have := HA.out.2.2.1; omega, hst.out⟩⟩
          · obtain ⟨l', hSf, hl', hAg'⟩ := agree_set hAg (by omega) M ino gen (1000 + (i : Int)) 1000 (by omega)
            have hSr := truchmanref10_Set.calls 1000 M (fun k => (Value.slice A l.length c).ownBlock = some k) (.slice A l.length c) l ino gen (1000 + (i : Int)) true M l' (staleC st ino gen) w w7 P7.p.hb (Kd.R_reok rfl P7.p.hr (fun k hk => hk)) hSf
            have hTS := fun W h => set_int b i st ino gen (1000 + (i : Int)) W h
            have hst' : Aside ((setF st ino gen (1000 + (i : Int))).length = M) := by
              show _ = _
              unfold setF
              split
              · exact hst.out
              · rw [List.length_set]; exact hst.out
            generalize setF st ino gen (1000 + (i : Int)) = st' at *
            generalize staleC st ino gen = sc at *
            have hll' : l'.length ≤ 24 := by omega
            have HLI := Aside0.mk hl'
            clear hSf hl'
            go_wp2_with (first
              | (go_at_call 18; (with_reducible refine hSr.mono ?_); rintro e w8 ⟨v1, rfl, hR8, hb8, hk8⟩; obtain ⟨A', c', rfl, hc', hC'⟩ := Kd.R_reads hR8; have P8 := (P7.stored hR8 hb8 hk8 (Below.refl w8.heap.size w8)).below (below_alloc (Below.refl _ _) (.cells #[.int .i64 M, .slice A' l'.length c'] 48)); have hy8 := P7.p.row hk8; have y08 := blk_cell hy8 0; have y18 := blk_cell hy8 1; have fy08 := blk_frozen hy8 0; have fy18 := blk_frozen hy8 1; have hx8 := (hk8.2 _ (Array.getElem?_eq_some_iff.1 P7.hx).1 P7.xv).trans P7.hx; have x08 := blk_cell hx8 0; have x18 := blk_cell hx8 1; have xl8 := (Array.getElem?_eq_some_iff.1 hx8).1; have hxy := Nat.ne_of_gt P7.xy; have yl8 := (Array.getElem?_eq_some_iff.1 hy8).1)
              | (go_at_call 16; (with_reducible refine (hTS _ P8.p.ht).mono ?_); rintro e w9 ⟨rfl, hg9, hT9⟩; have P9 := P8.tab hg9 hT9; have y09 := blk_cell P9.p.hy 0; have y19 := blk_cell P9.p.hy 1)
              | (go_at_call 20; (with_reducible refine (like_ok b i M A' c' st' l' hst'.out hM6 hll' hAg' hc' _ P9.p.ht (Kd.R_reads' P9.p.hr).2.2).mono ?_); rintro e w10 ⟨rfl, hb10⟩))
            go_roundg (N - (i + 1))
            case measure => omega
            case rel => exact ⟨i + 1, st', l', _, _, hs, by omega, by omega, by go_num, rfl, ((P9.below hb10).p.mono (Nat.le_succ i)), ⟨hAg', by have := HA.out.2.1; have := HLI.out; omega, by have := HA.out.2.2.1; omega, hst'.out⟩⟩
          · obtain ⟨l', hSf, hl', hAg'⟩ := agree_rem hAg (by omega) M ino gen 1000 (by omega)
            have hSr := truchmanref10_Set.calls 1000 M (fun k => (Value.slice A l.length c).ownBlock = some k) (.slice A l.length c) l ino gen 0 false M l' (staleC st ino gen) w w7 P7.p.hb (Kd.R_reok rfl P7.p.hr (fun k hk => hk)) hSf
            have hTS := fun W h => rem_int b i st ino gen W h
            have hst' : Aside ((remF 0 st ino gen).length = M) := by
              show _ = _
              unfold remF
              split
              · exact hst.out
              · rw [List.length_set]; exact hst.out
            generalize remF 0 st ino gen = st' at *
            generalize staleC st ino gen = sc at *
            have hll' : l'.length ≤ 24 := by omega
            have HLI := Aside0.mk hl'
            clear hSf hl'
            go_wp2_with (first
              | (go_at_call 18; (with_reducible refine hSr.mono ?_); rintro e w8 ⟨v1, rfl, hR8, hb8, hk8⟩; obtain ⟨A', c', rfl, hc', hC'⟩ := Kd.R_reads hR8; have P8 := (P7.stored hR8 hb8 hk8 (Below.refl w8.heap.size w8)).below (below_alloc (Below.refl _ _) (.cells #[.int .i64 M, .slice A' l'.length c'] 48)); have hy8 := P7.p.row hk8; have y08 := blk_cell hy8 0; have y18 := blk_cell hy8 1; have fy08 := blk_frozen hy8 0; have fy18 := blk_frozen hy8 1; have hx8 := (hk8.2 _ (Array.getElem?_eq_some_iff.1 P7.hx).1 P7.xv).trans P7.hx; have x08 := blk_cell hx8 0; have x18 := blk_cell hx8 1; have xl8 := (Array.getElem?_eq_some_iff.1 hx8).1; have hxy := Nat.ne_of_gt P7.xy; have yl8 := (Array.getElem?_eq_some_iff.1 hy8).1)
              | (go_at_call 14; (with_reducible refine (hTS _ P8.p.ht).mono ?_); rintro e w9 ⟨rfl, hg9, hT9⟩; have P9 := P8.tab hg9 hT9; have y09 := blk_cell P9.p.hy 0; have y19 := blk_cell P9.p.hy 1)
              | (go_at_call 20; (with_reducible refine (like_ok b i M A' c' st' l' hst'.out hM6 hll' hAg' hc' _ P9.p.ht (Kd.R_reads' P9.p.hr).2.2).mono ?_); rintro e w10 ⟨rfl, hb10⟩))
            go_roundg (N - (i + 1))
            case measure => omega
            case rel => exact ⟨i + 1, st', l', _, _, hs, by omega, by omega, by go_num, rfl, ((P9.below hb10).p.mono (Nat.le_succ i)), ⟨hAg', by have := HA.out.2.1; have := HLI.out; omega, by have := HA.out.2.2.1; omega, hst'.out⟩⟩
          · obtain ⟨l', hSf, hl', hAg'⟩ := agree_rem hAg (by omega) M ino gen 1000 (by omega)
            have hSr := truchmanref10_Set.calls 1000 M (fun k => (Value.slice A l.length c).ownBlock = some k) (.slice A l.length c) l ino gen 0 false M l' (staleC st ino gen) w w7 P7.p.hb (Kd.R_reok rfl P7.p.hr (fun k hk => hk)) hSf
            have hTS := fun W h => rem_int b i st ino gen W h
            have hst' : Aside ((remF 0 st ino gen).length = M) := by
              show _ = _
              unfold remF
              split
              · exact hst.out
              · rw [List.length_set]; exact hst.out
            generalize remF 0 st ino gen = st' at *
            generalize staleC st ino gen = sc at *
            have hll' : l'.length ≤ 24 := by omega
            have HLI := Aside0.mk hl'
            clear hSf hl'
            go_wp2_with (first
              | (go_at_call 18; (with_reducible refine hSr.mono ?_); rintro e w8 ⟨v1, rfl, hR8, hb8, hk8⟩; obtain ⟨A', c', rfl, hc', hC'⟩ := Kd.R_reads hR8; have P8 := (P7.stored hR8 hb8 hk8 (Below.refl w8.heap.size w8)).below (below_alloc (Below.refl _ _) (.cells #[.int .i64 M, .slice A' l'.length c'] 48)); have hy8 := P7.p.row hk8; have y08 := blk_cell hy8 0; have y18 := blk_cell hy8 1; have fy08 := blk_frozen hy8 0; have fy18 := blk_frozen hy8 1; have hx8 := (hk8.2 _ (Array.getElem?_eq_some_iff.1 P7.hx).1 P7.xv).trans P7.hx; have x08 := blk_cell hx8 0; have x18 := blk_cell hx8 1; have xl8 := (Array.getElem?_eq_some_iff.1 hx8).1; have hxy := Nat.ne_of_gt P7.xy; have yl8 := (Array.getElem?_eq_some_iff.1 hy8).1)
              | (go_at_call 14; (with_reducible refine (hTS _ P8.p.ht).mono ?_); rintro e w9 ⟨rfl, hg9, hT9⟩; have P9 := P8.tab hg9 hT9; have y09 := blk_cell P9.p.hy 0; have y19 := blk_cell P9.p.hy 1)
              | (go_at_call 20; (with_reducible refine (like_ok b i M A' c' st' l' hst'.out hM6 hll' hAg' hc' _ P9.p.ht (Kd.R_reads' P9.p.hr).2.2).mono ?_); rintro e w10 ⟨rfl, hb10⟩))
            go_roundg (N - (i + 1))
            case measure => omega
            case rel => exact ⟨i + 1, st', l', _, _, hs, by omega, by omega, by go_num, rfl, ((P9.below hb10).p.mono (Nat.le_succ i)), ⟨hAg', by have := HA.out.2.1; have := HLI.out; omega, by have := HA.out.2.2.1; omega, hst'.out⟩⟩
          · have hd0 : ¬ (dd : Int) = 4 := by omega
            have hd1 : ¬ (dd : Int) = 5 := by omega
            have hd2 : ¬ (dd : Int) = 6 := by omega
            have hd3' : ¬ (dd : Int) = 7 := by omega
            obtain ⟨l', hAf, hl', hAg'⟩ := agree_add hAg (by omega) (by rw [hst.out]; omega) (i : Int) 1000 (by rw [hst.out]; omega)
            rw [hst.out] at hAf
            have hAr := truchmanref10_Add.calls 1000 M (fun k => (Value.slice A l.length c).ownBlock = some k) (.slice A l.length c) l (i : Int) M l' (addI st) (addG st) (addC st) w w7 P7.p.hb (Kd.R_reok rfl P7.p.hr (fun k hk => hk)) hAf
            have hTA := fun W h => add_int b i st (i : Int) W h (by omega)
            have hst' : Aside ((addF st (i : Int)).length = M) := by
              show _ = _
              unfold addF
              split
              · exact hst.out
              · rw [List.length_set]; exact hst.out
            generalize addF st (i : Int) = st' at *
            generalize addI st = tI at *
            generalize addG st = tG at *
            generalize addC st = tC at *
            have hll' : l'.length ≤ 24 := by have := HA.out.2.1; omega
            have HLI := Aside0.mk hl'
            obtain ⟨i0, hi0, hz0, hz1, hz2⟩ := info_parts (show (Try.prog.info? 29).map (fun i => (i.zero, i.size, i.bytes)) = some (some (.agg #[.int .i64 0, .int .i64 0]), 2, 16) by kernel_rfl)
            clear hAf hl'
            go_wp2_with (first
              | (go_at_call 19; (with_reducible refine hAr.mono ?_); rintro e w8 ⟨v1, rfl, hR8, hb8, hk8⟩; obtain ⟨A', c', rfl, hc', hC'⟩ := Kd.R_reads hR8; go_loud (have P8 := ((P7.stored hR8 hb8 hk8 (Below.refl w8.heap.size w8)).below (below_alloc (Below.refl _ _) (.cells #[.int .i64 M, .slice A' l'.length c'] 48))).below (below_alloc (Below.refl _ _) (.cells #[.int .i64 tI, .int .i64 tG] 29))); go_loud (have hy8 := P7.p.row hk8); have y08 := blk_cell hy8 0; have y18 := blk_cell hy8 1; have fy08 := blk_frozen hy8 0; have fy18 := blk_frozen hy8 1; have yl8 := (Array.getElem?_eq_some_iff.1 hy8).1; go_loud (have h29 : ((((w8.setCell ⟨y, 0, none⟩ (.int .i64 M)).setCell ⟨y, 1, none⟩ (.slice A' l'.length c')).alloc (.cells #[.int .i64 M, .slice A' l'.length c'] 48)).alloc (.cells #[.int .i64 tI, .int .i64 tG] 29)).heap[w8.heap.size + 1]? = some (.cells #[.int .i64 tI, .int .i64 tG] 29 (0, 0)) := by rw [heap_push, if_pos (by simp [World.setCell])]); have hbl8 : b < w8.heap.size + 1 := by have := P7.p.ht.lt; have := hk8.1; omega)
              | (go_at_call 13; (with_reducible refine (hTA _ P8.p.ht).mono ?_); rintro e w9 ⟨rfl, hg9, hT9⟩; go_loud (have P9 := P8.tab hg9 hT9); go_loud (have h29' := block_of hg9 h29 (Nat.ne_of_gt hbl8)); have k09 := blk_cell h29' 0; have k19 := blk_cell h29' 1; have l29 := (Array.getElem?_eq_some_iff.1 h29').1)
              | (at_builtin; go_loud (refine wpList_append_own _ rfl (.tmp 97) (.tmp 99) 38 rfl (y + 1) 29 i0 _ 2 16 Try.underlying38 hi0 hz0 hz1 hz2 rfl (by omega) _ hs.length (tcells hs) rfl ((P9.p.ho.alloc _).alloc _) ⟨w9.heap.size + 1, 0, none⟩ 1 1 [.int .i64 tI, .int .i64 tG] rfl rfl (news2 _ _ _ _ _ (by simp)) (by simp [Value.oneCell']) (by unfold maxLen; omega) (by omega) (by simp; omega) ?_); intro hv' w10 hown10 hg10 hnil; go_loud (have P10 := (P9.p.below (below_alloc (below_alloc (Below.refl _ _) _) _)).told hown10 hg10); have y0A := blk_cell P10.hy 0; have y1A := blk_cell P10.hy 1)
              | (go_at_call 20; (with_reducible refine (like_ok b (i + 1) M A' c' st' l' hst'.out hM6 hll' hAg' hc' _ P10.ht (Kd.R_reads' P10.hr).2.2).mono ?_); rintro e w11 ⟨rfl, hb11⟩))
            go_roundg (N - (i + 1))
            case measure => omega
            case rel => exact ⟨i + 1, st', l', _, _, hs ++ [(tI, tG)], by omega, by omega, by go_num, rfl, P10.below hb11, ⟨hAg', by have := HA.out.2.1; have := HLI.out; omega, by rw [List.length_append]; have := HA.out.2.2.1; simp; omega, hst'.out⟩⟩
      · have hin : i = N := by omega
        by_cases hil : (i : Int) < (len : Int)
        · have hi24 : ¬ (i : Int) < 24 := by have := HNN.out; omega
          go_wp2_with (go_at_call 11; refine (lives_ok _).mono ?_; rintro e w8 ⟨rfl, hb8⟩)
          go_ret
          exact ⟨rfl, below_step HI.out.hb hb8⟩
        · go_wp2_with (go_at_call 11; refine (lives_ok _).mono ?_; rintro e w8 ⟨rfl, hb8⟩)
          go_ret
          exact ⟨rfl, below_step HI.out.hb hb8⟩

end Go.Proofs.Ytbjmgmngomlmfaa.R
