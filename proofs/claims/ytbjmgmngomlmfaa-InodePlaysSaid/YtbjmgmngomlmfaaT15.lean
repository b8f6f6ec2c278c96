import Derived.Test.YtbjmgmngomlmfaaT14
import Derived.Outline
import Derived.Shelf.Abstract
import Derived.Deep.LoopGhost
import Derived.Deep.Draws
import Derived.Laws.EntriesVeiled
import Derived.Laws.ResultCell
import Derived.Laws.Rows
import Derived.Deep.QuietTactic
import Derived.Deep.RegionWith
import Derived.BigQuiet
namespace Go.Proofs.Ytbjmgmngomlmfaa.R
open Go.RowKit Go.Proofs.YtbjmgmngomlmfaaW.PrintWords Go.Proofs.YtbjmgmngomlmfaaW.PrintLast Go.Proofs.YtbjmgmngomlmfaaW.PrintMore
attribute [local go_sem] max2_int min2_int max_two min_two max_three min_three max_four min_four   -- for this text's walks alone
set_option linter.unusedVariables false
set_option linter.unusedSimpArgs false
section
/-- What a removed handle of generation 1 stays for ever: its place is free at 1, or older than 1. -/
def StaleAt (q : Nat) (st : List (Bool × Int × Int)) : Prop := ∃ p, st[q]? = some p ∧ ((p.1 = false ∧ p.2.1 = 1) ∨ 2 ≤ p.2.1)
variable {q : Nat} {st : List (Bool × Int × Int)}
theorem StaleAt.none (h : StaleAt q st) : atN st (q + 1) 1 = none := by
  obtain ⟨p, hp, h⟩ := h
  obtain ⟨hl, he⟩ := List.getElem?_eq_some_iff.1 hp
  rw [atN_in _ _ _ hl, he, if_neg]
  rintro ⟨h1, h2⟩
  rcases h with ⟨h3, -⟩ | h3
  · rw [h1] at h3; cases h3
  · omega
theorem add_cases (st : List (Bool × Int × Int)) : (addC st = 14 ∧ (∀ x, addF st x = st)) ∨ (addC st = 0 ∧ ∃ p, st[freeAt st]? = some p ∧ addI st = freeAt st + 1 ∧ addG st = p.2.1 + 1 ∧ ∀ x, addF st x = st.set (freeAt st) (true, p.2.1 + 1, x)) := by
  by_cases h : freeAt st < st.length
  · right
    have hg : st[freeAt st]? = some st[freeAt st] := List.getElem?_eq_getElem h
    refine ⟨by unfold addC; rw [if_pos h], _, hg, ?_, ?_, fun x => ?_⟩
    · unfold addI; rw [hg]
    · unfold addG; rw [hg]
    · unfold addF; rw [hg]
  · left
    have hg : st[freeAt st]? = .none := List.getElem?_eq_none (by omega)
    exact ⟨by unfold addC; rw [if_neg h], fun x => by unfold addF; rw [hg]⟩
theorem StaleAt.add (h : StaleAt q st) (x : Int) : StaleAt q (addF st x) := by
  rcases add_cases st with ⟨-, h2⟩ | ⟨-, p, hp, -, -, h5⟩
  · rw [h2]; exact h
  · rw [h5]
    obtain ⟨p', hp', h'⟩ := h
    by_cases e : freeAt st = q
    · rw [e] at hp ⊢
      rw [hp] at hp'; cases hp'
      refine ⟨(true, p.2.1 + 1, x), ?_, .inr ?_⟩
      · rw [List.getElem?_set]; simp; exact (List.getElem?_eq_some_iff.1 hp).1
      · show 2 ≤ p.2.1 + 1
        rcases h' with ⟨-, h3⟩ | h3 <;> omega
    · exact ⟨p', by rw [List.getElem?_set, if_neg e]; exact hp', h'⟩
theorem StaleAt.fresh (h : StaleAt q st) (hc : addC st = 0) : ¬ (addI st = q + 1 ∧ addG st = 1) := by
  rcases add_cases st with ⟨h1, -⟩ | ⟨-, p, hp, h3, h4, -⟩
  · rw [h1] at hc; cases hc
  · rw [h3, h4]
    rintro ⟨e1, e2⟩
    have e : freeAt st = q := by omega
    obtain ⟨p', hp', h'⟩ := h
    rw [e, hp'] at hp; cases hp
    rcases h' with ⟨-, h5⟩ | h5 <;> omega
theorem add_at (hc : addC st = 0) (x : Int) : atN (addF st x) (addI st) (addG st) = some (freeAt st) := by
  rcases add_cases st with ⟨h1, -⟩ | ⟨-, p, hp, h3, h4, h5⟩
  · rw [h1] at hc; cases hc
  · have hl := (List.getElem?_eq_some_iff.1 hp).1
    rw [h5, h3, h4, atN_in _ _ _ (by simpa using hl)]
    simp
theorem StaleAt.rem (h : StaleAt q st) (hc : addC st = 0) (x : Int) : StaleAt q (remF 0 (addF st x) (addI st) (addG st)) := by
  unfold remF
  rw [add_at hc]
  simp only
  have ha := h.add x
  rcases add_cases st with ⟨h1, -⟩ | ⟨-, p, hp, h3, h4, h5⟩
  · rw [h1] at hc; cases hc
  · by_cases e : freeAt st = q
    · refine ⟨(false, addG st, 0), ?_, .inr ?_⟩
      · rw [List.getElem?_set, e]; simp
        rw [h5]; simp; rw [← e]; exact (List.getElem?_eq_some_iff.1 hp).1
      · show 2 ≤ addG st
        obtain ⟨p', hp', h'⟩ := h
        rw [e, hp'] at hp; cases hp
        rw [h4]
        rcases h' with ⟨-, h6⟩ | h6 <;> omega
    · obtain ⟨p', hp', h'⟩ := ha
      exact ⟨p', by rw [List.getElem?_set, if_neg e]; exact hp', h'⟩
theorem stale_fill (f : Nat → Int) (n k : Nat) (hq : q < k) (hk : k ≤ n) : StaleAt q (remF 0 (fillT 0 f n k) (q + 1) 1) := by
  unfold remF
  rw [fill_at _ _ _ _ _ hq hk]
  exact ⟨(false, 1, 0), by simp only; rw [List.getElem?_set, if_pos rfl, if_pos (by rw [fill_len]; omega)], .inl ⟨rfl, rfl⟩⟩
/-- The handles told, as they lie in memory. -/
def hcells (n : Nat) : List Value := (List.range n).flatMap fun (j : Nat) => [.int .i64 ((j : Int) + 1), .int .i64 1]
theorem hcells_succ (n : Nat) : hcells (n + 1) = hcells n ++ [.int .i64 ((n : Int) + 1), .int .i64 1] := by unfold hcells; rw [List.range_succ, List.flatMap_append]; rfl
theorem hcells_len : ∀ n, (hcells n).length = n * 2
  | 0 => rfl
  | n + 1 => by rw [hcells_succ, List.length_append, hcells_len n]; simp; omega
theorem hcells_get : ∀ n j, j < n → (hcells n)[j * 2]? = some (.int .i64 ((j : Int) + 1)) ∧ (hcells n)[j * 2 + 1]? = some (.int .i64 1)
  | n + 1, j, h => by
    have hl := hcells_len n
    rw [hcells_succ]
    by_cases hj : j < n
    · have ih := hcells_get n j hj
      rw [List.getElem?_append_left (by omega), List.getElem?_append_left (by omega)]
      exact ih
    · have : j = n := by omega
      subst this
      rw [List.getElem?_append_right (by omega), List.getElem?_append_right (by omega), hl]
      simp
theorem own_block {w : World} {base : Nat} {e : TypeId} {size : Nat} {v : Value} {n : Nat} {xs : List Value} (h : w.ownsRow base e size v n xs) : ∀ g, v.ownBlock = some g → base ≤ g := by
  intro g hg
  rcases h.2 with ⟨rfl, -⟩ | ⟨g', cap, cur, rfl, hb, -⟩
  · cases hg
  · cases hg; exact hb
theorem own_cells {w : World} {base : Nat} {e : TypeId} {size : Nat} {v : Value} {n : Nat} {xs : List Value} (h : w.ownsRow base e size v n xs) (hn : 0 < n) : ∃ g cap, v = .slice (some ⟨g, 0, none⟩) n cap ∧ base ≤ g ∧ ∀ j u, xs[j]? = some u → w.cell? ⟨g, j, none⟩ = some u := by
  rcases h.2 with ⟨-, rfl⟩ | ⟨g, cap, cur, rfl, hb, hh, -, -, hs, ht⟩
  · omega
  · refine ⟨g, cap, rfl, hb, fun j u hu => ?_⟩
    rw [cell_of_row _ _ _ _ _ _ hh]
    rw [← ht, List.getElem?_take] at hu
    split at hu
    · simpa using hu
    · cases hu
theorem TabIn.other {α : Type} {enc : α → Value} {te tt tp fn : Nat} {w w1 : World} {b m : Nat} {st : List (Bool × Int × α)} {row : Option Nat} (h : TabIn enc te tt tp fn w b m st) (hg : w.grownBy w1 row) (hn : ∀ g, row = some g → b + 2 < g) : TabIn enc te tt tp fn w1 b m st := by
  have hlt := h.lt
  exact ⟨h.rows.grown hg (fun e => by have := hn b e.symm; omega), (hg.block _ (by omega) (fun e => by have := hn _ e.symm; omega)).trans h.tab, (hg.block _ hlt (fun e => by have := hn _ e.symm; omega)).trans h.var, h.small, h.gens⟩
/-- What holds of a world in InodeStale's second loop: nothing that was there is turned; the gone handle's box; the table. -/
structure StaleIn (w0 w : World) (b m y q : Nat) (st : List (Bool × Int × Int)) : Prop where
  hb : Below w0.heap.size w0 w
  hx : w.heap[y]? = some (.cells #[.int .i64 ((q : Int) + 1), .int .i64 1] 29 (0, 0))
  ht : TabInt w b m st
theorem StaleIn.below {w0 w w1 : World} {b m y q : Nat} {st : List (Bool × Int × Int)} (h : StaleIn w0 w b m y q st) (hb : Below w.heap.size w w1) : StaleIn w0 w1 b m y q st :=
  ⟨below_step h.hb hb, (hb.block _ (Array.getElem?_eq_some_iff.1 h.hx).1).trans h.hx, h.ht.below hb⟩
theorem StaleIn.grown {w0 w w1 : World} {b m m1 y q : Nat} {st st1 : List (Bool × Int × Int)} (h : StaleIn w0 w b m y q st) (hn : w0.heap.size ≤ b) (hy : b < y) (hg : w.grownBy w1 (some b)) (ht : TabInt w1 b m1 st1) : StaleIn w0 w1 b m1 y q st1 :=
  ⟨below_of h.hb hn hg, block_of hg h.hx (Nat.ne_of_gt hy), ht⟩
theorem StaleIn.lt {w0 w : World} {b m y q : Nat} {st : List (Bool × Int × Int)} (h : StaleIn w0 w b m y q st) : y < w.heap.size := (Array.getElem?_eq_some_iff.1 h.hx).1
theorem news2 (w : World) (x y : Value) (t : TypeId) (g : Nat) (hg : g = w.heap.size) : ∀ j u, ([x, y] : List Value)[j]? = some u → (w.alloc (.cells #[x, y] t)).cell? ((⟨g, 0, none⟩ : Addr).add j) = some u := by
  intro j u h
  rw [Addr.add_lit, World.cell?_alloc_at _ _ _ _ hg]
  simpa using h
end
set_option maxHeartbeats 8000000 in
set_option maxRecDepth 100000 in
theorem InodeStale.walk (a0 a1 : Int) (bv : Value) (len : Nat) (B : Nat → Bool) (w : World) (h0 : -9223372036854775808 ≤ a0 ∧ a0 ≤ 9223372036854775807) (h1 : -9223372036854775808 ≤ a1 ∧ a1 ≤ 9223372036854775807)
    (h2 : ((∃ A cap, bv = .slice A 0 cap) ∧ len = 0) ∨ ∃ blk off cap, bv = .slice (some ⟨blk, off, none⟩) len cap ∧ len ≤ 9223372036854775807 ∧ blk < w.heap.size ∧ ∀ i, i < len → w.cell? ⟨blk, off + i, none⟩ = some (.bool (B i))) :
    Calls Try.prog 4 #[.int .i64 a0, .int .i64 a1, bv] w fun e w' => e = .returned (.bool true) ∧ Below w.heap.size w w' := by
  have hA0 := around_any a0 8 (by omega) h0
  obtain ⟨k', hk'⟩ : ∃ k' : Nat, arF a0 8 = k' := ⟨(arF a0 8).toNat, by have := arF_range a0 8 (by omega); omega⟩
  have hk8 : k' < 8 := by have := (arF_range a0 8 (by omega)).2; omega
  rw [hk'] at hA0
  obtain ⟨k, hk⟩ : ∃ k : Nat, k = k' + 1 := ⟨_, rfl⟩
  have hkI : (1 : Int) + (k' : Int) = k := by omega
  have hk1 : 1 ≤ k := by omega
  have hk2 : k ≤ 10 := by omega
  have hk28 : k ≤ 8 := by omega
  obtain ⟨q, hq⟩ : ∃ q : Nat, arF a1 k = q := ⟨(arF a1 k).toNat, by have := arF_range a1 k (by omega); omega⟩
  have hA1 := around_any a1 k (by omega) h1
  rw [hq] at hA1
  have hqk : q < k := by have := (arF_range a1 k (by omega)).2; omega
  clear hq hk' hk
  have hNew := fun W => new_int 10 W (by omega) (by omega)
  rw [← fill_zero (0 : Int) (fun j => (j : Int)) 10] at hNew
  have c1 : ¬ (1 + (k' : Int) < -9223372036854775808) := by omega
  have H2 : Aside (((∃ A cap, bv = .slice A 0 cap) ∧ len = 0) ∨ ∃ blk off cap, bv = .slice (some ⟨blk, off, none⟩) len cap ∧ len ≤ 9223372036854775807 ∧ blk < w.heap.size ∧ ∀ i, i < len → w.cell? ⟨blk, off + i, none⟩ = some (.bool (B i))) := h2
  clear h2
  go_enter Try.func4, Try.ntmps4
  go_wp2_with (first
    | (go_at_call 8; refine (hA0 _).mono ?_; rintro e w1 ⟨rfl, hb1⟩)
    | (go_at_call 12; refine (hNew _).mono ?_; rintro e w2 ⟨rfl, hb2, hT2⟩))
  have HB2 : Aside (Below w.heap.size w w2) := below_step hb1 hb2
  have HW1 : Aside (w.heap.size ≤ w1.heap.size) := hb1.size
  have hbB : w1.heap.size + 2 < w2.heap.size := hT2.lt
  have HN : Aside (w2.ownsRow w2.heap.size 29 2 (.slice none 0 0) 0 (hcells 0) ∧ w2.heap.size ≤ w2.heap.size) := ⟨World.ownsRow_nil _ _ _ _, Nat.le_refl _⟩
  generalize w1.heap.size = b at *
  clear hb1 hb2 hA0 hNew c1 hkI hk8
  obtain ⟨C, hC⟩ : ∃ C, C = w2.heap.size := ⟨_, rfl⟩
  rw [← hC] at HN hbB
  have HC : Aside (C = w2.heap.size) := hC
  clear hC
  go_loopg [10, 11] k (fun gg s10 s11 wr => ∃ i : Nat, i ≤ k ∧ k - i ≤ gg ∧ s11 = .int .i64 i ∧ Aside (Below w.heap.size w wr) ∧ Aside (wr.ownsRow C 29 2 s10 i (hcells i) ∧ C ≤ wr.heap.size) ∧ Aside (TabInt wr b i (fillT (0 : Int) (fun j => (j : Int)) 10 i)))
  case atStart => exact ⟨0, Nat.zero_le _, by omega, rfl, HB2, ⟨HN.out.1, by rw [HC.out]; exact Nat.le_refl _⟩, hT2⟩
  case round =>
    obtain ⟨i, hik, hg, rfl, BW, HR, HT⟩ := hrel
    clear hT2
    by_cases hlt : i < k
    · have hltz : (i : Int) < (k : Int) := by omega
      have hAdd := add_int b i (fillT (0 : Int) (fun j => (j : Int)) 10 i) (i : Int) wr HT.out (by omega)
      rw [fill_addF (0 : Int) (fun j => (j : Int)) 10 i (by omega), fill_addC _ _ _ _ (by omega), (fill_addI (0 : Int) (fun j => (j : Int)) 10 i (by omega)).1, (fill_addI (0 : Int) (fun j => (j : Int)) 10 i (by omega)).2] at hAdd
      obtain ⟨i0, hi0, hz0, hz1, hz2⟩ := info_parts (show (Try.prog.info? 29).map (fun i => (i.zero, i.size, i.bytes)) = some (some (.agg #[.int .i64 0, .int .i64 0]), 2, 16) by kernel_rfl)
      go_wp2_with (first
        | (go_at_call 13; refine hAdd.mono ?_; rintro e w3 ⟨rfl, hg3, hT3⟩; have hC3 : C ≤ w3.heap.size := Nat.le_trans HR.out.2 hg3.size; have hR3 := HR.out.1.kept hg3 (.inr (fun e => by have := own_block HR.out.1 b e; omega)))
        | (at_builtin; go_loud (refine wpList_append_own _ rfl (.tmp 46) (.tmp 48) 38 rfl C 29 i0 _ 2 16 Try.underlying38 hi0 hz0 hz1 hz2 rfl (by omega) _ i (hcells i) rfl ((hR3.alloc _).alloc _) ⟨w3.heap.size + 1, 0, none⟩ 1 1 [.int .i64 ((i : Int) + 1), .int .i64 1] rfl rfl (news2 _ _ _ _ _ (by simp)) (by simp [Value.oneCell']) (by unfold maxLen; omega) (by omega) (by simp; omega) ?_); intro v' w5 hown5 hg5 hnil))
      go_roundg (k - (i + 1))
      case measure => omega
      case rel =>
        have hal : Below w3.heap.size w3 ((w3.alloc (.cells #[.int .i64 ((i : Int) + 1), .int .i64 1] 29)).alloc (.cells #[.int .i64 ((i : Int) + 1), .int .i64 1] 29)) := below_alloc (below_alloc (Below.refl _ _) _) _
        have hbb := below_step (below_of BW.out HW1.out hg3) hal
        refine ⟨i + 1, by omega, by omega, by go_num, ?_, ⟨by rw [hcells_succ]; exact hown5, Nat.le_trans hC3 (Nat.le_trans hal.size hg5.size)⟩, (hT3.below hal).other hg5 (fun g hg' => by have := own_block HR.out.1 g hg'; omega)⟩
        exact pw_below_grown hbb _ hbb.size hg5 (fun g hg' => by have := own_block HR.out.1 g hg'; have := HW1.out; omega)
    · have hltz : ¬ (i : Int) < (k : Int) := by omega
      have hik2 : i = k := by omega
      have HT2 := HT.out
      have HR2 := HR.out
      rw [hik2] at HT2 HR2
      obtain ⟨g, cap, rfl, hgC, hcl⟩ := own_cells HR2.1 hk1
      have cq0 := hcl _ _ (hcells_get k q hqk).1
      have cq1 := hcl _ _ (hcells_get k q hqk).2
      have hqI : (q : Int) < (k : Int) := by omega
      have hR := fun W h => rem_int b k (fillT (0 : Int) (fun j => (j : Int)) 10 k) (q + 1) 1 W h
      rw [fill_stale _ _ _ _ _ hqk hk2] at hR
      clear hik2 HT HR hlt HR2 hcl
      go_wp2_with (first
        | (go_at_call 8; refine (hA1 _).mono ?_; rintro e w4 ⟨rfl, hb4⟩; have cq0' := pw_cell_below hb4 cq0; have cq1' := pw_cell_below hb4 cq1)
        | (go_at_call 14; refine (hR _ (HT2.below (below_step hb4 (below_alloc (Below.refl _ _) _)))).mono ?_; rintro e w5 ⟨rfl, hg5, hT5⟩))
      have HB5 : Aside (Below w.heap.size w w5) := below_of (below_step (below_step BW.out hb4) (below_alloc (Below.refl _ _) _)) HW1.out hg5
      have HX5 : Aside (w5.heap[w4.heap.size]? = some (.cells #[.int .i64 ((q : Int) + 1), .int .i64 1] 29 (0, 0))) := block_of hg5 (heap_alloc_new _ _) (by have := HT2.lt; have := hb4.size; omega)
      have HS5 : Aside (∃ st, TabInt w5 b (k + 0) st ∧ StaleAt q st) := ⟨_, hT5, stale_fill _ _ _ hqk hk2⟩
      have hxb : b < w4.heap.size := by have := HT2.lt; have := hb4.size; omega
      have hxw : w.heap.size ≤ w4.heap.size := Nat.le_trans (Nat.le_trans HW1.out (Nat.le_of_lt hxb)) (Nat.le_refl _)
      generalize w4.heap.size = y at *
      clear cq0 cq1 hR hA1 hb4 hg5 hT5 HT2 cq0' cq1'
      have HBW : Aside (w.heap.size ≤ y) := hxw
      clear hxw
      rcases H2.out with ⟨⟨A, cpn, rfl⟩, rfl⟩ | ⟨blk, off, cp, rfl, hl63, hblk, hbits⟩
      · go_loopg [15] 1 (fun gg s15 wr => s15 = .int .i64 0 ∧ Aside (Below w.heap.size w wr))
        case atStart => exact ⟨rfl, HB5⟩
        case round =>
          obtain ⟨rfl, BV⟩ := hrel
          go_wp2_with (go_at_call 11; refine (lives_ok _).mono ?_; rintro e w8 ⟨rfl, hb8⟩)
          go_ret
          exact ⟨rfl, below_step BV.out hb8⟩
      · have HBITS : Aside (∀ i, i < len → w.cell? ⟨blk, off + i, none⟩ = some (.bool (B i))) := hbits
        clear hbits
        obtain ⟨N, hN⟩ : ∃ N, N = min len 12 := ⟨_, rfl⟩
        have HNN : Aside (N = min len 12) := hN
        clear hN
        go_loopg [15] N (fun gg s15 wr => ∃ i : Nat, i ≤ N ∧ N - i ≤ gg ∧ s15 = .int .i64 i ∧ Aside (Below w.heap.size w wr) ∧ Aside (wr.heap[y]? = some (.cells #[.int .i64 ((q : Int) + 1), .int .i64 1] 29 (0, 0))) ∧ Aside (∃ st, TabInt wr b (k + i) st ∧ StaleAt q st))
        case atStart => exact ⟨0, Nat.zero_le _, by omega, rfl, HB5, HX5, HS5⟩
        case round =>
          obtain ⟨j, hjN, hg, rfl, BV, HX, HS⟩ := hrel
          by_cases hlt : j < N
          · have hjl : (j : Int) < (len : Int) := by have := HNN.out; omega
            have hj12 : (j : Int) < 12 := by have := HNN.out; omega
            obtain ⟨st, hTs, hSt⟩ := HS.out
            have HSt : Aside (StaleAt q st) := hSt
            clear hSt
            have hAdd := add_int b (k + j) st (100 + (j : Int)) wr hTs (by have := HNN.out; omega)
            have hbit := pw_cell_below BV.out (HBITS.out j (by omega))
            have HSI : Aside (StaleIn w wr b (k + j) y q st) := ⟨BV.out, HX.out, hTs⟩
            have hjlen : j < len := by omega
            clear hTs hbit
            rcases add_cases st with ⟨hc, hF⟩ | ⟨hc, hF⟩
            · rw [hc, hF] at hAdd
              generalize addI st = I at hAdd
              generalize addG st = G at hAdd
              have hno := HSt.out.none
              have hG := fun W h => get_int b (k + j + 1) st (q + 1) 1 W h
              rw [none_getF hno, none_stale hno] at hG
              have hS := fun W h => set_int b (k + j + 1) st (q + 1) 1 5 W h
              rw [none_setF hno, none_stale hno] at hS
              have hR := fun W h => rem_int b (k + j + 1) st (q + 1) 1 W h
              rw [none_remF hno, none_stale hno] at hR
              clear hc hF hno
              go_wp2_with (first
                | (go_at_call 13; refine hAdd.mono ?_; rintro e w6 ⟨rfl, hg6, hT6⟩; have hs6 := HSI.out.grown HW1.out hxb hg6 hT6; have ly6 := hs6.lt; have q06 := blk_cell hs6.hx 0; have q16 := blk_cell hs6.hx 1; have hs6' := hs6.below (below_alloc (Below.refl w6.heap.size w6) (.cells #[.int .i64 I, .int .i64 G] 29)); have bit6 := (hs6.hb.cell (p := ⟨blk, off + j, none⟩) hblk).trans (HBITS.out j hjlen))
                | (go_at_call 15; refine (hG _ (StaleIn.ht (by assumption))).mono ?_; rintro e w7 ⟨rfl, hb7⟩; have hs7 := StaleIn.below (by assumption) hb7; have q07 := blk_cell hs7.hx 0; have q17 := blk_cell hs7.hx 1)
                | (go_at_call 16; refine (hS _ (StaleIn.ht (by assumption))).mono ?_; rintro e w8 ⟨rfl, hg8, hT8⟩; have hs8 := StaleIn.grown (by assumption) HW1.out hxb hg8 hT8; have q08 := blk_cell hs8.hx 0; have q18 := blk_cell hs8.hx 1)
                | (go_at_call 14; refine (hR _ (StaleIn.ht (by assumption))).mono ?_; rintro e w9 ⟨rfl, hg9, hT9⟩; have hs9 := StaleIn.grown (by assumption) HW1.out hxb hg9 hT9))
              go_roundg (N - (j + 1))
              case measure => omega
              case rel => exact ⟨j + 1, by omega, by omega, by go_num, hs9.hb, hs9.hx, _, hs9.ht, HSt.out⟩
            · have hne := HSt.out.fresh hc
              have hSA := HSt.out.add (100 + (j : Int))
              have hSR := HSt.out.rem hc (100 + (j : Int))
              have hRh := fun W h => rem_int b (k + j + 1) (addF st (100 + (j : Int))) (addI st) (addG st) W h
              rw [show staleC (addF st (100 + (j : Int))) (addI st) (addG st) = 0 by unfold staleC; rw [add_at hc]; rfl] at hRh
              rw [hc] at hAdd
              generalize addI st = I at *
              generalize addG st = G at *
              generalize addF st (100 + (j : Int)) = st1 at *
              generalize remF 0 st1 I G = st2 at *
              have HSA : Aside (StaleAt q st1) := hSA
              have HSR : Aside (StaleAt q st2) := hSR
              clear hSA hSR hc hF
              by_cases eI : I = (q : Int) + 1
              · subst eI
                have hG1 : ¬ G = 1 := fun e => hne ⟨rfl, e⟩
                clear hne
                have hbj := HBITS.out j hjlen
                cases hBj : B j with
                | false =>
                  rw [hBj] at hbj
                  have hno := HSA.out.none
                  have hG := fun W h => get_int b (k + j + 1) st1 (q + 1) 1 W h
                  rw [none_getF hno, none_stale hno] at hG
                  have hS := fun W h => set_int b (k + j + 1) st1 (q + 1) 1 5 W h
                  rw [none_setF hno, none_stale hno] at hS
                  have hR := fun W h => rem_int b (k + j + 1) st1 (q + 1) 1 W h
                  rw [none_remF hno, none_stale hno] at hR
                  clear hno hRh
                  go_wp2_with (first
                  | (go_at_call 13; refine hAdd.mono ?_; rintro e w6 ⟨rfl, hg6, hT6⟩; have hs6 := HSI.out.grown HW1.out hxb hg6 hT6; have ly6 := hs6.lt; have q06 := blk_cell hs6.hx 0; have q16 := blk_cell hs6.hx 1; have hs6' := hs6.below (below_alloc (Below.refl w6.heap.size w6) (.cells #[.int .i64 ((q : Int) + 1), .int .i64 G] 29)); have bit6 := (hs6.hb.cell (p := ⟨blk, off + j, none⟩) hblk).trans hbj; have blk6 : blk < w6.heap.size := Nat.lt_of_lt_of_le hblk hs6.hb.size)
                  | (go_at_call 15; refine (hG _ (StaleIn.ht (by assumption))).mono ?_; rintro e w7 ⟨rfl, hb7⟩; have hs7 := StaleIn.below (by assumption) hb7; have q07 := blk_cell hs7.hx 0; have q17 := blk_cell hs7.hx 1)
                  | (go_at_call 16; refine (hS _ (StaleIn.ht (by assumption))).mono ?_; rintro e w8 ⟨rfl, hg8, hT8⟩; have hs8 := StaleIn.grown (by assumption) HW1.out hxb hg8 hT8; have q08 := blk_cell hs8.hx 0; have q18 := blk_cell hs8.hx 1)
                  | (go_at_call 14; refine (hR _ (StaleIn.ht (by assumption))).mono ?_; rintro e w9 ⟨rfl, hg9, hT9⟩; have hs9 := StaleIn.grown (by assumption) HW1.out hxb hg9 hT9))
                  go_roundg (N - (j + 1))
                  case measure => omega
                  case rel => exact ⟨j + 1, by omega, by omega, by go_num, hs9.hb, hs9.hx, _, hs9.ht, HSA.out⟩
                | true =>
                  rw [hBj] at hbj
                  have hno := HSR.out.none
                  have hG := fun W h => get_int b (k + j + 1) st2 (q + 1) 1 W h
                  rw [none_getF hno, none_stale hno] at hG
                  have hS := fun W h => set_int b (k + j + 1) st2 (q + 1) 1 5 W h
                  rw [none_setF hno, none_stale hno] at hS
                  have hR := fun W h => rem_int b (k + j + 1) st2 (q + 1) 1 W h
                  rw [none_remF hno, none_stale hno] at hR
                  clear hno
                  go_wp2_with (first
                  | (go_at_call 13; refine hAdd.mono ?_; rintro e w6 ⟨rfl, hg6, hT6⟩; have hs6 := HSI.out.grown HW1.out hxb hg6 hT6; have ly6 := hs6.lt; have q06 := blk_cell hs6.hx 0; have q16 := blk_cell hs6.hx 1; have hs6' := hs6.below (below_alloc (Below.refl w6.heap.size w6) (.cells #[.int .i64 ((q : Int) + 1), .int .i64 G] 29)); have bit6 := (hs6.hb.cell (p := ⟨blk, off + j, none⟩) hblk).trans hbj; have blk6 : blk < w6.heap.size := Nat.lt_of_lt_of_le hblk hs6.hb.size)
                  | (go_at_call_of 14 G; refine (hRh _ (StaleIn.ht (by assumption))).mono ?_; rintro e wh ⟨rfl, hgh, hTh⟩; have hsh := StaleIn.grown (by assumption) HW1.out hxb hgh hTh; have q0h := blk_cell hsh.hx 0; have q1h := blk_cell hsh.hx 1)
                  | (go_at_call 15; refine (hG _ (StaleIn.ht (by assumption))).mono ?_; rintro e w7 ⟨rfl, hb7⟩; have hs7 := StaleIn.below (by assumption) hb7; have q07 := blk_cell hs7.hx 0; have q17 := blk_cell hs7.hx 1)
                  | (go_at_call 16; refine (hS _ (StaleIn.ht (by assumption))).mono ?_; rintro e w8 ⟨rfl, hg8, hT8⟩; have hs8 := StaleIn.grown (by assumption) HW1.out hxb hg8 hT8; have q08 := blk_cell hs8.hx 0; have q18 := blk_cell hs8.hx 1)
                  | (go_at_call 14; refine (hR _ (StaleIn.ht (by assumption))).mono ?_; rintro e w9 ⟨rfl, hg9, hT9⟩; have hs9 := StaleIn.grown (by assumption) HW1.out hxb hg9 hT9))
                  go_roundg (N - (j + 1))
                  case measure => omega
                  case rel => exact ⟨j + 1, by omega, by omega, by go_num, hs9.hb, hs9.hx, _, hs9.ht, HSR.out⟩
              · clear hne
                have hbj := HBITS.out j hjlen
                cases hBj : B j with
                | false =>
                  rw [hBj] at hbj
                  have hno := HSA.out.none
                  have hG := fun W h => get_int b (k + j + 1) st1 (q + 1) 1 W h
                  rw [none_getF hno, none_stale hno] at hG
                  have hS := fun W h => set_int b (k + j + 1) st1 (q + 1) 1 5 W h
                  rw [none_setF hno, none_stale hno] at hS
                  have hR := fun W h => rem_int b (k + j + 1) st1 (q + 1) 1 W h
                  rw [none_remF hno, none_stale hno] at hR
                  clear hno hRh
                  go_wp2_with (first
                  | (go_at_call 13; refine hAdd.mono ?_; rintro e w6 ⟨rfl, hg6, hT6⟩; have hs6 := HSI.out.grown HW1.out hxb hg6 hT6; have ly6 := hs6.lt; have q06 := blk_cell hs6.hx 0; have q16 := blk_cell hs6.hx 1; have hs6' := hs6.below (below_alloc (Below.refl w6.heap.size w6) (.cells #[.int .i64 I, .int .i64 G] 29)); have bit6 := (hs6.hb.cell (p := ⟨blk, off + j, none⟩) hblk).trans hbj; have blk6 : blk < w6.heap.size := Nat.lt_of_lt_of_le hblk hs6.hb.size)
                  | (go_at_call 15; refine (hG _ (StaleIn.ht (by assumption))).mono ?_; rintro e w7 ⟨rfl, hb7⟩; have hs7 := StaleIn.below (by assumption) hb7; have q07 := blk_cell hs7.hx 0; have q17 := blk_cell hs7.hx 1)
                  | (go_at_call 16; refine (hS _ (StaleIn.ht (by assumption))).mono ?_; rintro e w8 ⟨rfl, hg8, hT8⟩; have hs8 := StaleIn.grown (by assumption) HW1.out hxb hg8 hT8; have q08 := blk_cell hs8.hx 0; have q18 := blk_cell hs8.hx 1)
                  | (go_at_call 14; refine (hR _ (StaleIn.ht (by assumption))).mono ?_; rintro e w9 ⟨rfl, hg9, hT9⟩; have hs9 := StaleIn.grown (by assumption) HW1.out hxb hg9 hT9))
                  go_roundg (N - (j + 1))
                  case measure => omega
                  case rel => exact ⟨j + 1, by omega, by omega, by go_num, hs9.hb, hs9.hx, _, hs9.ht, HSA.out⟩
                | true =>
                  rw [hBj] at hbj
                  have hno := HSR.out.none
                  have hG := fun W h => get_int b (k + j + 1) st2 (q + 1) 1 W h
                  rw [none_getF hno, none_stale hno] at hG
                  have hS := fun W h => set_int b (k + j + 1) st2 (q + 1) 1 5 W h
                  rw [none_setF hno, none_stale hno] at hS
                  have hR := fun W h => rem_int b (k + j + 1) st2 (q + 1) 1 W h
                  rw [none_remF hno, none_stale hno] at hR
                  clear hno
                  go_wp2_with (first
                  | (go_at_call 13; refine hAdd.mono ?_; rintro e w6 ⟨rfl, hg6, hT6⟩; have hs6 := HSI.out.grown HW1.out hxb hg6 hT6; have ly6 := hs6.lt; have q06 := blk_cell hs6.hx 0; have q16 := blk_cell hs6.hx 1; have hs6' := hs6.below (below_alloc (Below.refl w6.heap.size w6) (.cells #[.int .i64 I, .int .i64 G] 29)); have bit6 := (hs6.hb.cell (p := ⟨blk, off + j, none⟩) hblk).trans hbj; have blk6 : blk < w6.heap.size := Nat.lt_of_lt_of_le hblk hs6.hb.size)
                  | (go_at_call_of 14 G; refine (hRh _ (StaleIn.ht (by assumption))).mono ?_; rintro e wh ⟨rfl, hgh, hTh⟩; have hsh := StaleIn.grown (by assumption) HW1.out hxb hgh hTh; have q0h := blk_cell hsh.hx 0; have q1h := blk_cell hsh.hx 1)
                  | (go_at_call 15; refine (hG _ (StaleIn.ht (by assumption))).mono ?_; rintro e w7 ⟨rfl, hb7⟩; have hs7 := StaleIn.below (by assumption) hb7; have q07 := blk_cell hs7.hx 0; have q17 := blk_cell hs7.hx 1)
                  | (go_at_call 16; refine (hS _ (StaleIn.ht (by assumption))).mono ?_; rintro e w8 ⟨rfl, hg8, hT8⟩; have hs8 := StaleIn.grown (by assumption) HW1.out hxb hg8 hT8; have q08 := blk_cell hs8.hx 0; have q18 := blk_cell hs8.hx 1)
                  | (go_at_call 14; refine (hR _ (StaleIn.ht (by assumption))).mono ?_; rintro e w9 ⟨rfl, hg9, hT9⟩; have hs9 := StaleIn.grown (by assumption) HW1.out hxb hg9 hT9))
                  go_roundg (N - (j + 1))
                  case measure => omega
                  case rel => exact ⟨j + 1, by omega, by omega, by go_num, hs9.hb, hs9.hx, _, hs9.ht, HSR.out⟩
          · by_cases hjl : j < len
            · have hjlI : (j : Int) < (len : Int) := by omega
              have hj12 : ¬ (j : Int) < 12 := by have := HNN.out; omega
              go_wp2_with (go_at_call 11; refine (lives_ok _).mono ?_; rintro e wl ⟨rfl, hbl⟩)
              go_ret
              exact ⟨rfl, below_step BV.out hbl⟩
            · have hjlI : ¬ (j : Int) < (len : Int) := by omega
              go_wp2_with (go_at_call 11; refine (lives_ok _).mono ?_; rintro e wl ⟨rfl, hbl⟩)
              go_ret
              exact ⟨rfl, below_step BV.out hbl⟩

end Go.Proofs.Ytbjmgmngomlmfaa.R
