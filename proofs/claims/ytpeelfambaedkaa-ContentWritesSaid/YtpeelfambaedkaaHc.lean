/- The contract of disk.Set where there is such a place, by hand: the list is copied, and one node is another one; it is short enough for memory. -/
import Derived.Test.YtpeelfambaedkaaHb
namespace Go.Proofs.Ytpeelfambaedkaa.P
open Go.RowKit Go.Proofs.YtpeelfambaedkaaW.PrintWords Go.Proofs.YtpeelfambaedkaaW.PrintLast Go.Proofs.YtpeelfambaedkaaW.PrintMore

theorem set8 (v0 v1 v2 v3 v4 v5 v6 v7 : Value) : ∀ (i : Nat) (cs : List Value), i * 8 + 8 ≤ cs.length →
    (((((((cs.set (i * 8) v0).set (i * 8 + 1) v1).set (i * 8 + 2) v2).set (i * 8 + 3) v3).set (i * 8 + 4) v4).set (i * 8 + 5) v5).set (i * 8 + 6) v6).set (i * 8 + 7) v7 = cs.take (i * 8) ++ ([v0, v1, v2, v3, v4, v5, v6, v7] ++ cs.drop (i * 8 + 8)) := by
  intro i
  induction i with
  | zero =>
    intro cs h
    match cs, h with
    | a0 :: a1 :: a2 :: a3 :: a4 :: a5 :: a6 :: a7 :: cs, _ => simp
  | succ i ih =>
    intro cs h
    match cs, h with
    | a0 :: a1 :: a2 :: a3 :: a4 :: a5 :: a6 :: a7 :: cs, h =>
      have e := ih cs (by simp at h; omega)
      rw [show (i + 1) * 8 = i * 8 + 8 by omega]
      simp only [show ∀ j, i * 8 + 8 + j = i * 8 + j + 8 by omega, List.set_cons_succ, List.take_succ_cons, List.drop_succ_cons, List.cons_append, List.nil_append]
      rw [e]
      simp only [List.cons_append, List.nil_append]
theorem Reps_splice {α : Type} {K : α → List Value → Prop} {sz : Nat} {xs : List α} {cs c : List Value} (h : Reps K sz xs cs) (k : Nat) (hk : k < xs.length) (x : α) (hc : c.length = sz) (hK : K x c) : Reps K sz (xs.set k x) (cs.take (k * sz) ++ (c ++ cs.drop (k * sz + sz))) := by
  have hl : cs.length = xs.length * sz := h.1
  have hfit : k * sz + sz ≤ cs.length := by rw [hl, ← Nat.succ_mul]; exact Nat.mul_le_mul_right _ hk
  refine ⟨by rw [List.length_append, List.length_append, List.length_take, List.length_drop, List.length_set, ← hl]; omega, fun j p hj => ?_⟩
  rw [List.getElem?_set] at hj
  by_cases e : k = j
  · subst e
    rw [if_pos rfl, if_pos hk] at hj
    injection hj with hj
    subst hj
    have e2 : ((cs.take (k * sz) ++ (c ++ cs.drop (k * sz + sz))).drop (k * sz)).take sz = c := by
      rw [List.drop_append_of_le_length (by rw [List.length_take]; omega), List.drop_of_length_le (by rw [List.length_take]; omega), List.nil_append, ← hc, List.take_left']
      rfl
    rw [e2]
    exact hK
  · rw [if_neg e] at hj
    have hjl := (List.getElem?_eq_some_iff.1 hj).1
    have h2 := h.2 j p hj
    have hj2 : j * sz + sz ≤ cs.length := by rw [hl, ← Nat.succ_mul]; exact Nat.mul_le_mul_right _ hjl
    have e2 : ((cs.take (k * sz) ++ (c ++ cs.drop (k * sz + sz))).drop (j * sz)).take sz = (cs.drop (j * sz)).take sz := by
      apply List.ext_getElem?
      intro a
      rw [List.getElem?_take, List.getElem?_take]
      by_cases ha : a < sz
      · rw [if_pos ha, if_pos ha, List.getElem?_drop, List.getElem?_drop]
        rcases Nat.lt_or_ge j k with g | g
        · have : j * sz + sz ≤ k * sz := by rw [← Nat.succ_mul]; exact Nat.mul_le_mul_right _ g
          rw [List.getElem?_append_left (by rw [List.length_take]; omega), List.getElem?_take, if_pos (by omega)]
        · have hgt : k < j := by omega
          have : k * sz + sz ≤ j * sz := by rw [← Nat.succ_mul]; exact Nat.mul_le_mul_right _ hgt
          rw [List.getElem?_append_right (by rw [List.length_take]; omega), List.length_take, Nat.min_eq_left (by omega), List.getElem?_append_right (by omega), List.getElem?_drop, hc]
          congr 1
          omega
      · rw [if_neg ha, if_neg ha]
    rw [e2]
    exact h2

set_option maxHeartbeats 2000000 in
set_option maxRecDepth 100000 in
theorem Set_ok (ad : Addr) (n c0 : Nat) (cs : List Value) (m q : Int) (i : Nat) (x : S59) (A7 : Option Addr) (n7 c7 : Nat) (w : World) (hn : n ≤ 1000) (hi : i < n) (hl : cs.length = n * 8) (hc : ∀ j u, cs[j]? = some u → w.cell? (ad.add j) = some u) (h1 : ∀ u ∈ cs, u.oneCell' = true) :
    Calls Try.prog 37 #[.agg #[.slice (some ad) n c0, .int .i64 m, .int .i64 q], .int .i64 i, .agg #[.int .i64 x.f0, .int .i64 x.f1, .int .i64 x.f2, .int .i64 x.f3, .int .i64 x.f4, .int .i64 x.f5, .string x.f6, .slice A7 n7 c7]] w fun e w' => ∃ (g cap : Nat) (cur : Array Value),
      e = .returned (.agg #[.slice (some ⟨g, 0, none⟩) n cap, .int .i64 m, .int .i64 q]) ∧ w.heap.size ≤ g ∧ n ≤ cap ∧ w'.heap[g]? = some (.cells cur 59 (0, 0)) ∧ cur.toList.take (n * 8) = cs.take (i * 8) ++ ([.int .i64 x.f0, .int .i64 x.f1, .int .i64 x.f2, .int .i64 x.f3, .int .i64 x.f4, .int .i64 x.f5, .string x.f6, .slice A7 n7 c7] ++ cs.drop (i * 8 + 8)) ∧ Below w.heap.size w w' := by
  have hu24 := Try.underlying24
  have hu59 := Try.underlying59
  have hB := Aside0.mk (below_alloc (below_alloc (below_alloc (Below.refl w.heap.size w) (.cells #[.slice (some ad) n c0, .int .i64 m, .int .i64 q] 24)) (.cells #[.int .i64 x.f0, .int .i64 x.f1, .int .i64 x.f2, .int .i64 x.f3, .int .i64 x.f4, .int .i64 x.f5, .string x.f6, .slice A7 n7 c7] 59)) (.cells #[.slice none 0 0, .int .i64 0, .int .i64 0] 24))
  have hT := Aside0.mk (show (((w.alloc (.cells #[.slice (some ad) n c0, .int .i64 m, .int .i64 q] 24)).alloc (.cells #[.int .i64 x.f0, .int .i64 x.f1, .int .i64 x.f2, .int .i64 x.f3, .int .i64 x.f4, .int .i64 x.f5, .string x.f6, .slice A7 n7 c7] 59)).alloc (.cells #[.slice none 0 0, .int .i64 0, .int .i64 0] 24)).heap[w.heap.size]? = some (.cells #[.slice (some ad) n c0, .int .i64 m, .int .i64 q] 24 (0, 0)) from blk_alloc (blk_alloc (blk_new w _) _) _)
  have hX := Aside0.mk (show (((w.alloc (.cells #[.slice (some ad) n c0, .int .i64 m, .int .i64 q] 24)).alloc (.cells #[.int .i64 x.f0, .int .i64 x.f1, .int .i64 x.f2, .int .i64 x.f3, .int .i64 x.f4, .int .i64 x.f5, .string x.f6, .slice A7 n7 c7] 59)).alloc (.cells #[.slice none 0 0, .int .i64 0, .int .i64 0] 24)).heap[w.heap.size + 1]? = some (.cells #[.int .i64 x.f0, .int .i64 x.f1, .int .i64 x.f2, .int .i64 x.f3, .int .i64 x.f4, .int .i64 x.f5, .string x.f6, .slice A7 n7 c7] 59 (0, 0)) from blk_alloc (by simpa using blk_new (w.alloc (.cells #[.slice (some ad) n c0, .int .i64 m, .int .i64 q] 24)) (.cells #[.int .i64 x.f0, .int .i64 x.f1, .int .i64 x.f2, .int .i64 x.f3, .int .i64 x.f4, .int .i64 x.f5, .string x.f6, .slice A7 n7 c7] 59)) _)
  have hR := Aside0.mk (show (((w.alloc (.cells #[.slice (some ad) n c0, .int .i64 m, .int .i64 q] 24)).alloc (.cells #[.int .i64 x.f0, .int .i64 x.f1, .int .i64 x.f2, .int .i64 x.f3, .int .i64 x.f4, .int .i64 x.f5, .string x.f6, .slice A7 n7 c7] 59)).alloc (.cells #[.slice none 0 0, .int .i64 0, .int .i64 0] 24)).heap[w.heap.size + 1 + 1]? = some (.cells #[.slice none 0 0, .int .i64 0, .int .i64 0] 24 (0, 0)) from by simpa using blk_new ((w.alloc (.cells #[.slice (some ad) n c0, .int .i64 m, .int .i64 q] 24)).alloc (.cells #[.int .i64 x.f0, .int .i64 x.f1, .int .i64 x.f2, .int .i64 x.f3, .int .i64 x.f4, .int .i64 x.f5, .string x.f6, .slice A7 n7 c7] 59)) (.cells #[.slice none 0 0, .int .i64 0, .int .i64 0] 24))
  have HC := Aside0.mk hc
  have HL := Aside0.mk hl
  have H1 := Aside0.mk h1
  clear hc hl h1
  go_enter Try.func37, Try.ntmps37
  go_upto_region 1 with (fail)
  generalize (((w.alloc (.cells #[.slice (some ad) n c0, .int .i64 m, .int .i64 q] 24)).alloc (.cells #[.int .i64 x.f0, .int .i64 x.f1, .int .i64 x.f2, .int .i64 x.f3, .int .i64 x.f4, .int .i64 x.f5, .string x.f6, .slice A7 n7 c7] 59)).alloc (.cells #[.slice none 0 0, .int .i64 0, .int .i64 0] 24)) = w3 at hB hT hX hR ⊢
  have t0 := (blk_cell hT.out 0).trans (show _ = some (Value.slice (some ad) n c0) from rfl)
  go_upto_region 2 with (first
    | (go_at_call 40; refine (between_in _ _ _ _ (by omega) (by omega)).mono ?_; rintro e w4 ⟨rfl, hb⟩;
        have T4 := Aside0.mk (blk_below hT.out hb); have X4 := Aside0.mk (blk_below hX.out hb); have R4 := Aside0.mk (blk_below hR.out hb); have B4 := Aside0.mk (below_step hB.out hb)))
  have HC4 := Aside0.mk (fun (j : Nat) (u : Value) (hj : cs[j]? = some u) => pw_cell_below B4.out (HC.out j u hj))
  clear hb hT hX hR hB t0
  have t0 := (blk_cell T4.out 0).trans (show _ = some (Value.slice (some ad) n c0) from rfl)
  have Z4 := Aside0.mk (show w.heap.size + 2 < w4.heap.size from blk_lt R4.out)
  go_upto_region 3 with (first
    | (go_at_call 45; refine (Clone_at ad n c0 cs _ hn HL.out HC4.out H1.out).mono ?_; rintro e w5 ⟨g, cap, cur, rfl, hg, hcap, hcur, htk, hb⟩;
        have T5 := Aside0.mk (blk_below T4.out hb); have X5 := Aside0.mk (blk_below X4.out hb); have R5 := Aside0.mk (blk_below R4.out hb); have B5 := Aside0.mk (below_step B4.out hb);
        have D5 := Aside0.mk hcur; have P5 := Aside0.mk htk; have G5 := Aside0.mk (And.intro (Nat.lt_of_lt_of_le Z4.out hg) hcap); clear hg hcap hcur htk hb;
        have t1 := (blk_cell T5.out 0).trans (show _ = some (Value.slice (some ad) n c0) from rfl); have q1 := blk_frozen T5.out 0))
  have T6 := Aside0.mk (blk_put T5.out 0 (.slice (some ⟨g, 0, none⟩) n cap) rfl)
  have X6 := Aside0.mk (blk_far (p := ⟨w.heap.size, 0, none⟩) X5.out (by dsimp only; omega) (.slice (some ⟨g, 0, none⟩) n cap))
  have R6 := Aside0.mk (blk_far (p := ⟨w.heap.size, 0, none⟩) R5.out (by dsimp only; omega) (.slice (some ⟨g, 0, none⟩) n cap))
  have D6 := Aside0.mk (blk_far (p := ⟨w.heap.size, 0, none⟩) D5.out (by have := G5.out; dsimp only; omega) (.slice (some ⟨g, 0, none⟩) n cap))
  have B6 := Aside0.mk (below_set B5.out (Nat.le_refl _) (j := 0) (v := .slice (some ⟨g, 0, none⟩) n cap))
  clear T5 X5 R5 D5 B5 T4 X4 R4 B4 t0 t1 q1 HC4
  generalize w5.setCell ⟨w.heap.size, 0, none⟩ (.slice (some ⟨g, 0, none⟩) n cap) = w6 at T6 X6 R6 D6 B6 ⊢
  have t0 := (blk_cell T6.out 0).trans (show _ = some (Value.slice (some ⟨g, 0, none⟩) n cap) from rfl)
  have x0 := (blk_cell X6.out 0).trans (show _ = some (Value.int .i64 x.f0) from rfl)
  have x1 := (blk_cell X6.out 1).trans (show _ = some (Value.int .i64 x.f1) from rfl)
  have x2 := (blk_cell X6.out 2).trans (show _ = some (Value.int .i64 x.f2) from rfl)
  have x3 := (blk_cell X6.out 3).trans (show _ = some (Value.int .i64 x.f3) from rfl)
  have x4 := (blk_cell X6.out 4).trans (show _ = some (Value.int .i64 x.f4) from rfl)
  have x5 := (blk_cell X6.out 5).trans (show _ = some (Value.int .i64 x.f5) from rfl)
  have x6 := (blk_cell X6.out 6).trans (show _ = some (Value.string x.f6) from rfl)
  have x7 := (blk_cell X6.out 7).trans (show _ = some (Value.slice A7 n7 c7) from rfl)
  have hlen : i * 8 + 8 ≤ cur.size := by
    have h := congrArg List.length P5.out
    rw [List.length_take, HL.out, Array.length_toList] at h
    omega
  have HQ := Aside0.mk hlen
  obtain ⟨u0, y0⟩ : ∃ u, w6.cell? ⟨g, i * 8, none⟩ = some u := ⟨_, (blk_cell D6.out (i * 8)).trans (Array.getElem?_eq_getElem (by omega))⟩
  obtain ⟨u1, y1⟩ : ∃ u, w6.cell? ⟨g, i * 8 + 1, none⟩ = some u := ⟨_, (blk_cell D6.out (i * 8 + 1)).trans (Array.getElem?_eq_getElem (by omega))⟩
  obtain ⟨u2, y2⟩ : ∃ u, w6.cell? ⟨g, i * 8 + 2, none⟩ = some u := ⟨_, (blk_cell D6.out (i * 8 + 2)).trans (Array.getElem?_eq_getElem (by omega))⟩
  obtain ⟨u3, y3⟩ : ∃ u, w6.cell? ⟨g, i * 8 + 3, none⟩ = some u := ⟨_, (blk_cell D6.out (i * 8 + 3)).trans (Array.getElem?_eq_getElem (by omega))⟩
  obtain ⟨u4, y4⟩ : ∃ u, w6.cell? ⟨g, i * 8 + 4, none⟩ = some u := ⟨_, (blk_cell D6.out (i * 8 + 4)).trans (Array.getElem?_eq_getElem (by omega))⟩
  obtain ⟨u5, y5⟩ : ∃ u, w6.cell? ⟨g, i * 8 + 5, none⟩ = some u := ⟨_, (blk_cell D6.out (i * 8 + 5)).trans (Array.getElem?_eq_getElem (by omega))⟩
  obtain ⟨u6, y6⟩ : ∃ u, w6.cell? ⟨g, i * 8 + 6, none⟩ = some u := ⟨_, (blk_cell D6.out (i * 8 + 6)).trans (Array.getElem?_eq_getElem (by omega))⟩
  obtain ⟨u7, y7⟩ : ∃ u, w6.cell? ⟨g, i * 8 + 7, none⟩ = some u := ⟨_, (blk_cell D6.out (i * 8 + 7)).trans (Array.getElem?_eq_getElem (by omega))⟩
  clear hlen
  have g0 := fun j => blk_frozen D6.out j
  go_upto_region 4 with (fail)
  have T7 := Aside0.mk (blk_far (p := ⟨g, i * 8 + 7, none⟩) (blk_far (p := ⟨g, i * 8 + 6, none⟩) (blk_far (p := ⟨g, i * 8 + 5, none⟩) (blk_far (p := ⟨g, i * 8 + 4, none⟩) (blk_far (p := ⟨g, i * 8 + 3, none⟩) (blk_far (p := ⟨g, i * 8 + 2, none⟩) (blk_far (p := ⟨g, i * 8 + 1, none⟩) (blk_far (p := ⟨g, i * 8, none⟩) T6.out (by have := G5.out; dsimp only; omega) (.int .i64 x.f0)) (by have := G5.out; dsimp only; omega) (.int .i64 x.f1)) (by have := G5.out; dsimp only; omega) (.int .i64 x.f2)) (by have := G5.out; dsimp only; omega) (.int .i64 x.f3)) (by have := G5.out; dsimp only; omega) (.int .i64 x.f4)) (by have := G5.out; dsimp only; omega) (.int .i64 x.f5)) (by have := G5.out; dsimp only; omega) (.string x.f6)) (by have := G5.out; dsimp only; omega) (.slice A7 n7 c7))
  have R7 := Aside0.mk (blk_far (p := ⟨g, i * 8 + 7, none⟩) (blk_far (p := ⟨g, i * 8 + 6, none⟩) (blk_far (p := ⟨g, i * 8 + 5, none⟩) (blk_far (p := ⟨g, i * 8 + 4, none⟩) (blk_far (p := ⟨g, i * 8 + 3, none⟩) (blk_far (p := ⟨g, i * 8 + 2, none⟩) (blk_far (p := ⟨g, i * 8 + 1, none⟩) (blk_far (p := ⟨g, i * 8, none⟩) R6.out (by have := G5.out; dsimp only; omega) (.int .i64 x.f0)) (by have := G5.out; dsimp only; omega) (.int .i64 x.f1)) (by have := G5.out; dsimp only; omega) (.int .i64 x.f2)) (by have := G5.out; dsimp only; omega) (.int .i64 x.f3)) (by have := G5.out; dsimp only; omega) (.int .i64 x.f4)) (by have := G5.out; dsimp only; omega) (.int .i64 x.f5)) (by have := G5.out; dsimp only; omega) (.string x.f6)) (by have := G5.out; dsimp only; omega) (.slice A7 n7 c7))
  have D7 := Aside0.mk (blk_set (blk_set (blk_set (blk_set (blk_set (blk_set (blk_set (blk_set D6.out (i * 8) (.int .i64 x.f0)) (i * 8 + 1) (.int .i64 x.f1)) (i * 8 + 2) (.int .i64 x.f2)) (i * 8 + 3) (.int .i64 x.f3)) (i * 8 + 4) (.int .i64 x.f4)) (i * 8 + 5) (.int .i64 x.f5)) (i * 8 + 6) (.string x.f6)) (i * 8 + 7) (.slice A7 n7 c7))
  have B7 := Aside0.mk (below_set (g := g) (below_set (g := g) (below_set (g := g) (below_set (g := g) (below_set (g := g) (below_set (g := g) (below_set (g := g) (below_set (g := g) B6.out (by have := G5.out; omega) (j := i * 8) (v := .int .i64 x.f0)) (by have := G5.out; omega) (j := i * 8 + 1) (v := .int .i64 x.f1)) (by have := G5.out; omega) (j := i * 8 + 2) (v := .int .i64 x.f2)) (by have := G5.out; omega) (j := i * 8 + 3) (v := .int .i64 x.f3)) (by have := G5.out; omega) (j := i * 8 + 4) (v := .int .i64 x.f4)) (by have := G5.out; omega) (j := i * 8 + 5) (v := .int .i64 x.f5)) (by have := G5.out; omega) (j := i * 8 + 6) (v := .string x.f6)) (by have := G5.out; omega) (j := i * 8 + 7) (v := .slice A7 n7 c7))
  clear T6 X6 R6 D6 B6 t0 g0 x0 y0 x1 y1 x2 y2 x3 y3 x4 y4 x5 y5 x6 y6 x7 y7
  generalize ((((((((w6.setCell ⟨g, i * 8, none⟩ (.int .i64 x.f0)).setCell ⟨g, i * 8 + 1, none⟩ (.int .i64 x.f1)).setCell ⟨g, i * 8 + 2, none⟩ (.int .i64 x.f2)).setCell ⟨g, i * 8 + 3, none⟩ (.int .i64 x.f3)).setCell ⟨g, i * 8 + 4, none⟩ (.int .i64 x.f4)).setCell ⟨g, i * 8 + 5, none⟩ (.int .i64 x.f5)).setCell ⟨g, i * 8 + 6, none⟩ (.string x.f6)).setCell ⟨g, i * 8 + 7, none⟩ (.slice A7 n7 c7)) = w7 at T7 R7 D7 B7 ⊢
  have P7 : ((((((((cur.setIfInBounds (i * 8) (.int .i64 x.f0)).setIfInBounds (i * 8 + 1) (.int .i64 x.f1)).setIfInBounds (i * 8 + 2) (.int .i64 x.f2)).setIfInBounds (i * 8 + 3) (.int .i64 x.f3)).setIfInBounds (i * 8 + 4) (.int .i64 x.f4)).setIfInBounds (i * 8 + 5) (.int .i64 x.f5)).setIfInBounds (i * 8 + 6) (.string x.f6)).setIfInBounds (i * 8 + 7) (.slice A7 n7 c7)).toList.take (n * 8) = cs.take (i * 8) ++ ([.int .i64 x.f0, .int .i64 x.f1, .int .i64 x.f2, .int .i64 x.f3, .int .i64 x.f4, .int .i64 x.f5, .string x.f6, .slice A7 n7 c7] ++ cs.drop (i * 8 + 8)) := by
    simp only [Array.toList_setIfInBounds, List.take_set, P5.out]
    exact set8 _ _ _ _ _ _ _ _ i cs (by rw [HL.out]; omega)
  have PP := Aside0.mk P7
  clear P7
  generalize ((((((((cur.setIfInBounds (i * 8) (.int .i64 x.f0)).setIfInBounds (i * 8 + 1) (.int .i64 x.f1)).setIfInBounds (i * 8 + 2) (.int .i64 x.f2)).setIfInBounds (i * 8 + 3) (.int .i64 x.f3)).setIfInBounds (i * 8 + 4) (.int .i64 x.f4)).setIfInBounds (i * 8 + 5) (.int .i64 x.f5)).setIfInBounds (i * 8 + 6) (.string x.f6)).setIfInBounds (i * 8 + 7) (.slice A7 n7 c7)) = cur2 at D7 PP
  have t0 := (blk_cell T7.out 0).trans (show _ = some (Value.slice (some ⟨g, 0, none⟩) n cap) from rfl)
  have t1 := (blk_cell T7.out 1).trans (show _ = some (Value.int .i64 m) from rfl)
  have t2 := (blk_cell T7.out 2).trans (show _ = some (Value.int .i64 q) from rfl)
  have z0 := (blk_cell R7.out 0).trans (show _ = some (Value.slice none 0 0) from rfl)
  have z1 := (blk_cell R7.out 1).trans (show _ = some (Value.int .i64 0) from rfl)
  have z2 := (blk_cell R7.out 2).trans (show _ = some (Value.int .i64 0) from rfl)
  have qf := fun j => blk_frozen R7.out j
  go_wp2_with fail
  have B := blk_set (blk_set (blk_set R7.out 0 (.slice (some ⟨g, 0, none⟩) n cap)) 1 (.int .i64 m)) 2 (.int .i64 q)
  have r0 := (blk_cell B 0).trans (show _ = some (Value.slice (some ⟨g, 0, none⟩) n cap) from rfl)
  have r1 := (blk_cell B 1).trans (show _ = some (Value.int .i64 m) from rfl)
  have r2 := (blk_cell B 2).trans (show _ = some (Value.int .i64 q) from rfl)
  refine bodyPost_ret (v := .agg #[.slice (some ⟨g, 0, none⟩) n cap, .int .i64 m, .int .i64 q]) (by simp [results, Try.results37, go_sem, r0, r1, r2]) rfl ?_
  have hG := G5.out
  exact ⟨g, cap, cur2, rfl, by omega, hG.2, blk_far (p := ⟨w.heap.size + 1 + 1, 2, none⟩) (blk_far (p := ⟨w.heap.size + 1 + 1, 1, none⟩) (blk_far (p := ⟨w.heap.size + 1 + 1, 0, none⟩) D7.out (by dsimp only; omega) _) (by dsimp only; omega) _) (by dsimp only; omega) _, PP.out, below_set (below_set (below_set B7.out (by omega)) (by omega)) (by omega)⟩
/-- The same over what came in: a list of which one node is another one. -/
theorem V_node_set {base base' : Nat} {w w' : World} {ok ok' okn : Nat → Prop} {A : Option Addr} {c g c' : Nat} {t : TypeId} {xs : List S59} {cs : List Value} {cur : Array Value} {x : S59} {A7 : Option Addr} {c7 : Nat} (i : Nat) (hi : i < xs.length) (h : Kd.V k59 59 w base ok (.slice A xs.length c) xs) (hok : ∀ k, ok k → k < w.heap.size → ok' k) (hokg : ok' g)
    (h7 : x.f7.length ≤ c7) (hF : Kd.F k76 w' ok' A7 x.f7.length x.f7)
    (hlen : cs.length = xs.length * 8) (hsrc : 0 < xs.length → ∃ ad, A = some ad ∧ ∀ j u, cs[j]? = some u → w.cell? (ad.add j) = some u)
    (hold : ∀ k, ok k → k < w.heap.size → w'.heap[k]? = w.heap[k]?) (hg : w'.heap[g]? = some (.cells cur t (0, 0))) (hp : cur.toList.take (xs.length * 8) = cs.take (i * 8) ++ ([.int .i64 x.f0, .int .i64 x.f1, .int .i64 x.f2, .int .i64 x.f3, .int .i64 x.f4, .int .i64 x.f5, .string x.f6, .slice A7 x.f7.length c7] ++ cs.drop (i * 8 + 8))) (hc : xs.length ≤ c') :
    Kd.V k59 59 w' base' ok' (.slice (some ⟨g, 0, none⟩) xs.length c') (xs.set i x) := by
  have e1 : xs.length = (xs.set i x).length := by simp
  have hmax := Kd.F_max (Kd.V_F h)
  have hp2 : cur.toList.take ((xs.set i x).length * 8) = cs.take (i * 8) ++ ([.int .i64 x.f0, .int .i64 x.f1, .int .i64 x.f2, .int .i64 x.f3, .int .i64 x.f4, .int .i64 x.f5, .string x.f6, .slice A7 x.f7.length c7] ++ cs.drop (i * 8 + 8)) := by rw [← e1]; exact hp
  have hc2 : (xs.set i x).length ≤ c' := by rw [← e1]; exact hc
  rw [e1]
  refine Kd.V_mk hc2 fun W hW => ?_
  have hreps := V_reps k59 (W := W) h hlen hsrc (fun k hk hlt => (hW k (hok k hk hlt) (heap_lt (hold k hk hlt) hlt)).trans (hold k hk hlt))
  exact C_of_prefix k59 (Reps_splice hreps i hi x rfl (k59_mk W x h7 (hF W hW))) (by rw [← e1]; exact hmax) ((hW g hokg (blk_lt hg)).trans hg) hp2
end Go.Proofs.Ytpeelfambaedkaa.P
