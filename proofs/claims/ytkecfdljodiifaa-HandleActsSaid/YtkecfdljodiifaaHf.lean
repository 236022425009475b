/- The contract of Set where there is such a description, by hand: the lists are copied, and one description is another one; they are short enough for memory. -/
import Derived.Test.YtkecfdljodiifaaHe
namespace Go.Proofs.Ytkecfdljodiifaa.P
open Go.RowKit Go.Proofs.YtkecfdljodiifaaW.PrintWords Go.Proofs.YtkecfdljodiifaaW.PrintLast Go.Proofs.YtkecfdljodiifaaW.PrintMore

def enc38 (x : S38) : List Value := [.int .i64 x.f0, .int .i64 x.f1, .bool x.f2, .bool x.f3, .int .i64 x.f4, .int .i64 x.f5]
def cells38 (l : List S38) : List Value := l.flatMap enc38
theorem cells38_length (l : List S38) : (cells38 l).length = l.length * 6 := by
  induction l with
  | nil => rfl
  | cons a l ih => simp only [cells38, List.flatMap_cons, List.length_append, List.length_cons] at ih ⊢; rw [ih]; simp [enc38]; omega
theorem cells38_one (l : List S38) : ∀ u ∈ cells38 l, u.oneCell' = true := by
  intro u hu
  obtain ⟨a, _, h⟩ := List.mem_flatMap.1 hu
  simp only [enc38, List.mem_cons, List.not_mem_nil, or_false] at h
  rcases h with rfl | rfl | rfl | rfl | rfl | rfl <;> rfl
theorem cells38_set (l : List S38) (k : Nat) (x : S38) :
    ((((((cells38 l).set (k * 6) (.int .i64 x.f0)).set (k * 6 + 1) (.int .i64 x.f1)).set (k * 6 + 2) (.bool x.f2)).set (k * 6 + 3) (.bool x.f3)).set (k * 6 + 4) (.int .i64 x.f4)).set (k * 6 + 5) (.int .i64 x.f5) = cells38 (l.set k x) := by
  induction l generalizing k with
  | nil => simp [cells38]
  | cons a l ih =>
    cases k with
    | zero => simp [cells38, enc38]
    | succ k =>
      have h := ih k
      have e : cells38 (a :: l) = .int .i64 a.f0 :: .int .i64 a.f1 :: .bool a.f2 :: .bool a.f3 :: .int .i64 a.f4 :: .int .i64 a.f5 :: cells38 l := rfl
      have e2 : cells38 (a :: l.set k x) = .int .i64 a.f0 :: .int .i64 a.f1 :: .bool a.f2 :: .bool a.f3 :: .int .i64 a.f4 :: .int .i64 a.f5 :: cells38 (l.set k x) := rfl
      rw [List.set_cons_succ, e2, e, ← h]
      rw [show (k + 1) * 6 = k * 6 + 6 by omega]
      simp only [show ∀ j, k * 6 + 6 + j = k * 6 + j + 6 by omega, List.set_cons_succ]
theorem cells38_reps (w : World) (l : List S38) : Reps (k38.K w) k38.sz l (cells38 l) := by
  refine ⟨cells38_length l, fun j p hj => ?_⟩
  have : ((cells38 l).drop (j * 6)).take 6 = enc38 p := by
    induction l generalizing j with
    | nil => simp at hj
    | cons a l ih =>
      cases j with
      | zero =>
        simp only [List.getElem?_cons_zero, Option.some.injEq] at hj
        subst hj
        simp [cells38, enc38]
      | succ j =>
        have h := ih j (by simpa using hj)
        rw [show (j + 1) * 6 = j * 6 + 6 by omega]
        exact h
  show k38.K w p (((cells38 l).drop (j * 6)).take 6)
  rw [this]
  exact k38_mk w p
theorem reps_cells38 {w : World} {l : List S38} {cs : List Value} (h : Reps (k38.K w) k38.sz l cs) : cs = cells38 l := by
  induction l generalizing cs with
  | nil => exact List.eq_nil_of_length_eq_zero (by simpa using h.1)
  | cons a l ih =>
    have h1 : cs.length = (l.length + 1) * 6 := h.1
    have h0 := h.2 0 a rfl
    rw [Nat.zero_mul, List.drop_zero] at h0
    have e0 : cs.take 6 = enc38 a := k38_open h0
    have hr : Reps (k38.K w) k38.sz l (cs.drop 6) := by
      refine ⟨by rw [List.length_drop, h1]; show _ = l.length * 6; omega, fun j p hj => ?_⟩
      have := h.2 (j + 1) p (by simpa using hj)
      rw [List.drop_drop]
      rw [show 6 + j * k38.sz = (j + 1) * k38.sz by show 6 + j * 6 = (j + 1) * 6; omega]
      exact this
    have e1 := ih hr
    rw [← List.take_append_drop 6 cs, e0, e1]
    rfl

set_option maxHeartbeats 2000000 in
set_option maxRecDepth 100000 in
theorem Set_ok (A0 : Option Addr) (c0 : Nat) (l0 : List S38) (A1 : Option Addr) (c1 n1 : Nat) (cf : List Value) (k : Nat) (x : S38) (w : World) (hb0 : l0.length ≤ 7036874417766) (hb1 : n1 ≤ 11728124029610)
    (hk : k < l0.length) (hx : (rd_T38 l0 (k : Int)).f4 ≠ 0) (hf : cf.length = n1 * 1) (hr : Kd.C k38 w A0 l0.length l0) (sf : 0 < n1 → ∃ ad, A1 = some ad ∧ ∀ j u, cf[j]? = some u → w.cell? (ad.add j) = some u)
    (of : ∀ u ∈ cf, u.oneCell' = true) :
    Calls Try.prog 30 #[.agg #[.slice A0 l0.length c0, .slice A1 n1 c1], .int .i64 k, .agg #[.int .i64 x.f0, .int .i64 x.f1, .bool x.f2, .bool x.f3, .int .i64 x.f4, .int .i64 x.f5]] w fun e w' => ∃ gd gf : Nat,
      e = .returned (.agg #[.slice (some ⟨gd, 0, none⟩) l0.length l0.length, .slice (some ⟨gf, 0, none⟩) n1 n1]) ∧
      w.heap.size ≤ gd ∧ w.heap.size ≤ gf ∧ w'.heap[gd]? = some (.cells (cells38 (l0.set k { x with f4 := (rd_T38 l0 (k : Int)).f4 })).toArray 38 (0, 0)) ∧ w'.heap[gf]? = some (.cells cf.toArray 64 (0, 0)) ∧ Below w.heap.size w w' := by
  have hu25 := Try.underlying25
  have hu44 := Try.underlying38
  have hmax : l0.length ≤ 9223372036854775807 := by omega
  obtain ⟨cd, dl, dr, d1, ds⟩ := C_cells k38 hr
  obtain rfl := reps_cells38 dr
  have DS := Aside0.mk ds
  have SF := Aside0.mk sf
  have OF := Aside0.mk of
  have HF := Aside0.mk hf
  have B0 := Aside0.mk hb0
  have B1 := Aside0.mk hb1
  clear dl dr d1 ds sf of hf hb0 hb1
  obtain ⟨ad, rfl, x0, x1, x2, x3, x4, x5⟩ := at_T38 hr (k : Int) (by omega) (by omega)
  simp only [Int.toNat_natCast] at x4
  clear x0 x1 x2 x3 x5
  have HR := Aside0.mk hr
  clear hr
  have t4 : ((rd_T38 l0 (k : Int)).f4 == 0) = false := beq_eq_false_iff_ne.mpr hx
  clear hx
  have t1 : decide ((k : Int) < 0) = false := decide_eq_false (by omega)
  have t2 : decide (l0.length ≤ k) = false := decide_eq_false (by omega)
  have X4 : (((w.alloc (.cells #[.slice (some ad) l0.length c0, .slice A1 n1 c1] 25)).alloc (.cells #[.int .i64 x.f0, .int .i64 x.f1, .bool x.f2, .bool x.f3, .int .i64 x.f4, .int .i64 x.f5] 38)).alloc (.cells #[.slice none 0 0, .slice none 0 0] 25)).cell? ⟨(ad.add (k * 6)).block, (ad.add (k * 6)).off + 4, none⟩ = some (.int .i64 (rd_T38 l0 (k : Int)).f4) :=
    pw_cell_below (below_alloc (below_alloc (below_alloc (Below.refl _ _) _) _) _) x4
  have X5 : (((w.alloc (.cells #[.slice (some ad) l0.length c0, .slice A1 n1 c1] 25)).alloc (.cells #[.int .i64 x.f0, .int .i64 x.f1, .bool x.f2, .bool x.f3, .int .i64 (rd_T38 l0 (k : Int)).f4, .int .i64 x.f5] 38)).alloc (.cells #[.slice none 0 0, .slice none 0 0] 25)).cell? ⟨(ad.add (k * 6)).block, (ad.add (k * 6)).off + 4, none⟩ = some (.int .i64 (rd_T38 l0 (k : Int)).f4) :=
    pw_cell_below (below_alloc (below_alloc (below_alloc (Below.refl _ _) _) _) _) x4
  clear x4
  have hB3 := Aside0.mk (show Below w.heap.size w (((w.alloc (.cells #[.slice (some ad) l0.length c0, .slice A1 n1 c1] 25)).alloc (.cells #[.int .i64 x.f0, .int .i64 x.f1, .bool x.f2, .bool x.f3, .int .i64 (rd_T38 l0 (k : Int)).f4, .int .i64 x.f5] 38)).alloc (.cells #[.slice none 0 0, .slice none 0 0] 25)) from below_alloc (below_alloc (below_alloc (Below.refl _ _) _) _) _)
  have hS3 := Aside0.mk (show ((((w.alloc (.cells #[.slice (some ad) l0.length c0, .slice A1 n1 c1] 25)).alloc (.cells #[.int .i64 x.f0, .int .i64 x.f1, .bool x.f2, .bool x.f3, .int .i64 (rd_T38 l0 (k : Int)).f4, .int .i64 x.f5] 38)).alloc (.cells #[.slice none 0 0, .slice none 0 0] 25))).heap.size = w.heap.size + 3 by simp)
  have hT3 := Aside0.mk (show ((((w.alloc (.cells #[.slice (some ad) l0.length c0, .slice A1 n1 c1] 25)).alloc (.cells #[.int .i64 x.f0, .int .i64 x.f1, .bool x.f2, .bool x.f3, .int .i64 (rd_T38 l0 (k : Int)).f4, .int .i64 x.f5] 38)).alloc (.cells #[.slice none 0 0, .slice none 0 0] 25))).heap[w.heap.size]? = some (.cells #[.slice (some ad) l0.length c0, .slice A1 n1 c1] 25 (0, 0)) from blk_alloc (blk_alloc (blk_new w _) _) _)
  have hX3 := Aside0.mk (show ((((w.alloc (.cells #[.slice (some ad) l0.length c0, .slice A1 n1 c1] 25)).alloc (.cells #[.int .i64 x.f0, .int .i64 x.f1, .bool x.f2, .bool x.f3, .int .i64 (rd_T38 l0 (k : Int)).f4, .int .i64 x.f5] 38)).alloc (.cells #[.slice none 0 0, .slice none 0 0] 25))).heap[w.heap.size + 1]? = some (.cells #[.int .i64 x.f0, .int .i64 x.f1, .bool x.f2, .bool x.f3, .int .i64 (rd_T38 l0 (k : Int)).f4, .int .i64 x.f5] 38 (0, 0)) from blk_alloc (by simpa using blk_new (w.alloc (.cells #[.slice (some ad) l0.length c0, .slice A1 n1 c1] 25)) (.cells #[.int .i64 x.f0, .int .i64 x.f1, .bool x.f2, .bool x.f3, .int .i64 (rd_T38 l0 (k : Int)).f4, .int .i64 x.f5] 38)) _)
  have hR3 := Aside0.mk (show ((((w.alloc (.cells #[.slice (some ad) l0.length c0, .slice A1 n1 c1] 25)).alloc (.cells #[.int .i64 x.f0, .int .i64 x.f1, .bool x.f2, .bool x.f3, .int .i64 (rd_T38 l0 (k : Int)).f4, .int .i64 x.f5] 38)).alloc (.cells #[.slice none 0 0, .slice none 0 0] 25))).heap[w.heap.size + 1 + 1]? = some (.cells #[.slice none 0 0, .slice none 0 0] 25 (0, 0)) from by simpa using blk_new ((w.alloc (.cells #[.slice (some ad) l0.length c0, .slice A1 n1 c1] 25)).alloc (.cells #[.int .i64 x.f0, .int .i64 x.f1, .bool x.f2, .bool x.f3, .int .i64 (rd_T38 l0 (k : Int)).f4, .int .i64 x.f5] 38)) (.cells #[.slice none 0 0, .slice none 0 0] 25))
  go_enter Try.func30, Try.ntmps30
  go_wp2_with fail
  refine (own_shut (some ad) c0 l0.length A1 c1 n1 (cells38 l0) cf _ B0.out B1.out (cells38_length l0) HF.out (fun hp => ?_) (fun hp => ?_) (cells38_one l0) OF.out).mono ?_
  · obtain ⟨a, ea, hs⟩ := DS.out hp
    exact ⟨a, ea, fun j u hj => pw_cell_below hB3.out (hs j u hj)⟩
  · obtain ⟨a, ea, hs⟩ := SF.out hp
    exact ⟨a, ea, fun j u hj => pw_cell_below hB3.out (hs j u hj)⟩
  rintro e w1 ⟨gd, gf, rfl, hgd, hgf, hne, hcd, hcf, hb⟩
  rw [hS3.out] at hgd hgf
  have T1 := Aside0.mk (blk_below hT3.out hb)
  have X1 := Aside0.mk (blk_below hX3.out hb)
  have R1 := Aside0.mk (blk_below hR3.out hb)
  have B1' := Aside0.mk (below_step hB3.out hb)
  clear hB3 hS3 hT3 hX3 hR3 X4 X5 hb
  have HG := Aside0.mk (And.intro hgd hgf)
  have HNE := Aside0.mk hne
  have CD := Aside0.mk hcd
  have CF := Aside0.mk hcf
  have ht0 := (blk_cell T1.out 0).trans (show _ = some (Value.slice (some ad) l0.length c0) from rfl)
  have ht1 := (blk_cell T1.out 1).trans (show _ = some (Value.slice A1 n1 c1) from rfl)
  have hq0 := blk_frozen T1.out 0
  have hq1 := blk_frozen T1.out 1
  clear hgd hgf hne hcd hcf
  go_upto_region 5 with (fail)
  have T2 := Aside0.mk (blk_put (blk_put T1.out 0 (.slice (some ⟨gd, 0, none⟩) l0.length l0.length) rfl) 1 (.slice (some ⟨gf, 0, none⟩) n1 n1) rfl)
  have X2 := Aside0.mk (blk_far (p := ⟨w.heap.size, 1, none⟩) (blk_far (p := ⟨w.heap.size, 0, none⟩) X1.out (by dsimp only; omega) (.slice (some ⟨gd, 0, none⟩) l0.length l0.length)) (by dsimp only; omega) (.slice (some ⟨gf, 0, none⟩) n1 n1))
  have R2 := Aside0.mk (blk_far (p := ⟨w.heap.size, 1, none⟩) (blk_far (p := ⟨w.heap.size, 0, none⟩) R1.out (by dsimp only; omega) (.slice (some ⟨gd, 0, none⟩) l0.length l0.length)) (by dsimp only; omega) (.slice (some ⟨gf, 0, none⟩) n1 n1))
  have D2 := Aside0.mk (blk_far (p := ⟨w.heap.size, 1, none⟩) (blk_far (p := ⟨w.heap.size, 0, none⟩) CD.out (by have := HG.out.1; dsimp only; omega) (.slice (some ⟨gd, 0, none⟩) l0.length l0.length)) (by have := HG.out.1; dsimp only; omega) (.slice (some ⟨gf, 0, none⟩) n1 n1))
  have F2 := Aside0.mk (blk_far (p := ⟨w.heap.size, 1, none⟩) (blk_far (p := ⟨w.heap.size, 0, none⟩) CF.out (by have := HG.out.2; dsimp only; omega) (.slice (some ⟨gd, 0, none⟩) l0.length l0.length)) (by have := HG.out.2; dsimp only; omega) (.slice (some ⟨gf, 0, none⟩) n1 n1))
  have B2 := Aside0.mk (below_set (below_set B1'.out (Nat.le_refl _) (j := 0) (v := .slice (some ⟨gd, 0, none⟩) l0.length l0.length)) (Nat.le_refl _) (j := 1) (v := .slice (some ⟨gf, 0, none⟩) n1 n1))
  clear T1 X1 R1 CD CF B1' ht0 ht1 hq0 hq1
  generalize ((w1.setCell ⟨w.heap.size, 0, none⟩ (.slice (some ⟨gd, 0, none⟩) l0.length l0.length)).setCell ⟨w.heap.size, 1, none⟩ (.slice (some ⟨gf, 0, none⟩) n1 n1)) = w2 at T2 X2 R2 D2 F2 B2 ⊢
  have ht0 := (blk_cell T2.out 0).trans (show _ = some (Value.slice (some ⟨gd, 0, none⟩) l0.length l0.length) from rfl)
  have hx0 := (blk_cell X2.out 0).trans (show _ = some (Value.int .i64 x.f0) from rfl)
  have hx1 := (blk_cell X2.out 1).trans (show _ = some (Value.int .i64 x.f1) from rfl)
  have hx2 := (blk_cell X2.out 2).trans (show _ = some (Value.bool x.f2) from rfl)
  have hx3 := (blk_cell X2.out 3).trans (show _ = some (Value.bool x.f3) from rfl)
  have hx4 := (blk_cell X2.out 4).trans (show _ = some (Value.int .i64 (rd_T38 l0 (k : Int)).f4) from rfl)
  have hx5 := (blk_cell X2.out 5).trans (show _ = some (Value.int .i64 x.f5) from rfl)
  obtain ⟨ad2, ea, y0, y1, y2, y3, y4, y5⟩ := at_T38 (C_of_block k38 (cells38_reps w2 l0) hmax D2.out) (k : Int) (by omega) (by omega)
  cases ea
  simp only [Int.toNat_natCast, addr_plain] at y0 y1 y2 y3 y4 y5
  have g0 := fun i => blk_frozen D2.out i
  go_upto_region 6 with (fail)
  have T3 := Aside0.mk (blk_far (p := ⟨gd, k * 6 + 5, none⟩) (blk_far (p := ⟨gd, k * 6 + 4, none⟩) (blk_far (p := ⟨gd, k * 6 + 3, none⟩) (blk_far (p := ⟨gd, k * 6 + 2, none⟩) (blk_far (p := ⟨gd, k * 6 + 1, none⟩) (blk_far (p := ⟨gd, k * 6, none⟩) T2.out (by have := HG.out.1; dsimp only; omega) (.int .i64 x.f0)) (by have := HG.out.1; dsimp only; omega) (.int .i64 x.f1)) (by have := HG.out.1; dsimp only; omega) (.bool x.f2)) (by have := HG.out.1; dsimp only; omega) (.bool x.f3)) (by have := HG.out.1; dsimp only; omega) (.int .i64 (rd_T38 l0 (k : Int)).f4)) (by have := HG.out.1; dsimp only; omega) (.int .i64 x.f5))
  have R3 := Aside0.mk (blk_far (p := ⟨gd, k * 6 + 5, none⟩) (blk_far (p := ⟨gd, k * 6 + 4, none⟩) (blk_far (p := ⟨gd, k * 6 + 3, none⟩) (blk_far (p := ⟨gd, k * 6 + 2, none⟩) (blk_far (p := ⟨gd, k * 6 + 1, none⟩) (blk_far (p := ⟨gd, k * 6, none⟩) R2.out (by have := HG.out.1; dsimp only; omega) (.int .i64 x.f0)) (by have := HG.out.1; dsimp only; omega) (.int .i64 x.f1)) (by have := HG.out.1; dsimp only; omega) (.bool x.f2)) (by have := HG.out.1; dsimp only; omega) (.bool x.f3)) (by have := HG.out.1; dsimp only; omega) (.int .i64 (rd_T38 l0 (k : Int)).f4)) (by have := HG.out.1; dsimp only; omega) (.int .i64 x.f5))
  have F3 := Aside0.mk (blk_far (p := ⟨gd, k * 6 + 5, none⟩) (blk_far (p := ⟨gd, k * 6 + 4, none⟩) (blk_far (p := ⟨gd, k * 6 + 3, none⟩) (blk_far (p := ⟨gd, k * 6 + 2, none⟩) (blk_far (p := ⟨gd, k * 6 + 1, none⟩) (blk_far (p := ⟨gd, k * 6, none⟩) F2.out (by exact fun e => HNE.out e.symm) (.int .i64 x.f0)) (by exact fun e => HNE.out e.symm) (.int .i64 x.f1)) (by exact fun e => HNE.out e.symm) (.bool x.f2)) (by exact fun e => HNE.out e.symm) (.bool x.f3)) (by exact fun e => HNE.out e.symm) (.int .i64 (rd_T38 l0 (k : Int)).f4)) (by exact fun e => HNE.out e.symm) (.int .i64 x.f5))
  have D3 := Aside0.mk (blk_set (blk_set (blk_set (blk_set (blk_set (blk_set D2.out (k * 6) (.int .i64 x.f0)) (k * 6 + 1) (.int .i64 x.f1)) (k * 6 + 2) (.bool x.f2)) (k * 6 + 3) (.bool x.f3)) (k * 6 + 4) (.int .i64 (rd_T38 l0 (k : Int)).f4)) (k * 6 + 5) (.int .i64 x.f5))
  have B3 := Aside0.mk (below_set (g := gd) (below_set (g := gd) (below_set (g := gd) (below_set (g := gd) (below_set (g := gd) (below_set (g := gd) B2.out (by have := HG.out.1; omega) (j := k * 6) (v := .int .i64 x.f0)) (by have := HG.out.1; omega) (j := k * 6 + 1) (v := .int .i64 x.f1)) (by have := HG.out.1; omega) (j := k * 6 + 2) (v := .bool x.f2)) (by have := HG.out.1; omega) (j := k * 6 + 3) (v := .bool x.f3)) (by have := HG.out.1; omega) (j := k * 6 + 4) (v := .int .i64 (rd_T38 l0 (k : Int)).f4)) (by have := HG.out.1; omega) (j := k * 6 + 5) (v := .int .i64 x.f5))
  simp only [List.setIfInBounds_toArray] at D3
  rw [cells38_set l0 k { x with f4 := (rd_T38 l0 (k : Int)).f4 }] at D3
  clear T2 X2 R2 D2 F2 B2 ht0 hx0 hx1 hx2 hx3 hx4 hx5 y0 y1 y2 y3 y4 y5 g0
  generalize ((((((w2.setCell ⟨gd, k * 6, none⟩ (.int .i64 x.f0)).setCell ⟨gd, k * 6 + 1, none⟩ (.int .i64 x.f1)).setCell ⟨gd, k * 6 + 2, none⟩ (.bool x.f2)).setCell ⟨gd, k * 6 + 3, none⟩ (.bool x.f3)).setCell ⟨gd, k * 6 + 4, none⟩ (.int .i64 (rd_T38 l0 (k : Int)).f4)).setCell ⟨gd, k * 6 + 5, none⟩ (.int .i64 x.f5)) = w3 at T3 R3 F3 D3 B3 ⊢
  have ht0 := (blk_cell T3.out 0).trans (show _ = some (Value.slice (some ⟨gd, 0, none⟩) l0.length l0.length) from rfl)
  have ht1 := (blk_cell T3.out 1).trans (show _ = some (Value.slice (some ⟨gf, 0, none⟩) n1 n1) from rfl)
  have hr0 := (blk_cell R3.out 0).trans (show _ = some (Value.slice none 0 0) from rfl)
  have hr1 := (blk_cell R3.out 1).trans (show _ = some (Value.slice none 0 0) from rfl)
  have q0 := blk_frozen R3.out 0
  have q1 := blk_frozen R3.out 1
  go_wp2_with fail
  have B := blk_set (blk_set R3.out 0 (.slice (some ⟨gd, 0, none⟩) l0.length l0.length)) 1 (.slice (some ⟨gf, 0, none⟩) n1 n1)
  have r0 := (blk_cell B 0).trans (show _ = some (Value.slice (some ⟨gd, 0, none⟩) l0.length l0.length) from rfl)
  have r1 := (blk_cell B 1).trans (show _ = some (Value.slice (some ⟨gf, 0, none⟩) n1 n1) from rfl)
  refine bodyPost_ret (v := .agg #[.slice (some ⟨gd, 0, none⟩) l0.length l0.length, .slice (some ⟨gf, 0, none⟩) n1 n1]) (by simp [results, Try.results30, go_sem, r0, r1]) rfl ⟨gd, gf, rfl, by have := HG.out.1; omega, by have := HG.out.2; omega, ?_, ?_, ?_⟩
  · exact blk_far (p := ⟨w.heap.size + 1 + 1, 1, none⟩) (blk_far (p := ⟨w.heap.size + 1 + 1, 0, none⟩) D3.out (by have := HG.out.1; dsimp only; omega) _) (by have := HG.out.1; dsimp only; omega) _
  · exact blk_far (p := ⟨w.heap.size + 1 + 1, 1, none⟩) (blk_far (p := ⟨w.heap.size + 1 + 1, 0, none⟩) F3.out (by have := HG.out.2; dsimp only; omega) _) (by have := HG.out.2; dsimp only; omega) _
  · exact below_set (below_set B3.out (by omega)) (by omega)
end Go.Proofs.Ytkecfdljodiifaa.P
