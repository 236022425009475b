/- The contracts of 'refer', by hand: a table in which a descriptor more refers to a description; the lists are short enough for memory. -/
import Derived.Test.YtkecfdljodiifaaHi
import Derived.Test.YtkecfdljodiifaaHg
import Derived.Test.YtkecfdljodiifaaPslicesIndexintint
namespace Go.Proofs.Ytkecfdljodiifaa.P
open Go.RowKit Go.Proofs.YtkecfdljodiifaaW.PrintWords Go.Proofs.YtkecfdljodiifaaW.PrintLast Go.Proofs.YtkecfdljodiifaaW.PrintMore

set_option maxHeartbeats 800000 in
set_option maxRecDepth 100000 in
theorem refer_many (A0 : Option Addr) (c0 n0 : Nat) (ad1 ar : Addr) (c1 n1 k cr : Nat) (row : List Int) (q : Nat) (r i : Int) (more : Value) (w : World) (hk : k < n1) (hm : n1 ≤ 9223372036854775807)
    (hu : w.cell? (ad1.add k) = some (.slice (some ar) row.length cr)) (hc : row.length ≤ cr) (hrow : Kd.C (Kd.int .i64) w (some ar) row.length row) (hi : slices_Index_int_int.f q row (-1) = some r) (hr : r < 0) :
    Calls Try.prog 37 #[.agg #[.slice A0 n0 c0, .slice (some ad1) n1 c1], .int .i64 k, .int .i64 i, more] w fun e w' => e = .returned (.tuple #[.agg #[.slice A0 n0 c0, .slice (some ad1) n1 c1], .int .i64 0, .int .i64 13]) ∧ Below w.heap.size w w' := by
  have hu25 := Try.underlying25
  have t1 : decide (r < 0) = true := decide_eq_true hr
  have hB := Aside0.mk (below_alloc (below_alloc (Below.refl w.heap.size w) (.cells #[.slice A0 n0 c0, .slice (some ad1) n1 c1] 25)) (.cells #[.slice none 0 0, .slice none 0 0] 25))
  have U2 := Aside0.mk (pw_cell_below hB.out hu)
  have RW := Aside0.mk hrow
  have HI := Aside0.mk hi
  clear hrow hi hu hr
  go_enter Try.func37, Try.ntmps37
  go_upto_region 2 with (first
    | (go_at_call 34; refine (row_at _ ad1 n1 c1 k _ _ hk hm U2.out).mono ?_; rintro e w3 ⟨rfl, hb3⟩)
    | (go_at_call 42; refine (slices_Index_int_int.calls q _ _ row (-1) r _ (Kd.C_below RW.out (below_step hB.out hb3)) hc HI.out).mono ?_; rintro e w4 ⟨rfl, hb4⟩))
  have TT := Aside0.mk (blk_below (show ((w.alloc (.cells #[.slice A0 n0 c0, .slice (some ad1) n1 c1] 25)).alloc (.cells #[.slice none 0 0, .slice none 0 0] 25)).heap[w.heap.size]? = some (.cells #[.slice A0 n0 c0, .slice (some ad1) n1 c1] 25 (0, 0)) from blk_alloc (blk_new w _) _) (below_step hb3 hb4.below))
  have RR := Aside0.mk (blk_below (show ((w.alloc (.cells #[.slice A0 n0 c0, .slice (some ad1) n1 c1] 25)).alloc (.cells #[.slice none 0 0, .slice none 0 0] 25)).heap[w.heap.size + 1]? = some (.cells #[.slice none 0 0, .slice none 0 0] 25 (0, 0)) from by simpa using blk_new (w.alloc (.cells #[.slice A0 n0 c0, .slice (some ad1) n1 c1] 25)) (.cells #[.slice none 0 0, .slice none 0 0] 25)) (below_step hb3 hb4.below))
  have B4 := Aside0.mk (below_step hB.out (below_step hb3 hb4.below))
  clear hb3 hb4 U2 hB
  have ht0 := (blk_cell TT.out 0).trans (show _ = some (Value.slice A0 n0 c0) from rfl)
  have ht1 := (blk_cell TT.out 1).trans (show _ = some (Value.slice (some ad1) n1 c1) from rfl)
  have hr0 := (blk_cell RR.out 0).trans (show _ = some (Value.slice none 0 0) from rfl)
  have hr1 := (blk_cell RR.out 1).trans (show _ = some (Value.slice none 0 0) from rfl)
  have q0 := blk_frozen RR.out 0
  have q1 := blk_frozen RR.out 1
  go_wp2_with fail
  have B := blk_set (blk_set RR.out 0 (.slice A0 n0 c0)) 1 (.slice (some ad1) n1 c1)
  have r0 := (blk_cell B 0).trans (show _ = some (Value.slice A0 n0 c0) from rfl)
  have r1 := (blk_cell B 1).trans (show _ = some (Value.slice (some ad1) n1 c1) from rfl)
  exact bodyPost_ret (v := .tuple #[.agg #[.slice A0 n0 c0, .slice (some ad1) n1 c1], .int .i64 0, .int .i64 13]) (by simp [results, Try.results37, go_sem, r0, r1]) rfl ⟨rfl, below_set (below_set B4.out (by omega)) (by omega)⟩

theorem reps_ints {w : World} {l : List Int} {cs : List Value} (h : Reps ((Kd.int .i64).K w) (Kd.int .i64).sz l cs) : cs = l.map (Value.int .i64) := by
  have h1 : cs.length = l.length * 1 := h.1
  apply List.ext_getElem
  · simp [h1]
  · intro j a b
    have hj : j < l.length := by simpa using b
    have h2 : ((cs.drop (j * 1)).take 1) = [.int .i64 l[j]] := h.2 j _ (List.getElem?_eq_getElem hj)
    rw [Nat.mul_one, List.drop_eq_getElem_cons a] at h2
    simp only [List.take_succ_cons, List.take_zero, List.cons.injEq, and_true] at h2
    rw [h2, List.getElem_map]
theorem cells38_refs (l : List S38) (k : Nat) (v : Int) (hk : k < l.length) : (cells38 l).set (k * 6 + 4) (.int .i64 v) = cells38 (l.set k { rd_T38 l (k : Int) with f4 := v }) := by
  induction l generalizing k with
  | nil => simp at hk
  | cons a l ih =>
    have e : cells38 (a :: l) = .int .i64 a.f0 :: .int .i64 a.f1 :: .bool a.f2 :: .bool a.f3 :: .int .i64 a.f4 :: .int .i64 a.f5 :: cells38 l := rfl
    cases k with
    | zero => simp [cells38, enc38, rd_T38]
    | succ k =>
      have h := ih k (by simpa using hk)
      have r : rd_T38 (a :: l) ((k + 1 : Nat) : Int) = rd_T38 l (k : Int) := by
        simp only [rd_T38, Int.toNat_natCast, List.getD_eq_getElem?_getD, List.getElem?_cons_succ]
      rw [r, List.set_cons_succ, e]
      have e2 : ∀ m : List S38, cells38 (a :: m) = .int .i64 a.f0 :: .int .i64 a.f1 :: .bool a.f2 :: .bool a.f3 :: .int .i64 a.f4 :: .int .i64 a.f5 :: cells38 m := fun _ => rfl
      rw [e2, ← h, show (k + 1) * 6 + 4 = k * 6 + 4 + 6 by omega]
      simp only [List.set_cons_succ]

set_option maxHeartbeats 4000000 in
set_option maxRecDepth 100000 in
theorem refer_none (A0 : Option Addr) (c0 : Nat) (l0 : List S38) (ad1 ar : Addr) (c1 n1 k cr : Nat) (cf : List Value) (row : List Int) (q fd i : Nat) (w : World) (hk : k < n1) (hi : i < l0.length) (hfd : fd < row.length)
    (hb0 : l0.length ≤ 1000) (hb1 : n1 ≤ 1000) (hbr : row.length ≤ 1000) (hr : Kd.C k38 w A0 l0.length l0) (hf : cf.length = n1 * 1) (sf : ∀ j u, cf[j]? = some u → w.cell? (ad1.add j) = some u) (of : ∀ u ∈ cf, u.oneCell' = true)
    (hck : cf[k]? = some (.slice (some ar) row.length cr)) (hc : row.length ≤ cr) (hrow : Kd.C (Kd.int .i64) w (some ar) row.length row) (hx : slices_Index_int_int.f q row (-1) = some (fd : Int)) :
    Calls Try.prog 37 #[.agg #[.slice A0 l0.length c0, .slice (some ad1) n1 c1], .int .i64 k, .int .i64 i, .slice none 0 0] w fun e w' => ∃ gd gf gr : Nat,
      e = .returned (.tuple #[.agg #[.slice (some ⟨gd, 0, none⟩) l0.length l0.length, .slice (some ⟨gf, 0, none⟩) n1 n1], .int .i64 fd, .int .i64 0]) ∧ w.heap.size ≤ gd ∧ w.heap.size ≤ gf ∧ w.heap.size ≤ gr ∧
      w'.heap[gd]? = some (.cells (cells38 (l0.set i { rd_T38 l0 (i : Int) with f4 := wrap64 ((rd_T38 l0 (i : Int)).f4 + 1) })).toArray 38 (0, 0)) ∧ w'.heap[gf]? = some (.cells (cf.set k (.slice (some ⟨gr, 0, none⟩) row.length row.length)).toArray 64 (0, 0)) ∧
      w'.heap[gr]? = some (.cells ((row.set fd (i : Int)).map (Value.int .i64)).toArray 3 (0, 0)) ∧ Below w.heap.size w w' := by
  have hu25 := Try.underlying25
  have hu38 := Try.underlying38
  have t1 : decide ((fd : Int) < 0) = false := decide_eq_false (by omega)
  obtain ⟨cd, dl, dr, d1, ds⟩ := C_cells k38 hr
  obtain rfl := reps_cells38 dr
  obtain ⟨cw, wl, wr, w1, ws⟩ := C_cells (Kd.int .i64) hrow
  obtain rfl := reps_ints wr
  have hB := Aside0.mk (below_alloc (below_alloc (Below.refl w.heap.size w) (.cells #[.slice A0 l0.length c0, .slice (some ad1) n1 c1] 25)) (.cells #[.slice none 0 0, .slice none 0 0] 25))
  have U2 := Aside0.mk (pw_cell_below hB.out (sf k _ hck))
  have RW := Aside0.mk hrow
  have HX := Aside0.mk hx
  have DS := Aside0.mk ds
  have SF := Aside0.mk sf
  have OF := Aside0.mk of
  have WS := Aside0.mk ws
  have CK := Aside0.mk hck
  have WL := Aside0.mk wl
  have W1 := Aside0.mk w1
  have HF := Aside0.mk hf
  have hT := Aside0.mk (show ((w.alloc (.cells #[.slice A0 l0.length c0, .slice (some ad1) n1 c1] 25)).alloc (.cells #[.slice none 0 0, .slice none 0 0] 25)).heap[w.heap.size]? = some (.cells #[.slice A0 l0.length c0, .slice (some ad1) n1 c1] 25 (0, 0)) from blk_alloc (blk_new w _) _)
  have hR := Aside0.mk (show ((w.alloc (.cells #[.slice A0 l0.length c0, .slice (some ad1) n1 c1] 25)).alloc (.cells #[.slice none 0 0, .slice none 0 0] 25)).heap[w.heap.size + 1]? = some (.cells #[.slice none 0 0, .slice none 0 0] 25 (0, 0)) from by simpa using blk_new (w.alloc (.cells #[.slice A0 l0.length c0, .slice (some ad1) n1 c1] 25)) (.cells #[.slice none 0 0, .slice none 0 0] 25))
  clear hrow hx dl dr d1 ds sf of ws hck wl w1 hf hr
  go_enter Try.func37, Try.ntmps37
  go_upto_region 2 with (first
    | (go_at_call 34; refine (row_at _ ad1 n1 c1 k _ _ hk (by omega) U2.out).mono ?_; rintro e w3 ⟨rfl, hb3⟩)
    | (go_at_call 42; refine (slices_Index_int_int.calls q _ _ row (-1) _ _ (Kd.C_below RW.out (below_step hB.out hb3)) hc HX.out).mono ?_; rintro e w4 ⟨rfl, hb4⟩))
  have T4 := Aside0.mk (blk_below hT.out (below_step hb3 hb4.below))
  have R4 := Aside0.mk (blk_below hR.out (below_step hb3 hb4.below))
  have B4 := Aside0.mk (below_step hB.out (below_step hb3 hb4.below))
  clear hb3 hb4 U2 hB hT hR
  have ht0 := (blk_cell T4.out 0).trans (show _ = some (Value.slice A0 l0.length c0) from rfl)
  have ht1 := (blk_cell T4.out 1).trans (show _ = some (Value.slice (some ad1) n1 c1) from rfl)
  go_upto_region 4 with (fail)
  obtain ⟨arw, earw, hws⟩ := WS.out (by omega)
  cases earw
  have SR4 := Aside0.mk (fun (j : Nat) (u : Value) (hj : (row.map (Value.int .i64))[j]? = some u) => pw_cell_below B4.out (hws j u hj))
  have SF4 := Aside0.mk (fun (_ : 0 < n1) => (⟨ad1, rfl, fun (j : Nat) (u : Value) (hj : cf[j]? = some u) => pw_cell_below B4.out (SF.out j u hj)⟩ : ∃ ad, some ad1 = some ad ∧ ∀ j u, cf[j]? = some u → w4.cell? (ad.add j) = some u))
  have SD4 := Aside0.mk (show 0 < l0.length → ∃ ad, A0 = some ad ∧ ∀ j u, (cells38 l0)[j]? = some u → w4.cell? (ad.add j) = some u from fun hp => by
    obtain ⟨a, ea, hs⟩ := DS.out hp
    exact ⟨a, ea, fun j u hj => pw_cell_below B4.out (hs j u hj)⟩)
  have Z4 := Aside0.mk (show w.heap.size + 1 < w4.heap.size from blk_lt R4.out)
  go_upto_region 5 with (first
    | (go_at_call 38; refine (own_at k ar row.length cr (row.map (Value.int .i64)) A0 c0 l0.length (some ad1) c1 n1 (cells38 l0) cf _ hk (by omega) CK.out WL.out SR4.out W1.out (by omega) (by omega) (cells38_length l0) HF.out SD4.out SF4.out (cells38_one l0) OF.out).mono ?_; rintro e w5 ⟨gd, gf, gr, rfl, hgd, hgf, hgr, hdf, hdr, hfr, hcd, hcf, hcr, hb5⟩;
        have T5 := Aside0.mk (blk_below T4.out hb5); have R5 := Aside0.mk (blk_below R4.out hb5); have B5 := Aside0.mk (below_step B4.out hb5);
        have q0 := blk_frozen T5.out 0; have q1 := blk_frozen T5.out 1; have y0 := (blk_cell T5.out 0).trans (show _ = some (Value.slice A0 l0.length c0) from rfl); have y1 := (blk_cell T5.out 1).trans (show _ = some (Value.slice (some ad1) n1 c1) from rfl)))
  have HG := Aside0.mk (show w.heap.size + 1 < gd ∧ w.heap.size + 1 < gf ∧ w.heap.size + 1 < gr ∧ gd ≠ gf ∧ gd ≠ gr ∧ gf ≠ gr from by have := Z4.out; exact ⟨by omega, by omega, by omega, hdf, hdr, hfr⟩)
  have far : ∀ {g : Nat} {cs : Array Value} {t : TypeId}, w5.heap[g]? = some (.cells cs t (0, 0)) → g ≠ w.heap.size → ((w5.setCell ⟨w.heap.size, 0, none⟩ (.slice (some ⟨gd, 0, none⟩) l0.length l0.length)).setCell ⟨w.heap.size, 1, none⟩ (.slice (some ⟨gf, 0, none⟩) n1 n1)).heap[g]? = some (.cells cs t (0, 0)) :=
    fun h hne => blk_far (p := ⟨w.heap.size, 1, none⟩) (blk_far (p := ⟨w.heap.size, 0, none⟩) h hne (.slice (some ⟨gd, 0, none⟩) l0.length l0.length)) hne (.slice (some ⟨gf, 0, none⟩) n1 n1)
  have T6 := Aside0.mk (blk_put (blk_put T5.out 0 (.slice (some ⟨gd, 0, none⟩) l0.length l0.length) rfl) 1 (.slice (some ⟨gf, 0, none⟩) n1 n1) rfl)
  have R6 := Aside0.mk (far R5.out (by omega))
  have D6 := Aside0.mk (far hcd (by have := HG.out; omega))
  have F6 := Aside0.mk (far hcf (by have := HG.out; omega))
  have W6 := Aside0.mk (far hcr (by have := HG.out; omega))
  have B6 := Aside0.mk (below_set (below_set B5.out (Nat.le_refl _) (j := 0) (v := .slice (some ⟨gd, 0, none⟩) l0.length l0.length)) (Nat.le_refl _) (j := 1) (v := .slice (some ⟨gf, 0, none⟩) n1 n1))
  clear far T5 R5 B5 hcd hcf hcr hb5 hgd hgf hgr hdf hdr hfr q0 q1 y0 y1 T4 R4 B4 SR4 SF4 SD4 Z4 ht0 ht1
  generalize ((w5.setCell ⟨w.heap.size, 0, none⟩ (.slice (some ⟨gd, 0, none⟩) l0.length l0.length)).setCell ⟨w.heap.size, 1, none⟩ (.slice (some ⟨gf, 0, none⟩) n1 n1)) = w6 at T6 R6 D6 F6 W6 B6 ⊢
  have ht0 := (blk_cell T6.out 0).trans (show _ = some (Value.slice (some ⟨gd, 0, none⟩) l0.length l0.length) from rfl)
  have ht1 := (blk_cell T6.out 1).trans (show _ = some (Value.slice (some ⟨gf, 0, none⟩) n1 n1) from rfl)
  go_wp2_with fail
  have hmax : l0.length ≤ 9223372036854775807 := Nat.le_trans hb0 (by decide)
  obtain ⟨ad2, ea, y0, y1, y2, y3, y4, y5⟩ := at_T38 (C_of_block k38 (cells38_reps w6 l0) hmax D6.out) (i : Int) (by omega) (by omega)
  cases ea
  simp only [Int.toNat_natCast, addr_plain] at y0 y1 y2 y3 y4 y5
  clear y0 y1 y2 y3 y5
  have g0 := blk_frozen D6.out (i * 6 + 4)
  refine wp_loop_rounds 1 ?_
  rw [rounds_succ]
  go_upto_region 13 with (fail)
  have hv4 : ∀ v : Int, w6.setCell ⟨gd, i * 6 + 4, none⟩ (.int .i64 v) = w6.setCell ⟨gd, i * 6 + 4, none⟩ (.int .i64 v) := fun _ => rfl
  have far : ∀ {g : Nat} {cs : Array Value} {t : TypeId}, w6.heap[g]? = some (.cells cs t (0, 0)) → g ≠ gd → (w6.setCell ⟨gd, i * 6 + 4, none⟩ (.int .i64 (wrap64 ((rd_T38 l0 (i : Int)).f4 + 1)))).heap[g]? = some (.cells cs t (0, 0)) :=
    fun h hne => blk_far (p := ⟨gd, i * 6 + 4, none⟩) h hne (.int .i64 (wrap64 ((rd_T38 l0 (i : Int)).f4 + 1)))
  have T7 := Aside0.mk (far T6.out (by have := HG.out; omega))
  have R7 := Aside0.mk (far R6.out (by have := HG.out; omega))
  have D7 := Aside0.mk (blk_set D6.out (i * 6 + 4) (.int .i64 (wrap64 ((rd_T38 l0 (i : Int)).f4 + 1))))
  simp only [List.setIfInBounds_toArray] at D7
  rw [cells38_refs l0 i _ hi] at D7
  have F7 := Aside0.mk (far F6.out (by have := HG.out; omega))
  have W7 := Aside0.mk (far W6.out (by have := HG.out; omega))
  have B7 := Aside0.mk (below_set (g := gd) B6.out (by have := HG.out; omega) (j := i * 6 + 4) (v := .int .i64 (wrap64 ((rd_T38 l0 (i : Int)).f4 + 1))))
  clear far hv4 T6 R6 D6 F6 W6 B6 y4 g0 ht0 ht1
  generalize w6.setCell ⟨gd, i * 6 + 4, none⟩ (.int .i64 (wrap64 ((rd_T38 l0 (i : Int)).f4 + 1))) = w7 at T7 R7 D7 F7 W7 B7 ⊢
  have ht1 := (blk_cell T7.out 1).trans (show _ = some (Value.slice (some ⟨gf, 0, none⟩) n1 n1) from rfl)
  have hf7 := (blk_cell F7.out k).trans (show (cf.set k (.slice (some ⟨gr, 0, none⟩) row.length row.length)).toArray[k]? = some (.slice (some ⟨gr, 0, none⟩) row.length row.length) by
    have := (List.getElem?_eq_some_iff.1 CK.out).1
    simp [this])
  have hr7 := (blk_cell W7.out fd).trans (show (row.map (Value.int .i64)).toArray[fd]? = some (.int .i64 row[fd]) by simp [hfd])
  have q7 := blk_frozen W7.out fd
  go_upto_region 14 with (fail)
  have far : ∀ {g : Nat} {cs : Array Value} {t : TypeId}, w7.heap[g]? = some (.cells cs t (0, 0)) → g ≠ gr → (w7.setCell ⟨gr, fd, none⟩ (.int .i64 (i : Int))).heap[g]? = some (.cells cs t (0, 0)) :=
    fun h hne => blk_far (p := ⟨gr, fd, none⟩) h hne (.int .i64 (i : Int))
  have T8 := Aside0.mk (far T7.out (by have := HG.out; omega))
  have R8 := Aside0.mk (far R7.out (by have := HG.out; omega))
  have D8 := Aside0.mk (far D7.out (by have := HG.out; omega))
  have F8 := Aside0.mk (far F7.out (by have := HG.out; omega))
  have W8 := Aside0.mk (blk_set W7.out fd (.int .i64 (i : Int)))
  simp only [List.setIfInBounds_toArray] at W8
  have B8 := Aside0.mk (below_set (g := gr) B7.out (by have := HG.out; omega) (j := fd) (v := .int .i64 (i : Int)))
  clear far T7 R7 D7 F7 W7 B7 ht1 hf7 hr7 q7
  generalize w7.setCell ⟨gr, fd, none⟩ (.int .i64 (i : Int)) = w8 at T8 R8 D8 F8 W8 B8 ⊢
  have ht0 := (blk_cell T8.out 0).trans (show _ = some (Value.slice (some ⟨gd, 0, none⟩) l0.length l0.length) from rfl)
  have ht1 := (blk_cell T8.out 1).trans (show _ = some (Value.slice (some ⟨gf, 0, none⟩) n1 n1) from rfl)
  have hr0 := (blk_cell R8.out 0).trans (show _ = some (Value.slice none 0 0) from rfl)
  have hr1 := (blk_cell R8.out 1).trans (show _ = some (Value.slice none 0 0) from rfl)
  have q0 := blk_frozen R8.out 0
  have q1 := blk_frozen R8.out 1
  go_wp2_with fail
  have B := blk_set (blk_set R8.out 0 (.slice (some ⟨gd, 0, none⟩) l0.length l0.length)) 1 (.slice (some ⟨gf, 0, none⟩) n1 n1)
  have r0 := (blk_cell B 0).trans (show _ = some (Value.slice (some ⟨gd, 0, none⟩) l0.length l0.length) from rfl)
  have r1 := (blk_cell B 1).trans (show _ = some (Value.slice (some ⟨gf, 0, none⟩) n1 n1) from rfl)
  have far : ∀ {g : Nat} {cs : Array Value} {t : TypeId}, w8.heap[g]? = some (.cells cs t (0, 0)) → g ≠ w.heap.size + 1 → ((w8.setCell ⟨w.heap.size + 1, 0, none⟩ (.slice (some ⟨gd, 0, none⟩) l0.length l0.length)).setCell ⟨w.heap.size + 1, 1, none⟩ (.slice (some ⟨gf, 0, none⟩) n1 n1)).heap[g]? = some (.cells cs t (0, 0)) :=
    fun h hne => blk_far (p := ⟨w.heap.size + 1, 1, none⟩) (blk_far (p := ⟨w.heap.size + 1, 0, none⟩) h hne (.slice (some ⟨gd, 0, none⟩) l0.length l0.length)) hne (.slice (some ⟨gf, 0, none⟩) n1 n1)
  refine bodyPost_ret (v := .tuple #[.agg #[.slice (some ⟨gd, 0, none⟩) l0.length l0.length, .slice (some ⟨gf, 0, none⟩) n1 n1], .int .i64 fd, .int .i64 0]) (by simp [results, Try.results37, go_sem, r0, r1]) rfl ⟨gd, gf, rfl, by have := HG.out; omega, by have := HG.out; omega, gr, by have := HG.out; omega, far D8.out (by have := HG.out; omega), far F8.out (by have := HG.out; omega), far W8.out (by have := HG.out; omega), ?_⟩
  exact below_set (below_set B8.out (by omega)) (by omega)
end Go.Proofs.Ytkecfdljodiifaa.P
