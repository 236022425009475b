/- The contracts of Close, by hand: a descriptor is shut; the table is short enough for memory. -/
import Derived.Test.YtkecfdljodiifaaHn
namespace Go.Proofs.Ytkecfdljodiifaa.P
open Go.RowKit Go.Proofs.YtkecfdljodiifaaW.PrintWords Go.Proofs.YtkecfdljodiifaaW.PrintLast Go.Proofs.YtkecfdljodiifaaW.PrintMore

set_option maxHeartbeats 1000000 in
set_option maxRecDepth 100000 in
theorem Close_bad (A0 : Option Addr) (c0 : Nat) (l0 : List S38) (A1 : Option Addr) (c1 : Nat) (l1 : List (List Int)) (p d r1 r2 r3 : Int) (r4 r5 : Bool) (r6 r7 : Int) (w : World) (hr0 : Kd.C k38 w A0 l0.length l0) (hc0 : l0.length ≤ c0) (hr1 : Kd.C (Kd.slice 3 (Kd.int .i64)) w A1 l1.length l1) (hc1 : l1.length ≤ c1) (hg : handle_Get.f l0 l1 p d = some (r1, r2, r3, r4, r5, r6, r7, false)) :
    Calls Try.prog 21 #[.agg #[.slice A0 l0.length c0, .slice A1 l1.length c1], .int .i64 p, .int .i64 d] w fun e w' =>
      e = .returned (.tuple #[.agg #[.slice A0 l0.length c0, .slice A1 l1.length c1], .agg #[.int .i64 0, .int .i64 0, .bool false, .bool false, .int .i64 0, .int .i64 0], .int .i64 12]) ∧ Below w.heap.size w w' := by
  have hu25 := Try.underlying25
  have hu38 := Try.underlying38
  have HR0 := Aside0.mk hr0
  have HR1 := Aside0.mk hr1
  have HC0 := Aside0.mk hc0
  have HC1 := Aside0.mk hc1
  have HG := Aside0.mk hg
  have W3 : ∃ w3, w3 = ((w.alloc (.cells #[.slice A0 l0.length c0, .slice A1 l1.length c1] 25)).alloc (.cells #[.slice none 0 0, .slice none 0 0] 25)).alloc (.cells #[.int .i64 0, .int .i64 0, .bool false, .bool false, .int .i64 0, .int .i64 0] 38) := ⟨_, rfl⟩
  clear hr0 hr1 hc0 hc1 hg
  go_enter Try.func21, Try.ntmps21
  go_upto_region 1 with (fail)
  obtain ⟨w3, E3⟩ := W3
  have hB := Aside0.mk (show Below w.heap.size w w3 by rw [E3]; exact below_alloc (below_alloc (below_alloc (Below.refl _ _) _) _) _)
  have hT := Aside0.mk (show w3.heap[w.heap.size]? = some (.cells #[.slice A0 l0.length c0, .slice A1 l1.length c1] 25 (0, 0)) by rw [E3]; exact blk_alloc (blk_alloc (blk_new w _) _) _)
  have hR := Aside0.mk (show w3.heap[w.heap.size + 1]? = some (.cells #[.slice none 0 0, .slice none 0 0] 25 (0, 0)) by rw [E3]; exact blk_alloc (by simpa using blk_new (w.alloc (.cells #[.slice A0 l0.length c0, .slice A1 l1.length c1] 25)) (.cells #[.slice none 0 0, .slice none 0 0] 25)) _)
  have hZ := Aside0.mk (show w3.heap[w.heap.size + 1 + 1]? = some (.cells #[.int .i64 0, .int .i64 0, .bool false, .bool false, .int .i64 0, .int .i64 0] 38 (0, 0)) by rw [E3]; simpa using blk_new ((w.alloc (.cells #[.slice A0 l0.length c0, .slice A1 l1.length c1] 25)).alloc (.cells #[.slice none 0 0, .slice none 0 0] 25)) (.cells #[.int .i64 0, .int .i64 0, .bool false, .bool false, .int .i64 0, .int .i64 0] 38))
  rw [← E3]
  clear E3
  have ht0 := (blk_cell hT.out 0).trans (show _ = some (Value.slice A0 l0.length c0) from rfl)
  have ht1 := (blk_cell hT.out 1).trans (show _ = some (Value.slice A1 l1.length c1) from rfl)
  go_upto_region 2 with (first | (go_at_call 20; refine (handle_Get.calls A0 c0 l0 A1 c1 l1 p d r1 r2 r3 r4 r5 r6 r7 false _ (Kd.C_below HR0.out hB.out) HC0.out (Kd.C_below HR1.out hB.out) HC1.out HG.out).mono ?_; rintro e w4 ⟨rfl, hb4⟩))
  have T4 := Aside0.mk (blk_below hT.out hb4)
  have R4 := Aside0.mk (blk_below hR.out hb4)
  have Z4 := Aside0.mk (blk_below hZ.out hb4)
  have B4 := Aside0.mk (below_step hB.out hb4)
  clear hb4 hT hR hZ hB ht0 ht1
  have T5 := Aside0.mk (blk_alloc T4.out (.cells #[.int .i64 r2, .int .i64 r3, .bool r4, .bool r5, .int .i64 r6, .int .i64 r7] 38))
  have R5 := Aside0.mk (blk_alloc R4.out (.cells #[.int .i64 r2, .int .i64 r3, .bool r4, .bool r5, .int .i64 r6, .int .i64 r7] 38))
  have Z5 := Aside0.mk (blk_alloc Z4.out (.cells #[.int .i64 r2, .int .i64 r3, .bool r4, .bool r5, .int .i64 r6, .int .i64 r7] 38))
  have X5 := Aside0.mk (blk_new w4 (.cells #[.int .i64 r2, .int .i64 r3, .bool r4, .bool r5, .int .i64 r6, .int .i64 r7] 38))
  have B5 := Aside0.mk (below_alloc B4.out (.cells #[.int .i64 r2, .int .i64 r3, .bool r4, .bool r5, .int .i64 r6, .int .i64 r7] 38))
  have GX := Aside0.mk (show w.heap.size + 2 < w4.heap.size from blk_lt Z4.out)
  clear T4 R4 Z4 B4
  generalize w4.alloc (.cells #[.int .i64 r2, .int .i64 r3, .bool r4, .bool r5, .int .i64 r6, .int .i64 r7] 38) = w5 at T5 R5 Z5 X5 B5 ⊢
  generalize w4.heap.size = gx at X5 GX ⊢
  have ht0 := (blk_cell T5.out 0).trans (show _ = some (Value.slice A0 l0.length c0) from rfl)
  have ht1 := (blk_cell T5.out 1).trans (show _ = some (Value.slice A1 l1.length c1) from rfl)
  have q := fun j => blk_frozen R5.out j
  have qz := fun j => blk_frozen Z5.out j
  have z0 := (blk_cell R5.out 0).trans (show _ = some (Value.slice none 0 0) from rfl)
  have z1 := (blk_cell R5.out 1).trans (show _ = some (Value.slice none 0 0) from rfl)
  have y0 := (blk_cell Z5.out 0).trans (show _ = some (Value.int .i64 0) from rfl)
  have y1 := (blk_cell Z5.out 1).trans (show _ = some (Value.int .i64 0) from rfl)
  have y2 := (blk_cell Z5.out 2).trans (show _ = some (Value.bool false) from rfl)
  have y3 := (blk_cell Z5.out 3).trans (show _ = some (Value.bool false) from rfl)
  have y4 := (blk_cell Z5.out 4).trans (show _ = some (Value.int .i64 0) from rfl)
  have y5 := (blk_cell Z5.out 5).trans (show _ = some (Value.int .i64 0) from rfl)
  go_wp2_with fail
  have hB := (blk_set (blk_set R5.out 0 (.slice A0 l0.length c0)) 1 (.slice A1 l1.length c1))
  have B := (blk_far (p := ⟨w.heap.size + 1 + 1, 5, none⟩) (blk_far (p := ⟨w.heap.size + 1 + 1, 4, none⟩) (blk_far (p := ⟨w.heap.size + 1 + 1, 3, none⟩) (blk_far (p := ⟨w.heap.size + 1 + 1, 2, none⟩) (blk_far (p := ⟨w.heap.size + 1 + 1, 1, none⟩) (blk_far (p := ⟨w.heap.size + 1 + 1, 0, none⟩) hB (by dsimp only; omega) (.int .i64 0)) (by dsimp only; omega) (.int .i64 0)) (by dsimp only; omega) (.bool false)) (by dsimp only; omega) (.bool false)) (by dsimp only; omega) (.int .i64 0)) (by dsimp only; omega) (.int .i64 0))
  have C := (blk_set (blk_set (blk_set (blk_set (blk_set (blk_set (blk_far (p := ⟨w.heap.size + 1, 1, none⟩) (blk_far (p := ⟨w.heap.size + 1, 0, none⟩) Z5.out (by dsimp only; omega) (.slice A0 l0.length c0)) (by dsimp only; omega) (.slice A1 l1.length c1)) (0) (.int .i64 0)) (1) (.int .i64 0)) (2) (.bool false)) (3) (.bool false)) (4) (.int .i64 0)) (5) (.int .i64 0))
  have r0_ := (blk_cell B 0).trans (show _ = some (Value.slice A0 l0.length c0) from rfl)
  have r1_ := (blk_cell B 1).trans (show _ = some (Value.slice A1 l1.length c1) from rfl)
  have s0_ := (blk_cell C 0).trans (show _ = some (Value.int .i64 0) from rfl)
  have s1_ := (blk_cell C 1).trans (show _ = some (Value.int .i64 0) from rfl)
  have s2_ := (blk_cell C 2).trans (show _ = some (Value.bool false) from rfl)
  have s3_ := (blk_cell C 3).trans (show _ = some (Value.bool false) from rfl)
  have s4_ := (blk_cell C 4).trans (show _ = some (Value.int .i64 0) from rfl)
  have s5_ := (blk_cell C 5).trans (show _ = some (Value.int .i64 0) from rfl)
  refine bodyPost_ret (v := .tuple #[.agg #[.slice A0 l0.length c0, .slice A1 l1.length c1], .agg #[.int .i64 0, .int .i64 0, .bool false, .bool false, .int .i64 0, .int .i64 0], .int .i64 12]) (by simp [results, Try.results21, go_sem, r0_, r1_, s0_, s1_, s2_, s3_, s4_, s5_]) rfl ?_
  exact ⟨rfl, (below_set (g := w.heap.size + 1 + 1) (below_set (g := w.heap.size + 1 + 1) (below_set (g := w.heap.size + 1 + 1) (below_set (g := w.heap.size + 1 + 1) (below_set (g := w.heap.size + 1 + 1) (below_set (g := w.heap.size + 1 + 1) (below_set (below_set B5.out (by omega)) (by omega)) (by omega) (j := 0) (v := .int .i64 0)) (by omega) (j := 1) (v := .int .i64 0)) (by omega) (j := 2) (v := .bool false)) (by omega) (j := 3) (v := .bool false)) (by omega) (j := 4) (v := .int .i64 0)) (by omega) (j := 5) (v := .int .i64 0))⟩

/-- what is left of a description when a descriptor that refers to it is shut -/
def left38 (x : S38) : S38 := if wrap64 (x.f4 - 1) = 0 then ⟨0, 0, false, false, 0, 0⟩ else { x with f4 := wrap64 (x.f4 - 1) }
/-- what Close hands back where there is such a descriptor -/
def Shut (A : Nat) (l0 : List S38) (i d k n1 : Nat) (x : S38) (cf : List Value) (row : List Int) (e : Ending) (w' : World) : Prop :=
  ∃ gd gf gr : Nat,
      e = .returned (.tuple #[.agg #[.slice (some ⟨gd, 0, none⟩) l0.length l0.length, .slice (some ⟨gf, 0, none⟩) n1 n1], .agg #[.int .i64 x.f0, .int .i64 x.f1, .bool x.f2, .bool x.f3, .int .i64 (wrap64 (x.f4 - 1)), .int .i64 x.f5], .int .i64 0]) ∧ A ≤ gd ∧ A ≤ gf ∧ A ≤ gr ∧
      w'.heap[gd]? = some (.cells (cells38 (l0.set i (left38 x))).toArray 38 (0, 0)) ∧ w'.heap[gf]? = some (.cells (cf.set k (.slice (some ⟨gr, 0, none⟩) row.length row.length)).toArray 64 (0, 0)) ∧
      w'.heap[gr]? = some (.cells ((row.set d (-1)).map (Value.int .i64)).toArray 3 (0, 0))
set_option maxHeartbeats 4000000 in
set_option maxRecDepth 100000 in
theorem Close_ok (ad1 ar : Addr) (k cr : Nat) (cf : List Value) (row : List Int) (d i : Nat) (A0 : Option Addr) (c0 : Nat) (l0 : List S38) (c1 : Nat) (l1 : List (List Int)) (r2 r3 : Int) (r4 r5 : Bool) (r6 r7 : Int) (w : World) (hr0 : Kd.C k38 w A0 l0.length l0) (hc0 : l0.length ≤ c0) (hr1 : Kd.C (Kd.slice 3 (Kd.int .i64)) w (some ad1) l1.length l1) (hc1 : l1.length ≤ c1)
    (hg : handle_Get.f l0 l1 (k : Int) (d : Int) = some ((i : Int), r2, r3, r4, r5, r6, r7, true)) (hk : k < l1.length) (hi : i < l0.length) (hfd : d < row.length)
    (hb0 : l0.length ≤ 1000) (hb1 : l1.length ≤ 1000) (hbr : row.length ≤ 1000) (hf : cf.length = l1.length * 1) (sf : ∀ j u, cf[j]? = some u → w.cell? (ad1.add j) = some u) (of : ∀ u ∈ cf, u.oneCell' = true)
    (hck : cf[k]? = some (.slice (some ar) row.length cr)) (hc : row.length ≤ cr) (hrow : Kd.C (Kd.int .i64) w (some ar) row.length row) :
    Calls Try.prog 21 #[.agg #[.slice A0 l0.length c0, .slice (some ad1) l1.length c1], .int .i64 k, .int .i64 d] w fun e w' => Shut w.heap.size l0 i d k l1.length ⟨r2, r3, r4, r5, r6, r7⟩ cf row e w' ∧ Below w.heap.size w w' := by
  obtain ⟨cd, dl, dr, d1, ds⟩ := C_cells k38 hr0
  obtain rfl := reps_cells38 dr
  obtain ⟨cw, wl, wr, w1, ws⟩ := C_cells (Kd.int .i64) hrow
  obtain rfl := reps_ints wr
  have DS := Aside0.mk ds
  have WS := Aside0.mk ws
  have WL := Aside0.mk wl
  have W1 := Aside0.mk w1
  clear dl dr d1 ds wl wr w1 ws
  have hu25 := Try.underlying25
  have hu38 := Try.underlying38
  have HR0 := Aside0.mk hr0
  have HR1 := Aside0.mk hr1
  have HC0 := Aside0.mk hc0
  have HC1 := Aside0.mk hc1
  have HG := Aside0.mk hg
  have HF := Aside0.mk hf
  have SF := Aside0.mk sf
  have OF := Aside0.mk of
  have CK := Aside0.mk hck
  have HB0 := Aside0.mk hb0
  clear hrow hf sf of hck hb0
  have W3 : ∃ w3, w3 = ((w.alloc (.cells #[.slice A0 l0.length c0, .slice (some ad1) l1.length c1] 25)).alloc (.cells #[.slice none 0 0, .slice none 0 0] 25)).alloc (.cells #[.int .i64 0, .int .i64 0, .bool false, .bool false, .int .i64 0, .int .i64 0] 38) := ⟨_, rfl⟩
  clear hr0 hr1 hc0 hc1 hg
  go_enter Try.func21, Try.ntmps21
  go_upto_region 1 with (fail)
  obtain ⟨w3, E3⟩ := W3
  have hB := Aside0.mk (show Below w.heap.size w w3 by rw [E3]; exact below_alloc (below_alloc (below_alloc (Below.refl _ _) _) _) _)
  have hT := Aside0.mk (show w3.heap[w.heap.size]? = some (.cells #[.slice A0 l0.length c0, .slice (some ad1) l1.length c1] 25 (0, 0)) by rw [E3]; exact blk_alloc (blk_alloc (blk_new w _) _) _)
  have hR := Aside0.mk (show w3.heap[w.heap.size + 1]? = some (.cells #[.slice none 0 0, .slice none 0 0] 25 (0, 0)) by rw [E3]; exact blk_alloc (by simpa using blk_new (w.alloc (.cells #[.slice A0 l0.length c0, .slice (some ad1) l1.length c1] 25)) (.cells #[.slice none 0 0, .slice none 0 0] 25)) _)
  have hZ := Aside0.mk (show w3.heap[w.heap.size + 1 + 1]? = some (.cells #[.int .i64 0, .int .i64 0, .bool false, .bool false, .int .i64 0, .int .i64 0] 38 (0, 0)) by rw [E3]; simpa using blk_new ((w.alloc (.cells #[.slice A0 l0.length c0, .slice (some ad1) l1.length c1] 25)).alloc (.cells #[.slice none 0 0, .slice none 0 0] 25)) (.cells #[.int .i64 0, .int .i64 0, .bool false, .bool false, .int .i64 0, .int .i64 0] 38))
  rw [← E3]
  clear E3
  have ht0 := (blk_cell hT.out 0).trans (show _ = some (Value.slice A0 l0.length c0) from rfl)
  have ht1 := (blk_cell hT.out 1).trans (show _ = some (Value.slice (some ad1) l1.length c1) from rfl)
  go_upto_region 2 with (first | (go_at_call 20; refine (handle_Get.calls A0 c0 l0 (some ad1) c1 l1 k d i r2 r3 r4 r5 r6 r7 true _ (Kd.C_below HR0.out hB.out) HC0.out (Kd.C_below HR1.out hB.out) HC1.out HG.out).mono ?_; rintro e w4 ⟨rfl, hb4⟩))
  have T4 := Aside0.mk (blk_below hT.out hb4)
  have R4 := Aside0.mk (blk_below hR.out hb4)
  have Z4 := Aside0.mk (blk_below hZ.out hb4)
  have B4 := Aside0.mk (below_step hB.out hb4)
  clear hb4 hT hR hZ hB ht0 ht1
  have T5 := Aside0.mk (blk_alloc T4.out (.cells #[.int .i64 r2, .int .i64 r3, .bool r4, .bool r5, .int .i64 r6, .int .i64 r7] 38))
  have R5 := Aside0.mk (blk_alloc R4.out (.cells #[.int .i64 r2, .int .i64 r3, .bool r4, .bool r5, .int .i64 r6, .int .i64 r7] 38))
  have Z5 := Aside0.mk (blk_alloc Z4.out (.cells #[.int .i64 r2, .int .i64 r3, .bool r4, .bool r5, .int .i64 r6, .int .i64 r7] 38))
  have X5 := Aside0.mk (blk_new w4 (.cells #[.int .i64 r2, .int .i64 r3, .bool r4, .bool r5, .int .i64 r6, .int .i64 r7] 38))
  have B5 := Aside0.mk (below_alloc B4.out (.cells #[.int .i64 r2, .int .i64 r3, .bool r4, .bool r5, .int .i64 r6, .int .i64 r7] 38))
  have GX := Aside0.mk (show w.heap.size + 2 < w4.heap.size from blk_lt Z4.out)
  clear T4 R4 Z4 B4
  generalize w4.alloc (.cells #[.int .i64 r2, .int .i64 r3, .bool r4, .bool r5, .int .i64 r6, .int .i64 r7] 38) = w5 at T5 R5 Z5 X5 B5 ⊢
  generalize w4.heap.size = gx at X5 GX ⊢
  have ht0 := (blk_cell T5.out 0).trans (show _ = some (Value.slice A0 l0.length c0) from rfl)
  have ht1 := (blk_cell T5.out 1).trans (show _ = some (Value.slice (some ad1) l1.length c1) from rfl)
  obtain ⟨arw, earw, hws⟩ := WS.out (by omega)
  cases earw
  have SR5 := Aside0.mk (fun (j : Nat) (u : Value) (hj : (row.map (Value.int .i64))[j]? = some u) => pw_cell_below B5.out (hws j u hj))
  have SF5 := Aside0.mk (fun (_ : 0 < l1.length) => (⟨ad1, rfl, fun (j : Nat) (u : Value) (hj : cf[j]? = some u) => pw_cell_below B5.out (SF.out j u hj)⟩ : ∃ ad, some ad1 = some ad ∧ ∀ j u, cf[j]? = some u → w5.cell? (ad.add j) = some u))
  have SD5 := Aside0.mk (show 0 < l0.length → ∃ ad, A0 = some ad ∧ ∀ j u, (cells38 l0)[j]? = some u → w5.cell? (ad.add j) = some u from fun hp => by
    obtain ⟨a, ea, hs⟩ := DS.out hp
    exact ⟨a, ea, fun j u hj => pw_cell_below B5.out (hs j u hj)⟩)
  have S5 := Aside0.mk (show w.heap.size + 2 < w5.heap.size ∧ gx < w5.heap.size from ⟨Nat.lt_trans GX.out (blk_lt X5.out), blk_lt X5.out⟩)
  clear hws
  go_upto_region 5 with (first
    | (go_at_call 38; refine (own_at k ar row.length cr (row.map (Value.int .i64)) A0 c0 l0.length (some ad1) c1 l1.length (cells38 l0) cf _ hk (by omega) CK.out WL.out SR5.out W1.out (by have := HB0.out; omega) (by omega) (cells38_length l0) HF.out SD5.out SF5.out (cells38_one l0) OF.out).mono ?_; rintro e w6 ⟨gd, gf, gr, rfl, hgd, hgf, hgr, hdf, hdr, hfr, hcd, hcf, hcr, hb6⟩;
        have T6 := Aside0.mk (blk_below T5.out hb6); have R6 := Aside0.mk (blk_below R5.out hb6); have Z6 := Aside0.mk (blk_below Z5.out hb6); have X6 := Aside0.mk (blk_below X5.out hb6); have B6 := Aside0.mk (below_step B5.out hb6);
        have q0 := blk_frozen T6.out 0; have q1 := blk_frozen T6.out 1; have y0 := (blk_cell T6.out 0).trans (show _ = some (Value.slice A0 l0.length c0) from rfl); have y1 := (blk_cell T6.out 1).trans (show _ = some (Value.slice (some ad1) l1.length c1) from rfl)))
  have HG6 := Aside0.mk (show w.heap.size + 2 < gd ∧ w.heap.size + 2 < gf ∧ w.heap.size + 2 < gr ∧ gd ≠ gf ∧ gd ≠ gr ∧ gf ≠ gr ∧ gx ≠ gd ∧ gx ≠ gf ∧ gx ≠ gr from by have := S5.out; exact ⟨by omega, by omega, by omega, hdf, hdr, hfr, by omega, by omega, by omega⟩)
  have far : ∀ {g : Nat} {cs : Array Value} {t : TypeId}, w6.heap[g]? = some (.cells cs t (0, 0)) → g ≠ w.heap.size → ((w6.setCell ⟨w.heap.size, 0, none⟩ (.slice (some ⟨gd, 0, none⟩) l0.length l0.length)).setCell ⟨w.heap.size, 1, none⟩ (.slice (some ⟨gf, 0, none⟩) l1.length l1.length)).heap[g]? = some (.cells cs t (0, 0)) :=
    fun h hne => blk_far (p := ⟨w.heap.size, 1, none⟩) (blk_far (p := ⟨w.heap.size, 0, none⟩) h hne (.slice (some ⟨gd, 0, none⟩) l0.length l0.length)) hne (.slice (some ⟨gf, 0, none⟩) l1.length l1.length)
  have T7 := Aside0.mk (blk_put (blk_put T6.out 0 (.slice (some ⟨gd, 0, none⟩) l0.length l0.length) rfl) 1 (.slice (some ⟨gf, 0, none⟩) l1.length l1.length) rfl)
  have R7 := Aside0.mk (far R6.out (by omega))
  have Z7 := Aside0.mk (far Z6.out (by omega))
  have X7 := Aside0.mk (far X6.out (by have := GX.out; omega))
  have D7 := Aside0.mk (far hcd (by have := HG6.out; omega))
  have F7 := Aside0.mk (far hcf (by have := HG6.out; omega))
  have W7 := Aside0.mk (far hcr (by have := HG6.out; omega))
  have B7 := Aside0.mk (below_set (below_set B6.out (Nat.le_refl _) (j := 0) (v := .slice (some ⟨gd, 0, none⟩) l0.length l0.length)) (Nat.le_refl _) (j := 1) (v := .slice (some ⟨gf, 0, none⟩) l1.length l1.length))
  clear far T5 R5 Z5 X5 B5 T6 R6 Z6 X6 B6 hcd hcf hcr hb6 hgd hgf hgr hdf hdr hfr q0 q1 y0 y1 SR5 SF5 SD5 S5 ht0 ht1
  generalize ((w6.setCell ⟨w.heap.size, 0, none⟩ (.slice (some ⟨gd, 0, none⟩) l0.length l0.length)).setCell ⟨w.heap.size, 1, none⟩ (.slice (some ⟨gf, 0, none⟩) l1.length l1.length)) = w7 at T7 R7 Z7 X7 D7 F7 W7 B7 ⊢
  have ht0 := (blk_cell T7.out 0).trans (show _ = some (Value.slice (some ⟨gd, 0, none⟩) l0.length l0.length) from rfl)
  have ht1 := (blk_cell T7.out 1).trans (show _ = some (Value.slice (some ⟨gf, 0, none⟩) l1.length l1.length) from rfl)
  have hf7 := (blk_cell F7.out k).trans (show (cf.set k (.slice (some ⟨gr, 0, none⟩) row.length row.length)).toArray[k]? = some (.slice (some ⟨gr, 0, none⟩) row.length row.length) by
    have := (List.getElem?_eq_some_iff.1 CK.out).1
    simp [this])
  have hr7 := (blk_cell W7.out d).trans (show (row.map (Value.int .i64)).toArray[d]? = some (.int .i64 row[d]) by simp [hfd])
  have q7 := blk_frozen W7.out d
  have x4 := (blk_cell X7.out 4).trans (show _ = some (Value.int .i64 r6) from rfl)
  go_upto_region 6 with (fail)
  have far : ∀ {g : Nat} {cs : Array Value} {t : TypeId}, w7.heap[g]? = some (.cells cs t (0, 0)) → g ≠ gr → (w7.setCell ⟨gr, d, none⟩ (.int .i64 (-1))).heap[g]? = some (.cells cs t (0, 0)) :=
    fun h hne => blk_far (p := ⟨gr, d, none⟩) h hne (.int .i64 (-1))
  have T8 := Aside0.mk (far T7.out (by have := HG6.out; omega))
  have R8 := Aside0.mk (far R7.out (by have := HG6.out; omega))
  have Z8 := Aside0.mk (far Z7.out (by have := HG6.out; omega))
  have X8 := Aside0.mk (far X7.out (by have := HG6.out; omega))
  have D8 := Aside0.mk (far D7.out (by have := HG6.out; omega))
  have F8 := Aside0.mk (far F7.out (by have := HG6.out; omega))
  have W8 := Aside0.mk (blk_set W7.out d (.int .i64 (-1)))
  simp only [List.setIfInBounds_toArray] at W8
  have B8 := Aside0.mk (below_set (g := gr) B7.out (by have := HG6.out; omega) (j := d) (v := .int .i64 (-1)))
  clear far T7 R7 Z7 X7 D7 F7 W7 B7 ht0 ht1 hf7 hr7 q7 x4
  generalize w7.setCell ⟨gr, d, none⟩ (.int .i64 (-1)) = w8 at T8 R8 Z8 X8 D8 F8 W8 B8 ⊢
  have x4 := (blk_cell X8.out 4).trans (show _ = some (Value.int .i64 r6) from rfl)
  have qx := blk_frozen X8.out 4
  go_upto_region 7 with (fail)
  have far : ∀ {g : Nat} {cs : Array Value} {t : TypeId}, w8.heap[g]? = some (.cells cs t (0, 0)) → g ≠ gx → (w8.setCell ⟨gx, 4, none⟩ (.int .i64 (wrap64 (r6 - 1)))).heap[g]? = some (.cells cs t (0, 0)) :=
    fun h hne => blk_far (p := ⟨gx, 4, none⟩) h hne (.int .i64 (wrap64 (r6 - 1)))
  have T9 := Aside0.mk (far T8.out (by have := GX.out; omega))
  have R9 := Aside0.mk (far R8.out (by have := GX.out; omega))
  have Z9 := Aside0.mk (far Z8.out (by have := GX.out; omega))
  have X9 := Aside0.mk (blk_put X8.out 4 (.int .i64 (wrap64 (r6 - 1))) rfl)
  have D9 := Aside0.mk (far D8.out (by have := HG6.out; omega))
  have F9 := Aside0.mk (far F8.out (by have := HG6.out; omega))
  have W9 := Aside0.mk (far W8.out (by have := HG6.out; omega))
  have B9 := Aside0.mk (below_set (g := gx) B8.out (by have := GX.out; omega) (j := 4) (v := .int .i64 (wrap64 (r6 - 1))))
  clear far T8 R8 Z8 X8 D8 F8 W8 B8 x4 qx
  generalize w8.setCell ⟨gx, 4, none⟩ (.int .i64 (wrap64 (r6 - 1))) = w9 at T9 R9 Z9 X9 D9 F9 W9 B9 ⊢
  have ht0 := (blk_cell T9.out 0).trans (show _ = some (Value.slice (some ⟨gd, 0, none⟩) l0.length l0.length) from rfl)
  have m0 := (blk_cell X9.out 0).trans (show _ = some (Value.int .i64 r2) from rfl)
  have m1 := (blk_cell X9.out 1).trans (show _ = some (Value.int .i64 r3) from rfl)
  have m2 := (blk_cell X9.out 2).trans (show _ = some (Value.bool r4) from rfl)
  have m3 := (blk_cell X9.out 3).trans (show _ = some (Value.bool r5) from rfl)
  have m4 := (blk_cell X9.out 4).trans (show _ = some (Value.int .i64 (wrap64 (r6 - 1))) from rfl)
  have m5 := (blk_cell X9.out 5).trans (show _ = some (Value.int .i64 r7) from rfl)
  have hmax : l0.length ≤ 9223372036854775807 := Nat.le_trans HB0.out (by decide)
  obtain ⟨ad2, ea, y0, y1, y2, y3, y4, y5⟩ := at_T38 (C_of_block k38 (cells38_reps w9 l0) hmax D9.out) (i : Int) (by omega) (by omega)
  cases ea
  simp only [Int.toNat_natCast, addr_plain] at y0 y1 y2 y3 y4 y5
  have HM := Aside0.mk hmax
  clear hmax
  have g0 := fun j => blk_frozen D9.out j
  go_upto_region 8 with (fail)
  have far : ∀ {g : Nat} {cs : Array Value} {t : TypeId}, w9.heap[g]? = some (.cells cs t (0, 0)) → g ≠ gd → ((((((w9.setCell ⟨gd, i * 6, none⟩ (.int .i64 r2)).setCell ⟨gd, i * 6 + 1, none⟩ (.int .i64 r3)).setCell ⟨gd, i * 6 + 2, none⟩ (.bool r4)).setCell ⟨gd, i * 6 + 3, none⟩ (.bool r5)).setCell ⟨gd, i * 6 + 4, none⟩ (.int .i64 (wrap64 (r6 - 1)))).setCell ⟨gd, i * 6 + 5, none⟩ (.int .i64 r7)).heap[g]? = some (.cells cs t (0, 0)) :=
    fun h hne => (blk_far (p := ⟨gd, i * 6 + 5, none⟩) (blk_far (p := ⟨gd, i * 6 + 4, none⟩) (blk_far (p := ⟨gd, i * 6 + 3, none⟩) (blk_far (p := ⟨gd, i * 6 + 2, none⟩) (blk_far (p := ⟨gd, i * 6 + 1, none⟩) (blk_far (p := ⟨gd, i * 6, none⟩) h hne (.int .i64 r2)) hne (.int .i64 r3)) hne (.bool r4)) hne (.bool r5)) hne (.int .i64 (wrap64 (r6 - 1)))) hne (.int .i64 r7))
  have TA := Aside0.mk (far T9.out (by have := HG6.out; omega))
  have RA := Aside0.mk (far R9.out (by have := HG6.out; omega))
  have ZA := Aside0.mk (far Z9.out (by have := HG6.out; omega))
  have XA := Aside0.mk (far X9.out (by have := HG6.out; omega))
  have FA := Aside0.mk (far F9.out (by have := HG6.out; omega))
  have WA := Aside0.mk (far W9.out (by have := HG6.out; omega))
  have DA := Aside0.mk (blk_set (blk_set (blk_set (blk_set (blk_set (blk_set D9.out (i * 6) (.int .i64 r2)) (i * 6 + 1) (.int .i64 r3)) (i * 6 + 2) (.bool r4)) (i * 6 + 3) (.bool r5)) (i * 6 + 4) (.int .i64 (wrap64 (r6 - 1)))) (i * 6 + 5) (.int .i64 r7))
  have BA := Aside0.mk (below_set (g := gd) (below_set (g := gd) (below_set (g := gd) (below_set (g := gd) (below_set (g := gd) (below_set (g := gd) B9.out (by have := HG6.out; omega) (j := i * 6) (v := .int .i64 r2)) (by have := HG6.out; omega) (j := i * 6 + 1) (v := .int .i64 r3)) (by have := HG6.out; omega) (j := i * 6 + 2) (v := .bool r4)) (by have := HG6.out; omega) (j := i * 6 + 3) (v := .bool r5)) (by have := HG6.out; omega) (j := i * 6 + 4) (v := .int .i64 (wrap64 (r6 - 1)))) (by have := HG6.out; omega) (j := i * 6 + 5) (v := .int .i64 r7))
  simp only [List.setIfInBounds_toArray] at DA
  rw [cells38_set l0 i ⟨r2, r3, r4, r5, wrap64 (r6 - 1), r7⟩] at DA
  clear far T9 R9 Z9 X9 D9 F9 W9 B9 ht0 m0 m1 m2 m3 m4 m5 y0 y1 y2 y3 y4 y5 g0
  generalize ((((((w9.setCell ⟨gd, i * 6, none⟩ (.int .i64 r2)).setCell ⟨gd, i * 6 + 1, none⟩ (.int .i64 r3)).setCell ⟨gd, i * 6 + 2, none⟩ (.bool r4)).setCell ⟨gd, i * 6 + 3, none⟩ (.bool r5)).setCell ⟨gd, i * 6 + 4, none⟩ (.int .i64 (wrap64 (r6 - 1)))).setCell ⟨gd, i * 6 + 5, none⟩ (.int .i64 r7)) = wa at TA RA ZA XA FA WA DA BA ⊢
  have x4 := (blk_cell XA.out 4).trans (show _ = some (Value.int .i64 (wrap64 (r6 - 1))) from rfl)
  go_upto_if 45 with (fail)
  clear x4
  go_cut [] (fun wc => Aside0 (
    wc.heap[w.heap.size]? = some (.cells #[.slice (some ⟨gd, 0, none⟩) l0.length l0.length, .slice (some ⟨gf, 0, none⟩) l1.length l1.length] 25 (0, 0)) ∧ wc.heap[w.heap.size + 1]? = some (.cells #[.slice none 0 0, .slice none 0 0] 25 (0, 0)) ∧
    wc.heap[w.heap.size + 1 + 1]? = some (.cells #[.int .i64 0, .int .i64 0, .bool false, .bool false, .int .i64 0, .int .i64 0] 38 (0, 0)) ∧ wc.heap[gx]? = some (.cells #[.int .i64 r2, .int .i64 r3, .bool r4, .bool r5, .int .i64 (wrap64 (r6 - 1)), .int .i64 r7] 38 (0, 0)) ∧
    wc.heap[gd]? = some (.cells (cells38 (l0.set i (left38 ⟨r2, r3, r4, r5, r6, r7⟩))).toArray 38 (0, 0)) ∧ wc.heap[gf]? = some (.cells (cf.set k (.slice (some ⟨gr, 0, none⟩) row.length row.length)).toArray 64 (0, 0)) ∧
    wc.heap[gr]? = some (.cells ((row.map (Value.int .i64)).set d (.int .i64 (-1))).toArray 3 (0, 0)) ∧ Below w.heap.size w wc))
  case first =>
    by_cases hz : wrap64 (r6 - 1) = 0
    · have t5 : (wrap64 (r6 - 1) == 0) = true := beq_iff_eq.2 hz
      have HZ := Aside0.mk hz
      clear hz
      have ht0 := (blk_cell TA.out 0).trans (show _ = some (Value.slice (some ⟨gd, 0, none⟩) l0.length l0.length) from rfl)
      have hl : (l0.set i ⟨r2, r3, r4, r5, wrap64 (r6 - 1), r7⟩).length = l0.length := by simp
      have hCA := C_of_block k38 (cells38_reps wa (l0.set i ⟨r2, r3, r4, r5, wrap64 (r6 - 1), r7⟩)) (by rw [hl]; exact HM.out) DA.out
      obtain ⟨ad2, ea, y0, y1, y2, y3, y4, y5⟩ := at_T38 hCA (i : Int) (by omega) (by rw [hl]; omega)
      cases ea
      simp only [Int.toNat_natCast, addr_plain] at y0 y1 y2 y3 y4 y5
      clear hCA hl
      have g0 := fun j => blk_frozen DA.out j
      go_wp2_with fail
      go_meet
      case rel =>
        have far : ∀ {g : Nat} {cs : Array Value} {t : TypeId}, wa.heap[g]? = some (.cells cs t (0, 0)) → g ≠ gd → ((((((wa.setCell ⟨gd, i * 6, none⟩ (.int .i64 0)).setCell ⟨gd, i * 6 + 1, none⟩ (.int .i64 0)).setCell ⟨gd, i * 6 + 2, none⟩ (.bool false)).setCell ⟨gd, i * 6 + 3, none⟩ (.bool false)).setCell ⟨gd, i * 6 + 4, none⟩ (.int .i64 0)).setCell ⟨gd, i * 6 + 5, none⟩ (.int .i64 0)).heap[g]? = some (.cells cs t (0, 0)) :=
          fun h hne => (blk_far (p := ⟨gd, i * 6 + 5, none⟩) (blk_far (p := ⟨gd, i * 6 + 4, none⟩) (blk_far (p := ⟨gd, i * 6 + 3, none⟩) (blk_far (p := ⟨gd, i * 6 + 2, none⟩) (blk_far (p := ⟨gd, i * 6 + 1, none⟩) (blk_far (p := ⟨gd, i * 6, none⟩) h hne (.int .i64 0)) hne (.int .i64 0)) hne (.bool false)) hne (.bool false)) hne (.int .i64 0)) hne (.int .i64 0))
        have DB := (blk_set (blk_set (blk_set (blk_set (blk_set (blk_set DA.out (i * 6) (.int .i64 0)) (i * 6 + 1) (.int .i64 0)) (i * 6 + 2) (.bool false)) (i * 6 + 3) (.bool false)) (i * 6 + 4) (.int .i64 0)) (i * 6 + 5) (.int .i64 0))
        simp only [List.setIfInBounds_toArray] at DB
        rw [cells38_set (l0.set i ⟨r2, r3, r4, r5, wrap64 (r6 - 1), r7⟩) i ⟨0, 0, false, false, 0, 0⟩, List.set_set] at DB
        have el : left38 ⟨r2, r3, r4, r5, r6, r7⟩ = ⟨0, 0, false, false, 0, 0⟩ := if_pos HZ.out
        have hG := HG6.out
        exact ⟨far TA.out (by omega), far RA.out (by omega), far ZA.out (by omega), far XA.out (by omega), by rw [el]; exact DB, far FA.out (by omega), far WA.out (by omega), (below_set (g := gd) (below_set (g := gd) (below_set (g := gd) (below_set (g := gd) (below_set (g := gd) (below_set (g := gd) BA.out (by omega) (j := i * 6) (v := .int .i64 0)) (by omega) (j := i * 6 + 1) (v := .int .i64 0)) (by omega) (j := i * 6 + 2) (v := .bool false)) (by omega) (j := i * 6 + 3) (v := .bool false)) (by omega) (j := i * 6 + 4) (v := .int .i64 0)) (by omega) (j := i * 6 + 5) (v := .int .i64 0))⟩
    · have t5 : (wrap64 (r6 - 1) == 0) = false := beq_eq_false_iff_ne.2 hz
      have HZ := Aside0.mk hz
      clear hz
      go_wp2_with fail
      go_meet
      case rel =>
        have el : left38 ⟨r2, r3, r4, r5, r6, r7⟩ = ⟨r2, r3, r4, r5, wrap64 (r6 - 1), r7⟩ := if_neg HZ.out
        exact ⟨TA.out, RA.out, ZA.out, XA.out, by rw [el]; exact DA.out, FA.out, WA.out, BA.out⟩
  case rest =>
    clear TA RA ZA XA FA WA DA BA
    have HC := hcut
    clear hcut
    have TB := Aside0.mk HC.out.1
    have RB := Aside0.mk HC.out.2.1
    have ZB := Aside0.mk HC.out.2.2.1
    have XB := Aside0.mk HC.out.2.2.2.1
    have DB := Aside0.mk HC.out.2.2.2.2.1
    have FB := Aside0.mk HC.out.2.2.2.2.2.1
    have WB := Aside0.mk HC.out.2.2.2.2.2.2.1
    have BB := Aside0.mk HC.out.2.2.2.2.2.2.2
    clear HC
    have ht0 := (blk_cell TB.out 0).trans (show _ = some (Value.slice (some ⟨gd, 0, none⟩) l0.length l0.length) from rfl)
    have ht1 := (blk_cell TB.out 1).trans (show _ = some (Value.slice (some ⟨gf, 0, none⟩) l1.length l1.length) from rfl)
    have m0 := (blk_cell XB.out 0).trans (show _ = some (Value.int .i64 r2) from rfl)
    have m1 := (blk_cell XB.out 1).trans (show _ = some (Value.int .i64 r3) from rfl)
    have m2 := (blk_cell XB.out 2).trans (show _ = some (Value.bool r4) from rfl)
    have m3 := (blk_cell XB.out 3).trans (show _ = some (Value.bool r5) from rfl)
    have m4 := (blk_cell XB.out 4).trans (show _ = some (Value.int .i64 (wrap64 (r6 - 1))) from rfl)
    have m5 := (blk_cell XB.out 5).trans (show _ = some (Value.int .i64 r7) from rfl)
    have q := fun j => blk_frozen RB.out j
    have qz := fun j => blk_frozen ZB.out j
    have z0 := (blk_cell RB.out 0).trans (show _ = some (Value.slice none 0 0) from rfl)
    have z1 := (blk_cell RB.out 1).trans (show _ = some (Value.slice none 0 0) from rfl)
    have v0 := (blk_cell ZB.out 0).trans (show _ = some (Value.int .i64 0) from rfl)
    have v1 := (blk_cell ZB.out 1).trans (show _ = some (Value.int .i64 0) from rfl)
    have v2 := (blk_cell ZB.out 2).trans (show _ = some (Value.bool false) from rfl)
    have v3 := (blk_cell ZB.out 3).trans (show _ = some (Value.bool false) from rfl)
    have v4 := (blk_cell ZB.out 4).trans (show _ = some (Value.int .i64 0) from rfl)
    have v5 := (blk_cell ZB.out 5).trans (show _ = some (Value.int .i64 0) from rfl)
    go_wp2_with fail
    have n1 : gx ≠ w.heap.size + 1 := by have := GX.out; omega
    have n2 : w.heap.size + 1 ≠ gx := by have := GX.out; omega
    have n3 : gx ≠ w.heap.size + 1 + 1 := by have := GX.out; omega
    have n4 : w.heap.size + 1 + 1 ≠ gx := by have := GX.out; omega
    go_region
    go_wp2_with fail
    have hX : ∀ {g : Nat} {cs : Array Value} {t : TypeId}, wc.heap[g]? = some (.cells cs t (0, 0)) → g ≠ w.heap.size + 1 → g ≠ w.heap.size + 1 + 1 → ((((((((wc.setCell ⟨w.heap.size + 1, 0, none⟩ (.slice (some ⟨gd, 0, none⟩) l0.length l0.length)).setCell ⟨w.heap.size + 1, 1, none⟩ (.slice (some ⟨gf, 0, none⟩) l1.length l1.length)).setCell ⟨w.heap.size + 1 + 1, 0, none⟩ (.int .i64 r2)).setCell ⟨w.heap.size + 1 + 1, 1, none⟩ (.int .i64 r3)).setCell ⟨w.heap.size + 1 + 1, 2, none⟩ (.bool r4)).setCell ⟨w.heap.size + 1 + 1, 3, none⟩ (.bool r5)).setCell ⟨w.heap.size + 1 + 1, 4, none⟩ (.int .i64 (wrap64 (r6 - 1)))).setCell ⟨w.heap.size + 1 + 1, 5, none⟩ (.int .i64 r7)).drew.heap[g]? = some (.cells cs t (0, 0)) :=
      fun h hne hne2 => blk_drew (blk_far (p := ⟨w.heap.size + 1 + 1, 5, none⟩) (blk_far (p := ⟨w.heap.size + 1 + 1, 4, none⟩) (blk_far (p := ⟨w.heap.size + 1 + 1, 3, none⟩) (blk_far (p := ⟨w.heap.size + 1 + 1, 2, none⟩) (blk_far (p := ⟨w.heap.size + 1 + 1, 1, none⟩) (blk_far (p := ⟨w.heap.size + 1 + 1, 0, none⟩) (blk_far (p := ⟨w.heap.size + 1, 1, none⟩) (blk_far (p := ⟨w.heap.size + 1, 0, none⟩) h hne (.slice (some ⟨gd, 0, none⟩) l0.length l0.length)) hne (.slice (some ⟨gf, 0, none⟩) l1.length l1.length)) hne2 (.int .i64 r2)) hne2 (.int .i64 r3)) hne2 (.bool r4)) hne2 (.bool r5)) hne2 (.int .i64 (wrap64 (r6 - 1)))) hne2 (.int .i64 r7))
    have B := blk_drew (blk_far (p := ⟨w.heap.size + 1 + 1, 5, none⟩) (blk_far (p := ⟨w.heap.size + 1 + 1, 4, none⟩) (blk_far (p := ⟨w.heap.size + 1 + 1, 3, none⟩) (blk_far (p := ⟨w.heap.size + 1 + 1, 2, none⟩) (blk_far (p := ⟨w.heap.size + 1 + 1, 1, none⟩) (blk_far (p := ⟨w.heap.size + 1 + 1, 0, none⟩) (blk_set (blk_set RB.out (0) (.slice (some ⟨gd, 0, none⟩) l0.length l0.length)) (1) (.slice (some ⟨gf, 0, none⟩) l1.length l1.length)) (by dsimp only; omega) (.int .i64 r2)) (by dsimp only; omega) (.int .i64 r3)) (by dsimp only; omega) (.bool r4)) (by dsimp only; omega) (.bool r5)) (by dsimp only; omega) (.int .i64 (wrap64 (r6 - 1)))) (by dsimp only; omega) (.int .i64 r7))
    have C := blk_drew (blk_set (blk_set (blk_set (blk_set (blk_set (blk_set (blk_far (p := ⟨w.heap.size + 1, 1, none⟩) (blk_far (p := ⟨w.heap.size + 1, 0, none⟩) ZB.out (by dsimp only; omega) (.slice (some ⟨gd, 0, none⟩) l0.length l0.length)) (by dsimp only; omega) (.slice (some ⟨gf, 0, none⟩) l1.length l1.length)) (0) (.int .i64 r2)) (1) (.int .i64 r3)) (2) (.bool r4)) (3) (.bool r5)) (4) (.int .i64 (wrap64 (r6 - 1)))) (5) (.int .i64 r7))
    have r0_ := (blk_cell B 0).trans (show _ = some (Value.slice (some ⟨gd, 0, none⟩) l0.length l0.length) from rfl)
    have r1_ := (blk_cell B 1).trans (show _ = some (Value.slice (some ⟨gf, 0, none⟩) l1.length l1.length) from rfl)
    have s0_ := (blk_cell C 0).trans (show _ = some (Value.int .i64 r2) from rfl)
    have s1_ := (blk_cell C 1).trans (show _ = some (Value.int .i64 r3) from rfl)
    have s2_ := (blk_cell C 2).trans (show _ = some (Value.bool r4) from rfl)
    have s3_ := (blk_cell C 3).trans (show _ = some (Value.bool r5) from rfl)
    have s4_ := (blk_cell C 4).trans (show _ = some (Value.int .i64 (wrap64 (r6 - 1))) from rfl)
    have s5_ := (blk_cell C 5).trans (show _ = some (Value.int .i64 r7) from rfl)
    refine bodyPost_ret (v := .tuple #[.agg #[.slice (some ⟨gd, 0, none⟩) l0.length l0.length, .slice (some ⟨gf, 0, none⟩) l1.length l1.length], .agg #[.int .i64 r2, .int .i64 r3, .bool r4, .bool r5, .int .i64 (wrap64 (r6 - 1)), .int .i64 r7], .int .i64 0]) (by simp [results, Try.results21, go_sem, r0_, r1_, s0_, s1_, s2_, s3_, s4_, s5_]) rfl ?_
    have hG := HG6.out
    refine ⟨⟨gd, gf, gr, rfl, by omega, by omega, by omega, hX DB.out (by omega) (by omega), hX FB.out (by omega) (by omega), ?_⟩, Below.drew (below_set (g := w.heap.size + 1 + 1) (below_set (g := w.heap.size + 1 + 1) (below_set (g := w.heap.size + 1 + 1) (below_set (g := w.heap.size + 1 + 1) (below_set (g := w.heap.size + 1 + 1) (below_set (g := w.heap.size + 1 + 1) (below_set (g := w.heap.size + 1) (below_set (g := w.heap.size + 1) BB.out (by omega) (j := 0) (v := .slice (some ⟨gd, 0, none⟩) l0.length l0.length)) (by omega) (j := 1) (v := .slice (some ⟨gf, 0, none⟩) l1.length l1.length)) (by omega) (j := 0) (v := .int .i64 r2)) (by omega) (j := 1) (v := .int .i64 r3)) (by omega) (j := 2) (v := .bool r4)) (by omega) (j := 3) (v := .bool r5)) (by omega) (j := 4) (v := .int .i64 (wrap64 (r6 - 1)))) (by omega) (j := 5) (v := .int .i64 r7))⟩
    rw [List.map_set]
    exact hX WB.out (by omega) (by omega)

end Go.Proofs.Ytkecfdljodiifaa.P
