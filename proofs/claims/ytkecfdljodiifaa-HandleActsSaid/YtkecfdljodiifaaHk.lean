/- The contract of 'refer' with one description more, by hand. -/
import Derived.Test.YtkecfdljodiifaaHj
namespace Go.Proofs.Ytkecfdljodiifaa.P
open Go.RowKit Go.Proofs.YtkecfdljodiifaaW.PrintWords Go.Proofs.YtkecfdljodiifaaW.PrintLast Go.Proofs.YtkecfdljodiifaaW.PrintMore

def placed (l : List S38) (i : Nat) (x : S38) : List S38 := if i < l.length then l.set i x else l ++ [x]

def ready (l : List S38) (i : Nat) (x : S38) : List S38 := if i < l.length then l else l ++ [x]
theorem ready_length (l : List S38) (i : Nat) (x : S38) : (ready l i x).length = (placed l i x).length := by
  unfold ready placed; split <;> simp
theorem placed_length (l : List S38) (i : Nat) (x y : S38) : (placed l i x).length = (placed l i y).length := by
  unfold placed; split <;> simp
theorem placed_lt (l : List S38) (i : Nat) (x : S38) (hi : i ≤ l.length) : i < (placed l i x).length := by
  unfold placed; split <;> simp <;> omega
theorem placed_le (l : List S38) (i : Nat) (x : S38) : (placed l i x).length ≤ l.length + 1 := by
  unfold placed; split <;> simp
theorem ready_set (l : List S38) (i : Nat) (x : S38) (hi : i ≤ l.length) : (ready l i x).set i x = placed l i x := by
  unfold ready placed
  split
  · rfl
  · have e : i = l.length := by omega
    subst e
    simp
theorem placed_set (l : List S38) (i : Nat) (x y : S38) (hi : i ≤ l.length) : (placed l i x).set i y = placed l i y := by
  unfold placed
  split
  · simp
  · have e : i = l.length := by omega
    subst e
    simp
theorem placed_at (l : List S38) (i : Nat) (x : S38) (hi : i ≤ l.length) : rd_T38 (placed l i x) (i : Int) = x := by
  have h : (placed l i x)[i]? = some x := by
    unfold placed
    split
    · next h => simp [h]
    · have e : i = l.length := by omega
      subst e
      simp
  simp [rd_T38, List.getD_eq_getElem?_getD, h]
theorem cells38_snoc (l : List S38) (x : S38) : cells38 (l ++ [x]) = cells38 l ++ enc38 x := by simp [cells38]

/-- A block whose first cells are the row's: it may have room for more. -/
theorem C_of_prefix {α : Type} (d : Kd α) {w : World} {g : Nat} {t : TypeId} {xs : List α} {cs : List Value} {cur : Array Value} (hr : Reps (d.K w) d.sz xs cs) (hm : xs.length ≤ 9223372036854775807)
    (hg : w.heap[g]? = some (.cells cur t (0, 0))) (hp : cur.toList.take (xs.length * d.sz) = cs) : d.C w (some ⟨g, 0, none⟩) xs.length xs := by
  refine ⟨rfl, hm, fun _ => ⟨_, rfl, fun j p hj => ?_⟩⟩
  have hjl := (List.getElem?_eq_some_iff.1 hj).1
  have hfit : j * d.sz + d.sz ≤ cs.length := by rw [hr.1, ← Nat.succ_mul]; exact Nat.mul_le_mul_right _ hjl
  refine ⟨(cs.drop (j * d.sz)).take d.sz, by rw [List.length_take, List.length_drop]; omega, hr.2 j p hj, fun i u hi => ?_⟩
  rw [addr_plain, blk_cell hg]
  rw [List.getElem?_take] at hi
  split at hi
  · rw [List.getElem?_drop, ← hp, List.getElem?_take] at hi
    split at hi
    · simpa using hi
    · cases hi
  · cases hi

set_option maxHeartbeats 4000000 in
set_option maxRecDepth 100000 in
theorem refer_one (ga : Nat) (x : S38) (A0 : Option Addr) (c0 : Nat) (l0 : List S38) (ad1 ar : Addr) (c1 n1 k cr : Nat) (cf : List Value) (row : List Int) (q fd i : Nat) (w : World) (hk : k < n1) (hi : i ≤ l0.length) (hmx : w.heap[ga]? = some (.cells #[.int .i64 x.f0, .int .i64 x.f1, .bool x.f2, .bool x.f3, .int .i64 x.f4, .int .i64 x.f5] 38 (0, 0))) (hfd : fd < row.length)
    (hb0 : l0.length ≤ 1000) (hb1 : n1 ≤ 1000) (hbr : row.length ≤ 1000) (hr : Kd.C k38 w A0 l0.length l0) (hf : cf.length = n1 * 1) (sf : ∀ j u, cf[j]? = some u → w.cell? (ad1.add j) = some u) (of : ∀ u ∈ cf, u.oneCell' = true)
    (hck : cf[k]? = some (.slice (some ar) row.length cr)) (hc : row.length ≤ cr) (hrow : Kd.C (Kd.int .i64) w (some ar) row.length row) (hx : slices_Index_int_int.f q row (-1) = some (fd : Int)) :
    Calls Try.prog 37 #[.agg #[.slice A0 l0.length c0, .slice (some ad1) n1 c1], .int .i64 k, .int .i64 i, .slice (some ⟨ga, 0, none⟩) 1 1] w fun e w' => ∃ gd gf gr cap : Nat, ∃ cur : Array Value,
      e = .returned (.tuple #[.agg #[.slice (some ⟨gd, 0, none⟩) (placed l0 i x).length cap, .slice (some ⟨gf, 0, none⟩) n1 n1], .int .i64 fd, .int .i64 0]) ∧ (placed l0 i x).length ≤ cap ∧ w.heap.size ≤ gd ∧ w.heap.size ≤ gf ∧ w.heap.size ≤ gr ∧
      w'.heap[gd]? = some (.cells cur 38 (0, 0)) ∧ cur.toList.take ((placed l0 i x).length * 6) = cells38 (placed l0 i { x with f4 := wrap64 (x.f4 + 1) }) ∧ w'.heap[gf]? = some (.cells (cf.set k (.slice (some ⟨gr, 0, none⟩) row.length row.length)).toArray 64 (0, 0)) ∧
      w'.heap[gr]? = some (.cells ((row.set fd (i : Int)).map (Value.int .i64)).toArray 3 (0, 0)) ∧ Below w.heap.size w w' := by
  have hu25 := Try.underlying25
  have hu38 := Try.underlying38
  have t1 : decide ((fd : Int) < 0) = false := decide_eq_false (by omega)
  obtain ⟨cd, dl, dr, d1, ds⟩ := C_cells k38 hr
  obtain rfl := reps_cells38 dr
  obtain ⟨cw, wl, wr, w1, ws⟩ := C_cells (Kd.int .i64) hrow
  obtain rfl := reps_ints wr
  have hB := Aside0.mk (below_alloc (below_alloc (Below.refl w.heap.size w) (.cells #[.slice A0 l0.length c0, .slice (some ad1) n1 c1] 25)) (.cells #[.slice none 0 0, .slice none 0 0] 25))
  have U2 := Aside0.mk (pw_cell_below hB.out (sf k _ hck))
  have RW := Aside0.mk hrow
  have HX := Aside0.mk hx
  have DS := Aside0.mk ds
  have SF := Aside0.mk sf
  have OF := Aside0.mk of
  have WS := Aside0.mk ws
  have CK := Aside0.mk hck
  have WL := Aside0.mk wl
  have W1 := Aside0.mk w1
  have HF := Aside0.mk hf
  have hT := Aside0.mk (show ((w.alloc (.cells #[.slice A0 l0.length c0, .slice (some ad1) n1 c1] 25)).alloc (.cells #[.slice none 0 0, .slice none 0 0] 25)).heap[w.heap.size]? = some (.cells #[.slice A0 l0.length c0, .slice (some ad1) n1 c1] 25 (0, 0)) from blk_alloc (blk_new w _) _)
  have hR := Aside0.mk (show ((w.alloc (.cells #[.slice A0 l0.length c0, .slice (some ad1) n1 c1] 25)).alloc (.cells #[.slice none 0 0, .slice none 0 0] 25)).heap[w.heap.size + 1]? = some (.cells #[.slice none 0 0, .slice none 0 0] 25 (0, 0)) from by simpa using blk_new (w.alloc (.cells #[.slice A0 l0.length c0, .slice (some ad1) n1 c1] 25)) (.cells #[.slice none 0 0, .slice none 0 0] 25))
  clear hrow hx dl dr d1 ds sf of ws hck wl w1 hf hr
  go_enter Try.func37, Try.ntmps37
  go_upto_region 2 with (first
    | (go_at_call 34; refine (row_at _ ad1 n1 c1 k _ _ hk (by omega) U2.out).mono ?_; rintro e w3 ⟨rfl, hb3⟩)
    | (go_at_call 42; refine (slices_Index_int_int.calls q _ _ row (-1) _ _ (Kd.C_below RW.out (below_step hB.out hb3)) hc HX.out).mono ?_; rintro e w4 ⟨rfl, hb4⟩))
  have T4 := Aside0.mk (blk_below hT.out (below_step hb3 hb4.below))
  have R4 := Aside0.mk (blk_below hR.out (below_step hb3 hb4.below))
  have B4 := Aside0.mk (below_step hB.out (below_step hb3 hb4.below))
  clear hb3 hb4 U2 hB hT hR
  have ht0 := (blk_cell T4.out 0).trans (show _ = some (Value.slice A0 l0.length c0) from rfl)
  have ht1 := (blk_cell T4.out 1).trans (show _ = some (Value.slice (some ad1) n1 c1) from rfl)
  go_upto_region 4 with (fail)
  obtain ⟨arw, earw, hws⟩ := WS.out (by omega)
  cases earw
  have SR4 := Aside0.mk (fun (j : Nat) (u : Value) (hj : (row.map (Value.int .i64))[j]? = some u) => pw_cell_below B4.out (hws j u hj))
  have SF4 := Aside0.mk (fun (_ : 0 < n1) => (⟨ad1, rfl, fun (j : Nat) (u : Value) (hj : cf[j]? = some u) => pw_cell_below B4.out (SF.out j u hj)⟩ : ∃ ad, some ad1 = some ad ∧ ∀ j u, cf[j]? = some u → w4.cell? (ad.add j) = some u))
  have SD4 := Aside0.mk (show 0 < l0.length → ∃ ad, A0 = some ad ∧ ∀ j u, (cells38 l0)[j]? = some u → w4.cell? (ad.add j) = some u from fun hp => by
    obtain ⟨a, ea, hs⟩ := DS.out hp
    exact ⟨a, ea, fun j u hj => pw_cell_below B4.out (hs j u hj)⟩)
  have Z4 := Aside0.mk (show w.heap.size + 1 < w4.heap.size from blk_lt R4.out)
  go_upto_region 5 with (first
    | (go_at_call 38; refine (own_at k ar row.length cr (row.map (Value.int .i64)) A0 c0 l0.length (some ad1) c1 n1 (cells38 l0) cf _ hk (by omega) CK.out WL.out SR4.out W1.out (by omega) (by omega) (cells38_length l0) HF.out SD4.out SF4.out (cells38_one l0) OF.out).mono ?_; rintro e w5 ⟨gd, gf, gr, rfl, hgd, hgf, hgr, hdf, hdr, hfr, hcd, hcf, hcr, hb5⟩;
        have T5 := Aside0.mk (blk_below T4.out hb5); have R5 := Aside0.mk (blk_below R4.out hb5); have B5 := Aside0.mk (below_step B4.out hb5);
        have q0 := blk_frozen T5.out 0; have q1 := blk_frozen T5.out 1; have y0 := (blk_cell T5.out 0).trans (show _ = some (Value.slice A0 l0.length c0) from rfl); have y1 := (blk_cell T5.out 1).trans (show _ = some (Value.slice (some ad1) n1 c1) from rfl)))
  have HG := Aside0.mk (show w.heap.size + 1 < gd ∧ w.heap.size + 1 < gf ∧ w.heap.size + 1 < gr ∧ gd ≠ gf ∧ gd ≠ gr ∧ gf ≠ gr from by have := Z4.out; exact ⟨by omega, by omega, by omega, hdf, hdr, hfr⟩)
  have far : ∀ {g : Nat} {cs : Array Value} {t : TypeId}, w5.heap[g]? = some (.cells cs t (0, 0)) → g ≠ w.heap.size → ((w5.setCell ⟨w.heap.size, 0, none⟩ (.slice (some ⟨gd, 0, none⟩) l0.length l0.length)).setCell ⟨w.heap.size, 1, none⟩ (.slice (some ⟨gf, 0, none⟩) n1 n1)).heap[g]? = some (.cells cs t (0, 0)) :=
    fun h hne => blk_far (p := ⟨w.heap.size, 1, none⟩) (blk_far (p := ⟨w.heap.size, 0, none⟩) h hne (.slice (some ⟨gd, 0, none⟩) l0.length l0.length)) hne (.slice (some ⟨gf, 0, none⟩) n1 n1)
  have T6 := Aside0.mk (blk_put (blk_put T5.out 0 (.slice (some ⟨gd, 0, none⟩) l0.length l0.length) rfl) 1 (.slice (some ⟨gf, 0, none⟩) n1 n1) rfl)
  have R6 := Aside0.mk (far R5.out (by omega))
  have D6 := Aside0.mk (far hcd (by have := HG.out; omega))
  have F6 := Aside0.mk (far hcf (by have := HG.out; omega))
  have W6 := Aside0.mk (far hcr (by have := HG.out; omega))
  have B6 := Aside0.mk (below_set (below_set B5.out (Nat.le_refl _) (j := 0) (v := .slice (some ⟨gd, 0, none⟩) l0.length l0.length)) (Nat.le_refl _) (j := 1) (v := .slice (some ⟨gf, 0, none⟩) n1 n1))
  clear far T5 R5 B5 hcd hcf hcr hb5 hgd hgf hgr hdf hdr hfr q0 q1 y0 y1 T4 R4 B4 SR4 SF4 SD4 Z4 ht0 ht1
  generalize ((w5.setCell ⟨w.heap.size, 0, none⟩ (.slice (some ⟨gd, 0, none⟩) l0.length l0.length)).setCell ⟨w.heap.size, 1, none⟩ (.slice (some ⟨gf, 0, none⟩) n1 n1)) = w6 at T6 R6 D6 F6 W6 B6 ⊢
  have ht0 := (blk_cell T6.out 0).trans (show _ = some (Value.slice (some ⟨gd, 0, none⟩) l0.length l0.length) from rfl)
  have ht1 := (blk_cell T6.out 1).trans (show _ = some (Value.slice (some ⟨gf, 0, none⟩) n1 n1) from rfl)
  have M6 := Aside0.mk (blk_below hmx B6.out)
  have hga : ga < w.heap.size := blk_lt hmx
  have m0 := (blk_cell M6.out 0).trans (show _ = some (Value.int .i64 x.f0) from rfl)
  have m1 := (blk_cell M6.out 1).trans (show _ = some (Value.int .i64 x.f1) from rfl)
  have m2 := (blk_cell M6.out 2).trans (show _ = some (Value.bool x.f2) from rfl)
  have m3 := (blk_cell M6.out 3).trans (show _ = some (Value.bool x.f3) from rfl)
  have m4 := (blk_cell M6.out 4).trans (show _ = some (Value.int .i64 x.f4) from rfl)
  have m5 := (blk_cell M6.out 5).trans (show _ = some (Value.int .i64 x.f5) from rfl)
  go_wp2_with fail
  refine wp_loop_rounds 2 ?_
  rw [rounds_succ]
  go_upto_region 8 with (fail)
  have X7 := Aside0.mk (blk_new w6 (.cells #[.int .i64 x.f0, .int .i64 x.f1, .bool x.f2, .bool x.f3, .int .i64 x.f4, .int .i64 x.f5] 38))
  have T7 := Aside0.mk (blk_alloc T6.out (.cells #[.int .i64 x.f0, .int .i64 x.f1, .bool x.f2, .bool x.f3, .int .i64 x.f4, .int .i64 x.f5] 38))
  have R7 := Aside0.mk (blk_alloc R6.out (.cells #[.int .i64 x.f0, .int .i64 x.f1, .bool x.f2, .bool x.f3, .int .i64 x.f4, .int .i64 x.f5] 38))
  have D7 := Aside0.mk (blk_alloc D6.out (.cells #[.int .i64 x.f0, .int .i64 x.f1, .bool x.f2, .bool x.f3, .int .i64 x.f4, .int .i64 x.f5] 38))
  have F7 := Aside0.mk (blk_alloc F6.out (.cells #[.int .i64 x.f0, .int .i64 x.f1, .bool x.f2, .bool x.f3, .int .i64 x.f4, .int .i64 x.f5] 38))
  have W7 := Aside0.mk (blk_alloc W6.out (.cells #[.int .i64 x.f0, .int .i64 x.f1, .bool x.f2, .bool x.f3, .int .i64 x.f4, .int .i64 x.f5] 38))
  have B7 := Aside0.mk (below_alloc B6.out (.cells #[.int .i64 x.f0, .int .i64 x.f1, .bool x.f2, .bool x.f3, .int .i64 x.f4, .int .i64 x.f5] 38))
  have HX7 := Aside0.mk (show w.heap.size + 1 < w6.heap.size ∧ gd < w6.heap.size ∧ gf < w6.heap.size ∧ gr < w6.heap.size from ⟨blk_lt R6.out, blk_lt D6.out, blk_lt F6.out, blk_lt W6.out⟩)
  clear T6 R6 D6 F6 W6 B6 M6 m0 m1 m2 m3 m4 m5 ht0 ht1
  generalize w6.alloc (.cells #[.int .i64 x.f0, .int .i64 x.f1, .bool x.f2, .bool x.f3, .int .i64 x.f4, .int .i64 x.f5] 38) = w7 at X7 T7 R7 D7 F7 W7 B7 ⊢
  generalize w6.heap.size = gx at X7 HX7 ⊢
  have ht0 := (blk_cell T7.out 0).trans (show _ = some (Value.slice (some ⟨gd, 0, none⟩) l0.length l0.length) from rfl)
  have ht1 := (blk_cell T7.out 1).trans (show _ = some (Value.slice (some ⟨gf, 0, none⟩) n1 n1) from rfl)
  have GX := Aside0.mk (show gx ≠ gd ∧ gx ≠ gf ∧ gx ≠ gr ∧ w.heap.size + 1 < gx from by have := HX7.out; omega)
  have PL := Aside0.mk (And.intro (placed_lt l0 i x hi) (placed_le l0 i x))
  go_upto_if 34 with (fail)
  go_cut [] (fun wc => ∃ (ge cap : Nat) (cur : Array Value), Aside0 (w.heap.size + 1 < ge ∧ ge ≠ gf ∧ ge ≠ gr ∧ ge ≠ gx ∧ (placed l0 i x).length ≤ cap ∧
    wc.heap[w.heap.size]? = some (.cells #[.slice (some ⟨ge, 0, none⟩) (placed l0 i x).length cap, .slice (some ⟨gf, 0, none⟩) n1 n1] 25 (0, 0)) ∧ wc.heap[w.heap.size + 1]? = some (.cells #[.slice none 0 0, .slice none 0 0] 25 (0, 0)) ∧
    wc.heap[gx]? = some (.cells #[.int .i64 x.f0, .int .i64 x.f1, .bool x.f2, .bool x.f3, .int .i64 x.f4, .int .i64 x.f5] 38 (0, 0)) ∧
    wc.heap[ge]? = some (.cells cur 38 (0, 0)) ∧ cur.toList.take ((placed l0 i x).length * 6) = cells38 (ready l0 i x) ∧ wc.heap[gf]? = some (.cells (cf.set k (.slice (some ⟨gr, 0, none⟩) row.length row.length)).toArray 64 (0, 0)) ∧
    wc.heap[gr]? = some (.cells (row.map (Value.int .i64)).toArray 3 (0, 0)) ∧ Below w.heap.size w wc))
  case first =>
    by_cases hin : i < l0.length
    · have t5 : decide (i = l0.length) = false := decide_eq_false (by omega)
      go_wp2_with fail
      go_meet
      case rel =>
        have e : ready l0 i x = l0 := if_pos hin
        have e2 : (placed l0 i x).length = l0.length := by simp [placed, hin]
        refine ⟨gd, l0.length, _, ⟨by have := HG.out; omega, by have := HG.out; omega, by have := HG.out; omega, fun h => GX.out.1 h.symm, by omega, by rw [e2]; exact T7.out, R7.out, X7.out, D7.out, ?_, F7.out, W7.out, B7.out⟩⟩
        rw [e, e2, List.take_of_length_le (by simp [cells38_length])]
    · have hie : i = l0.length := by omega
      have t5 : decide (i = l0.length) = true := decide_eq_true hie
      have t6 : ((i : Int) == (l0.length : Int)) = true := by simp [hie]
      clear hie
      have OWN := Aside0.mk (show w7.ownsRow w.heap.size 38 6 (.slice (some ⟨gd, 0, none⟩) l0.length l0.length) l0.length (cells38 l0) from
        ⟨cells38_length l0, .inr ⟨gd, l0.length, _, rfl, by have := HG.out; omega, D7.out, Nat.le_refl _, by unfold maxLen; omega, by simp [cells38_length], by rw [List.take_of_length_le (by simp [cells38_length])]⟩⟩)
      have LB := Aside0.mk (show (l0.length + 1) * 40 ≤ 140737488355328 by omega)
      have LS := Aside0.mk (show w.heap.size ≤ w7.heap.size from Nat.le_of_lt (Nat.lt_trans (Nat.lt_succ_self _) (blk_lt R7.out)))
      have m0 := (blk_cell X7.out 0).trans (show _ = some (Value.int .i64 x.f0) from rfl)
      have m1 := (blk_cell X7.out 1).trans (show _ = some (Value.int .i64 x.f1) from rfl)
      have m2 := (blk_cell X7.out 2).trans (show _ = some (Value.bool x.f2) from rfl)
      have m3 := (blk_cell X7.out 3).trans (show _ = some (Value.bool x.f3) from rfl)
      have m4 := (blk_cell X7.out 4).trans (show _ = some (Value.int .i64 x.f4) from rfl)
      have m5 := (blk_cell X7.out 5).trans (show _ = some (Value.int .i64 x.f5) from rfl)
      go_wp2_with (first
        | (at_builtin; refine print_append_cells (w0 := w) (W := w7) w.heap.size rfl (.tmp 36) (.tmp 38) 22 38 (.agg #[.int .i64 0, .int .i64 0, .bool false, .bool false, .int .i64 0, .int .i64 0]) 6 40 rfl Try.underlying22 infoD rfl (by decide) (by decide) (.slice (some ⟨gd, 0, none⟩) l0.length l0.length) l0.length (cells38 l0) [.int .i64 x.f0, .int .i64 x.f1, .bool x.f2, .bool x.f3, .int .i64 x.f4, .int .i64 x.f5] rfl rfl rfl (by intro u hu; simp only [List.mem_cons, List.not_mem_nil, or_false] at hu; rcases hu with rfl | rfl | rfl | rfl | rfl | rfl <;> rfl) OWN.out B7.out LS.out LB.out ?_; intro v8 w8 ho8 hb8 hg8 hat8;
            obtain ⟨hl8, h8 | ⟨ge, cap, cur, rfl, hge, hb, hcap, hc1, hc2, htk⟩⟩ := ho8; exact absurd h8.2 (Nat.succ_ne_zero _);
            have OWN8 := Aside0.mk (And.intro hge (And.intro hb (And.intro hcap htk))); clear hl8 hge hb hcap hc1 hc2 htk; have B8 := Aside0.mk hb8; have G8 := Aside0.mk hg8; have AT8 := Aside0.mk hat8; clear hb8 hg8 hat8;
            have T8 := Aside0.mk (blk_grown T7.out G8.out (by have := HG.out; simp only [Value.ownBlock, ne_eq, Option.some.injEq]; omega)); have y8 := (blk_cell T8.out 0).trans (show _ = some (Value.slice (some ⟨gd, 0, none⟩) l0.length l0.length) from rfl); have q8 := blk_frozen T8.out 0))
      go_meet
      case rel =>
        have e : ready l0 i x = l0 ++ [x] := if_neg hin
        have e2 : (placed l0 i x).length = l0.length + 1 := by simp [placed, hin]
        obtain ⟨hge, hb, hcap, htk⟩ := OWN8.out
        have hne : ge = gd ∨ w7.heap.size ≤ ge := by
          rcases AT8.out with h | ⟨b, h, hle⟩
          · left; simpa [Value.ownBlock] using h
          · right; simp only [Value.ownBlock, Option.some.injEq] at h; omega
        have hlt := blk_lt R7.out
        have hf := blk_lt F7.out
        have hw := blk_lt W7.out
        have hx := blk_lt X7.out
        have far : ∀ {g : Nat} {cs : Array Value} {t : TypeId}, w7.heap[g]? = some (.cells cs t (0, 0)) → g ≠ gd → g ≠ w.heap.size → (w8.setCell ⟨w.heap.size, 0, none⟩ (.slice (some ⟨ge, 0, none⟩) (l0.length + 1) cap)).heap[g]? = some (.cells cs t (0, 0)) :=
          fun h hne hne2 => blk_far (p := ⟨w.heap.size, 0, none⟩) (blk_grown h G8.out (by simp only [Value.ownBlock, ne_eq, Option.some.injEq]; exact hne)) hne2 _
        have hT := blk_put T8.out 0 (.slice (some ⟨ge, 0, none⟩) (l0.length + 1) cap) rfl
        have hG := HG.out
        refine ⟨ge, cap, cur, ⟨by omega, by omega, by omega, by have := GX.out; omega, by omega, by rw [e2]; exact hT, far R7.out (by omega) (by omega), far X7.out GX.out.1 (by have := GX.out; omega), blk_far (p := ⟨w.heap.size, 0, none⟩) hb (by dsimp only; omega) _, ?_, far F7.out (by omega) (by omega), far W7.out (by omega) (by omega), below_set B8.out (Nat.le_refl _)⟩⟩
        rw [e, e2, htk, cells38_snoc]
        rfl
  case rest =>
    obtain ⟨ge, cap, cur, HC⟩ := hcut
    clear T7 R7 X7 D7 F7 W7 B7 HX7 ht0 ht1
    have HE := Aside0.mk (show w.heap.size + 1 < ge ∧ ge ≠ gf ∧ ge ≠ gr ∧ ge ≠ gx ∧ (placed l0 i x).length ≤ cap from ⟨HC.out.1, HC.out.2.1, HC.out.2.2.1, HC.out.2.2.2.1, HC.out.2.2.2.2.1⟩)
    have T9 := Aside0.mk HC.out.2.2.2.2.2.1
    have R9 := Aside0.mk HC.out.2.2.2.2.2.2.1
    have X9 := Aside0.mk HC.out.2.2.2.2.2.2.2.1
    have D9 := Aside0.mk HC.out.2.2.2.2.2.2.2.2.1
    have P9 := Aside0.mk HC.out.2.2.2.2.2.2.2.2.2.1
    have F9 := Aside0.mk HC.out.2.2.2.2.2.2.2.2.2.2.1
    have W9 := Aside0.mk HC.out.2.2.2.2.2.2.2.2.2.2.2.1
    have B9 := Aside0.mk HC.out.2.2.2.2.2.2.2.2.2.2.2.2
    clear HC
    have hm : i < (placed l0 i x).length := PL.out.1
    have ht0 := (blk_cell T9.out 0).trans (show _ = some (Value.slice (some ⟨ge, 0, none⟩) (placed l0 i x).length cap) from rfl)
    have m0 := (blk_cell X9.out 0).trans (show _ = some (Value.int .i64 x.f0) from rfl)
    have m1 := (blk_cell X9.out 1).trans (show _ = some (Value.int .i64 x.f1) from rfl)
    have m2 := (blk_cell X9.out 2).trans (show _ = some (Value.bool x.f2) from rfl)
    have m3 := (blk_cell X9.out 3).trans (show _ = some (Value.bool x.f3) from rfl)
    have m4 := (blk_cell X9.out 4).trans (show _ = some (Value.int .i64 x.f4) from rfl)
    have m5 := (blk_cell X9.out 5).trans (show _ = some (Value.int .i64 x.f5) from rfl)
    have hmax : ∀ y, (placed l0 i y).length ≤ 9223372036854775807 := fun y => Nat.le_trans (Nat.le_trans (placed_le l0 i y) (Nat.succ_le_succ hb0)) (by decide)
    have HM := Aside0.mk hmax
    obtain ⟨ad2, ea, y0, y1, y2, y3, y4, y5⟩ := at_T38 (ready_length l0 i x ▸ C_of_prefix k38 (cells38_reps wc (ready l0 i x)) (by rw [ready_length]; exact hmax x) D9.out (by rw [ready_length]; exact P9.out) : Kd.C k38 wc _ (placed l0 i x).length (ready l0 i x)) (i : Int) (by omega) (by omega)
    cases ea
    simp only [Int.toNat_natCast, addr_plain] at y0 y1 y2 y3 y4 y5
    clear hmax
    have g0 := fun j => blk_frozen D9.out j
    go_upto_region 11 with (fail)
    have far : ∀ {g : Nat} {cs : Array Value} {t : TypeId}, wc.heap[g]? = some (.cells cs t (0, 0)) → g ≠ ge → ((((((wc.setCell ⟨ge, i * 6, none⟩ (.int .i64 x.f0)).setCell ⟨ge, i * 6 + 1, none⟩ (.int .i64 x.f1)).setCell ⟨ge, i * 6 + 2, none⟩ (.bool x.f2)).setCell ⟨ge, i * 6 + 3, none⟩ (.bool x.f3)).setCell ⟨ge, i * 6 + 4, none⟩ (.int .i64 x.f4)).setCell ⟨ge, i * 6 + 5, none⟩ (.int .i64 x.f5)).heap[g]? = some (.cells cs t (0, 0)) :=
      fun h hne => (blk_far (p := ⟨ge, i * 6 + 5, none⟩) (blk_far (p := ⟨ge, i * 6 + 4, none⟩) (blk_far (p := ⟨ge, i * 6 + 3, none⟩) (blk_far (p := ⟨ge, i * 6 + 2, none⟩) (blk_far (p := ⟨ge, i * 6 + 1, none⟩) (blk_far (p := ⟨ge, i * 6, none⟩) h hne (.int .i64 x.f0)) hne (.int .i64 x.f1)) hne (.bool x.f2)) hne (.bool x.f3)) hne (.int .i64 x.f4)) hne (.int .i64 x.f5))
    have TA := Aside0.mk (far T9.out (by have := HE.out; omega))
    have RA := Aside0.mk (far R9.out (by have := HE.out; omega))
    have FA := Aside0.mk (far F9.out (by have := HE.out; omega))
    have WA := Aside0.mk (far W9.out (by have := HE.out; omega))
    have DA := Aside0.mk (blk_set (blk_set (blk_set (blk_set (blk_set (blk_set D9.out (i * 6) (.int .i64 x.f0)) (i * 6 + 1) (.int .i64 x.f1)) (i * 6 + 2) (.bool x.f2)) (i * 6 + 3) (.bool x.f3)) (i * 6 + 4) (.int .i64 x.f4)) (i * 6 + 5) (.int .i64 x.f5))
    have BA := Aside0.mk (below_set (g := ge) (below_set (g := ge) (below_set (g := ge) (below_set (g := ge) (below_set (g := ge) (below_set (g := ge) B9.out (by have := HE.out; omega) (j := i * 6) (v := .int .i64 x.f0)) (by have := HE.out; omega) (j := i * 6 + 1) (v := .int .i64 x.f1)) (by have := HE.out; omega) (j := i * 6 + 2) (v := .bool x.f2)) (by have := HE.out; omega) (j := i * 6 + 3) (v := .bool x.f3)) (by have := HE.out; omega) (j := i * 6 + 4) (v := .int .i64 x.f4)) (by have := HE.out; omega) (j := i * 6 + 5) (v := .int .i64 x.f5))
    clear far T9 R9 X9 D9 F9 W9 B9 ht0 m0 m1 m2 m3 m4 m5 y0 y1 y2 y3 y4 y5 g0
    generalize ((((((wc.setCell ⟨ge, i * 6, none⟩ (.int .i64 x.f0)).setCell ⟨ge, i * 6 + 1, none⟩ (.int .i64 x.f1)).setCell ⟨ge, i * 6 + 2, none⟩ (.bool x.f2)).setCell ⟨ge, i * 6 + 3, none⟩ (.bool x.f3)).setCell ⟨ge, i * 6 + 4, none⟩ (.int .i64 x.f4)).setCell ⟨ge, i * 6 + 5, none⟩ (.int .i64 x.f5)) = wa at TA RA FA WA DA BA ⊢
    have PA : ((((((cur.setIfInBounds (i * 6) (.int .i64 x.f0)).setIfInBounds (i * 6 + 1) (.int .i64 x.f1)).setIfInBounds (i * 6 + 2) (.bool x.f2)).setIfInBounds (i * 6 + 3) (.bool x.f3)).setIfInBounds (i * 6 + 4) (.int .i64 x.f4)).setIfInBounds (i * 6 + 5) (.int .i64 x.f5)).toList.take ((placed l0 i x).length * 6) = cells38 (placed l0 i x) := by
      simp only [Array.toList_setIfInBounds, List.take_set, P9.out]
      rw [cells38_set, ready_set l0 i x hi]
    replace PA := Aside0.mk PA
    clear P9
    generalize (((((cur.setIfInBounds (i * 6) (.int .i64 x.f0)).setIfInBounds (i * 6 + 1) (.int .i64 x.f1)).setIfInBounds (i * 6 + 2) (.bool x.f2)).setIfInBounds (i * 6 + 3) (.bool x.f3)).setIfInBounds (i * 6 + 4) (.int .i64 x.f4)).setIfInBounds (i * 6 + 5) (.int .i64 x.f5) = cur2 at DA PA
    have ht0 := (blk_cell TA.out 0).trans (show _ = some (Value.slice (some ⟨ge, 0, none⟩) (placed l0 i x).length cap) from rfl)
    obtain ⟨ad2, ea, y0, y1, y2, y3, y4, y5⟩ := at_T38 (C_of_prefix k38 (cells38_reps wa (placed l0 i x)) (HM.out x) DA.out PA.out) (i : Int) (by omega) (by omega)
    cases ea
    simp only [Int.toNat_natCast, addr_plain, placed_at l0 i x hi] at y0 y1 y2 y3 y4 y5
    clear y0 y1 y2 y3 y5
    have g0 := blk_frozen DA.out (i * 6 + 4)
    go_wp2_with fail
    rw [rounds_succ]
    go_upto_region 13 with (fail)
    have far : ∀ {g : Nat} {cs : Array Value} {t : TypeId}, wa.heap[g]? = some (.cells cs t (0, 0)) → g ≠ ge → (wa.setCell ⟨ge, i * 6 + 4, none⟩ (.int .i64 (wrap64 (x.f4 + 1)))).heap[g]? = some (.cells cs t (0, 0)) :=
      fun h hne => blk_far (p := ⟨ge, i * 6 + 4, none⟩) h hne (.int .i64 (wrap64 (x.f4 + 1)))
    have TB := Aside0.mk (far TA.out (by have := HE.out; omega))
    have RB := Aside0.mk (far RA.out (by have := HE.out; omega))
    have FB := Aside0.mk (far FA.out (by have := HE.out; omega))
    have WB := Aside0.mk (far WA.out (by have := HE.out; omega))
    have DB := Aside0.mk (blk_set DA.out (i * 6 + 4) (.int .i64 (wrap64 (x.f4 + 1))))
    have BB := Aside0.mk (below_set (g := ge) BA.out (by have := HE.out; omega) (j := i * 6 + 4) (v := .int .i64 (wrap64 (x.f4 + 1))))
    clear far TA RA FA WA DA BA ht0 y4 g0
    generalize wa.setCell ⟨ge, i * 6 + 4, none⟩ (.int .i64 (wrap64 (x.f4 + 1))) = wb at TB RB FB WB DB BB ⊢
    have PB : (cur2.setIfInBounds (i * 6 + 4) (.int .i64 (wrap64 (x.f4 + 1)))).toList.take ((placed l0 i x).length * 6) = cells38 (placed l0 i { x with f4 := wrap64 (x.f4 + 1) }) := by
      simp only [Array.toList_setIfInBounds, List.take_set, PA.out]
      rw [cells38_refs (placed l0 i x) i _ hm, placed_at l0 i x hi, placed_set l0 i x _ hi]
    replace PB := Aside0.mk PB
    clear PA
    generalize cur2.setIfInBounds (i * 6 + 4) (.int .i64 (wrap64 (x.f4 + 1))) = cur3 at DB PB
    have ht1 := (blk_cell TB.out 1).trans (show _ = some (Value.slice (some ⟨gf, 0, none⟩) n1 n1) from rfl)
    have hf7 := (blk_cell FB.out k).trans (show (cf.set k (.slice (some ⟨gr, 0, none⟩) row.length row.length)).toArray[k]? = some (.slice (some ⟨gr, 0, none⟩) row.length row.length) by
      have := (List.getElem?_eq_some_iff.1 CK.out).1
      simp [this])
    have hr7 := (blk_cell WB.out fd).trans (show (row.map (Value.int .i64)).toArray[fd]? = some (.int .i64 row[fd]) by simp [hfd])
    have q7 := blk_frozen WB.out fd
    go_upto_region 14 with (fail)
    have far : ∀ {g : Nat} {cs : Array Value} {t : TypeId}, wb.heap[g]? = some (.cells cs t (0, 0)) → g ≠ gr → (wb.setCell ⟨gr, fd, none⟩ (.int .i64 (i : Int))).heap[g]? = some (.cells cs t (0, 0)) :=
      fun h hne => blk_far (p := ⟨gr, fd, none⟩) h hne (.int .i64 (i : Int))
    have T8 := Aside0.mk (far TB.out (by have := HG.out; omega))
    have R8 := Aside0.mk (far RB.out (by have := HG.out; omega))
    have D8 := Aside0.mk (far DB.out (by have := HE.out; omega))
    have F8 := Aside0.mk (far FB.out (by have := HG.out; omega))
    have W8 := Aside0.mk (blk_set WB.out fd (.int .i64 (i : Int)))
    simp only [List.setIfInBounds_toArray] at W8
    have B8 := Aside0.mk (below_set (g := gr) BB.out (by have := HG.out; omega) (j := fd) (v := .int .i64 (i : Int)))
    clear far TB RB FB WB DB BB ht1 hf7 hr7 q7
    generalize wb.setCell ⟨gr, fd, none⟩ (.int .i64 (i : Int)) = w8 at T8 R8 D8 F8 W8 B8 ⊢
    have ht0 := (blk_cell T8.out 0).trans (show _ = some (Value.slice (some ⟨ge, 0, none⟩) (placed l0 i x).length cap) from rfl)
    have ht1 := (blk_cell T8.out 1).trans (show _ = some (Value.slice (some ⟨gf, 0, none⟩) n1 n1) from rfl)
    have hr0 := (blk_cell R8.out 0).trans (show _ = some (Value.slice none 0 0) from rfl)
    have hr1 := (blk_cell R8.out 1).trans (show _ = some (Value.slice none 0 0) from rfl)
    have q0 := blk_frozen R8.out 0
    have q1 := blk_frozen R8.out 1
    go_wp2_with fail
    have B := blk_set (blk_set R8.out 0 (.slice (some ⟨ge, 0, none⟩) (placed l0 i x).length cap)) 1 (.slice (some ⟨gf, 0, none⟩) n1 n1)
    have r0 := (blk_cell B 0).trans (show _ = some (Value.slice (some ⟨ge, 0, none⟩) (placed l0 i x).length cap) from rfl)
    have r1 := (blk_cell B 1).trans (show _ = some (Value.slice (some ⟨gf, 0, none⟩) n1 n1) from rfl)
    have far : ∀ {g : Nat} {cs : Array Value} {t : TypeId}, w8.heap[g]? = some (.cells cs t (0, 0)) → g ≠ w.heap.size + 1 → ((w8.setCell ⟨w.heap.size + 1, 0, none⟩ (.slice (some ⟨ge, 0, none⟩) (placed l0 i x).length cap)).setCell ⟨w.heap.size + 1, 1, none⟩ (.slice (some ⟨gf, 0, none⟩) n1 n1)).heap[g]? = some (.cells cs t (0, 0)) :=
      fun h hne => blk_far (p := ⟨w.heap.size + 1, 1, none⟩) (blk_far (p := ⟨w.heap.size + 1, 0, none⟩) h hne (.slice (some ⟨ge, 0, none⟩) (placed l0 i x).length cap)) hne (.slice (some ⟨gf, 0, none⟩) n1 n1)
    refine bodyPost_ret (v := .tuple #[.agg #[.slice (some ⟨ge, 0, none⟩) (placed l0 i x).length cap, .slice (some ⟨gf, 0, none⟩) n1 n1], .int .i64 fd, .int .i64 0]) (by simp [results, Try.results37, go_sem, r0, r1]) rfl ?_
    exact ⟨ge, gf, gr, cap, cur3, rfl, HE.out.2.2.2.2, by have := HE.out; omega, by have := HG.out; omega, by have := HG.out; omega, far D8.out (by have := HE.out; omega), PB.out, far F8.out (by have := HG.out; omega), by rw [List.map_set]; exact far W8.out (by have := HG.out; omega), below_set (below_set B8.out (by omega)) (by omega)⟩
end Go.Proofs.Ytkecfdljodiifaa.P
