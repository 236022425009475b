/- The contracts of disk.Get, by hand: a node, if there is one; the list is short enough for memory. -/
import Derived.Test.YtpeelfambaedkaaHa
namespace Go.Proofs.Ytpeelfambaedkaa.P
open Go.RowKit Go.Proofs.YtpeelfambaedkaaW.PrintWords Go.Proofs.YtpeelfambaedkaaW.PrintLast Go.Proofs.YtpeelfambaedkaaW.PrintMore

set_option maxHeartbeats 400000 in
theorem between_in (a b c : Int) (w : World) (h1 : b ≤ a) (h2 : a ≤ c) : Calls Try.prog 40 #[.int .i64 a, .int .i64 b, .int .i64 c] w fun e w' => e = .returned (.bool true) ∧ Below w.heap.size w w' := by
  have t1 : decide (b ≤ a) = true := decide_eq_true h1
  have t2 : decide (a ≤ c) = true := decide_eq_true h2
  have hB := Below.refl w.heap.size w
  clear h1 h2
  go_enter Try.func40, Try.ntmps40
  go_wp2_with fail
  go_ret
  exact ⟨rfl, hB⟩
set_option maxHeartbeats 400000 in
theorem between_out (a b c : Int) (w : World) (h : ¬ (b ≤ a ∧ a ≤ c)) : Calls Try.prog 40 #[.int .i64 a, .int .i64 b, .int .i64 c] w fun e w' => e = .returned (.bool false) ∧ Below w.heap.size w w' := by
  have hB := Below.refl w.heap.size w
  by_cases h1 : b ≤ a
  · have t1 : decide (b ≤ a) = true := decide_eq_true h1
    have t2 : decide (a ≤ c) = false := decide_eq_false (fun h2 => h ⟨h1, h2⟩)
    clear h1 h
    go_enter Try.func40, Try.ntmps40
    go_wp2_with fail
    go_ret
    exact ⟨rfl, hB⟩
  · have t1 : decide (b ≤ a) = false := decide_eq_false h1
    clear h1 h
    go_enter Try.func40, Try.ntmps40
    go_wp2_with fail
    go_ret
    exact ⟨rfl, hB⟩

-- BY mkPb.py
theorem put8 (z0 z1 z2 z3 z4 z5 z6 z7 v0 v1 v2 v3 v4 v5 v6 v7 : Value) : ((((((((#[z0, z1, z2, z3, z4, z5, z6, z7] : Array Value).setIfInBounds 0 v0).setIfInBounds 1 v1).setIfInBounds 2 v2).setIfInBounds 3 v3).setIfInBounds 4 v4).setIfInBounds 5 v5).setIfInBounds 6 v6).setIfInBounds 7 v7 = #[v0, v1, v2, v3, v4, v5, v6, v7] := by simp only [List.setIfInBounds_toArray, List.set_cons_zero, List.set_cons_succ]
set_option maxHeartbeats 1000000 in
set_option maxRecDepth 100000 in
theorem Get_some (ad : Addr) (c0 : Nat) (l0 : List S59) (m q : Int) (i : Nat) (A7 : Option Addr) (c7 : Nat) (w : World) (hr : Kd.C k59 w (some ad) l0.length l0) (hi : i < l0.length) (h0 : (rd_T59 l0 (i : Int)).f0 ≠ 0)
    (h7 : w.cell? ⟨(ad.add (i * 8)).block, (ad.add (i * 8)).off + 7, none⟩ = some (.slice A7 (rd_T59 l0 (i : Int)).f7.length c7)) :
    Calls Try.prog 34 #[.agg #[.slice (some ad) l0.length c0, .int .i64 m, .int .i64 q], .int .i64 i] w fun e w' => e = .returned (.tuple #[.agg #[.int .i64 (rd_T59 l0 (i : Int)).f0, .int .i64 (rd_T59 l0 (i : Int)).f1, .int .i64 (rd_T59 l0 (i : Int)).f2, .int .i64 (rd_T59 l0 (i : Int)).f3, .int .i64 (rd_T59 l0 (i : Int)).f4, .int .i64 (rd_T59 l0 (i : Int)).f5, .string (rd_T59 l0 (i : Int)).f6, .slice A7 (rd_T59 l0 (i : Int)).f7.length c7], .bool true]) ∧ Below w.heap.size w w' := by
  have hmax : l0.length ≤ 9223372036854775807 := hr.2.1
  obtain ⟨ad', A7', c7', ea, x0, x1, x2, x3, x4, x5, x6, x7, _, _⟩ := at_T59 hr (i : Int) (by omega) (by omega)
  cases ea
  simp only [Int.toNat_natCast] at x0 x1 x2 x3 x4 x5 x6 x7
  have hq : ((rd_T59 l0 (i : Int)).f0 == 0) = false := beq_eq_false_iff_ne.2 h0
  have XX := Aside0.mk (And.intro x0 (And.intro x1 (And.intro x2 (And.intro x3 (And.intro x4 (And.intro x5 (And.intro x6 h7)))))))
  clear hr h0 x0 x1 x2 x3 x4 x5 x6 x7 h7
  have hu24 := Try.underlying24
  have hu59 := Try.underlying59
  have hB := Aside0.mk (below_alloc (below_alloc (Below.refl w.heap.size w) (.cells #[.slice (some ad) l0.length c0, .int .i64 m, .int .i64 q] 24)) (.cells #[.int .i64 0, .int .i64 0, .int .i64 0, .int .i64 0, .int .i64 0, .int .i64 0, .string ⟨#[]⟩, .slice none 0 0] 59))
  have hT := Aside0.mk (show ((w.alloc (.cells #[.slice (some ad) l0.length c0, .int .i64 m, .int .i64 q] 24)).alloc (.cells #[.int .i64 0, .int .i64 0, .int .i64 0, .int .i64 0, .int .i64 0, .int .i64 0, .string ⟨#[]⟩, .slice none 0 0] 59)).heap[w.heap.size]? = some (.cells #[.slice (some ad) l0.length c0, .int .i64 m, .int .i64 q] 24 (0, 0)) from blk_alloc (blk_new w _) _)
  have hN := Aside0.mk (show ((w.alloc (.cells #[.slice (some ad) l0.length c0, .int .i64 m, .int .i64 q] 24)).alloc (.cells #[.int .i64 0, .int .i64 0, .int .i64 0, .int .i64 0, .int .i64 0, .int .i64 0, .string ⟨#[]⟩, .slice none 0 0] 59)).heap[w.heap.size + 1]? = some (.cells #[.int .i64 0, .int .i64 0, .int .i64 0, .int .i64 0, .int .i64 0, .int .i64 0, .string ⟨#[]⟩, .slice none 0 0] 59 (0, 0)) from by simpa using blk_new (w.alloc (.cells #[.slice (some ad) l0.length c0, .int .i64 m, .int .i64 q] 24)) (.cells #[.int .i64 0, .int .i64 0, .int .i64 0, .int .i64 0, .int .i64 0, .int .i64 0, .string ⟨#[]⟩, .slice none 0 0] 59))
  go_enter Try.func34, Try.ntmps34
  go_upto_region 1 with (fail)
  generalize ((w.alloc (.cells #[.slice (some ad) l0.length c0, .int .i64 m, .int .i64 q] 24)).alloc (.cells #[.int .i64 0, .int .i64 0, .int .i64 0, .int .i64 0, .int .i64 0, .int .i64 0, .string ⟨#[]⟩, .slice none 0 0] 59)) = w2 at hB hT hN ⊢
  have t0 := (blk_cell hT.out 0).trans (show _ = some (Value.slice (some ad) l0.length c0) from rfl)
  go_upto_region 3 with (first
    | (go_at_call 40; refine (between_in _ _ _ _ (by omega) (by omega)).mono ?_; rintro e w3 ⟨rfl, hb⟩;
        have T3 := Aside0.mk (blk_below hT.out hb); have N3 := Aside0.mk (blk_below hN.out hb); have B3 := Aside0.mk (below_step hB.out hb);
        have t1 := (blk_cell T3.out 0).trans (show _ = some (Value.slice (some ad) l0.length c0) from rfl); have x0 := pw_cell_below B3.out XX.out.1))
  have x1 := pw_cell_below B3.out XX.out.2.1
  have x2 := pw_cell_below B3.out XX.out.2.2.1
  have x3 := pw_cell_below B3.out XX.out.2.2.2.1
  have x4 := pw_cell_below B3.out XX.out.2.2.2.2.1
  have x5 := pw_cell_below B3.out XX.out.2.2.2.2.2.1
  have x6 := pw_cell_below B3.out XX.out.2.2.2.2.2.2.1
  have x7 := pw_cell_below B3.out XX.out.2.2.2.2.2.2.2
  have qf := fun j => blk_frozen N3.out j
  have z0 := (blk_cell N3.out 0).trans (show _ = some (Value.int .i64 0) from rfl)
  have z1 := (blk_cell N3.out 1).trans (show _ = some (Value.int .i64 0) from rfl)
  have z2 := (blk_cell N3.out 2).trans (show _ = some (Value.int .i64 0) from rfl)
  have z3 := (blk_cell N3.out 3).trans (show _ = some (Value.int .i64 0) from rfl)
  have z4 := (blk_cell N3.out 4).trans (show _ = some (Value.int .i64 0) from rfl)
  have z5 := (blk_cell N3.out 5).trans (show _ = some (Value.int .i64 0) from rfl)
  have z6 := (blk_cell N3.out 6).trans (show _ = some (Value.string ⟨#[]⟩) from rfl)
  have z7 := (blk_cell N3.out 7).trans (show _ = some (Value.slice none 0 0) from rfl)
  go_wp2_with fail
  have B := (blk_set (blk_set (blk_set (blk_set (blk_set (blk_set (blk_set (blk_set N3.out 0 (.int .i64 (rd_T59 l0 (i : Int)).f0)) 1 (.int .i64 (rd_T59 l0 (i : Int)).f1)) 2 (.int .i64 (rd_T59 l0 (i : Int)).f2)) 3 (.int .i64 (rd_T59 l0 (i : Int)).f3)) 4 (.int .i64 (rd_T59 l0 (i : Int)).f4)) 5 (.int .i64 (rd_T59 l0 (i : Int)).f5)) 6 (.string (rd_T59 l0 (i : Int)).f6)) 7 (.slice A7 (rd_T59 l0 (i : Int)).f7.length c7))
  rw [put8] at B
  have r0 := (blk_cell B 0).trans (show _ = some (Value.int .i64 (rd_T59 l0 (i : Int)).f0) from rfl)
  have r1 := (blk_cell B 1).trans (show _ = some (Value.int .i64 (rd_T59 l0 (i : Int)).f1) from rfl)
  have r2 := (blk_cell B 2).trans (show _ = some (Value.int .i64 (rd_T59 l0 (i : Int)).f2) from rfl)
  have r3 := (blk_cell B 3).trans (show _ = some (Value.int .i64 (rd_T59 l0 (i : Int)).f3) from rfl)
  have r4 := (blk_cell B 4).trans (show _ = some (Value.int .i64 (rd_T59 l0 (i : Int)).f4) from rfl)
  have r5 := (blk_cell B 5).trans (show _ = some (Value.int .i64 (rd_T59 l0 (i : Int)).f5) from rfl)
  have r6 := (blk_cell B 6).trans (show _ = some (Value.string (rd_T59 l0 (i : Int)).f6) from rfl)
  have r7 := (blk_cell B 7).trans (show _ = some (Value.slice A7 (rd_T59 l0 (i : Int)).f7.length c7) from rfl)
  refine bodyPost_ret (v := .tuple #[.agg #[.int .i64 (rd_T59 l0 (i : Int)).f0, .int .i64 (rd_T59 l0 (i : Int)).f1, .int .i64 (rd_T59 l0 (i : Int)).f2, .int .i64 (rd_T59 l0 (i : Int)).f3, .int .i64 (rd_T59 l0 (i : Int)).f4, .int .i64 (rd_T59 l0 (i : Int)).f5, .string (rd_T59 l0 (i : Int)).f6, .slice A7 (rd_T59 l0 (i : Int)).f7.length c7], .bool true]) (by simp [results, Try.results34, go_sem, r0, r1, r2, r3, r4, r5, r6, r7]) rfl ?_
  exact ⟨rfl, (below_set (g := w.heap.size + 1) (below_set (g := w.heap.size + 1) (below_set (g := w.heap.size + 1) (below_set (g := w.heap.size + 1) (below_set (g := w.heap.size + 1) (below_set (g := w.heap.size + 1) (below_set (g := w.heap.size + 1) (below_set (g := w.heap.size + 1) B3.out (by omega) (j := 0) (v := .int .i64 (rd_T59 l0 (i : Int)).f0)) (by omega) (j := 1) (v := .int .i64 (rd_T59 l0 (i : Int)).f1)) (by omega) (j := 2) (v := .int .i64 (rd_T59 l0 (i : Int)).f2)) (by omega) (j := 3) (v := .int .i64 (rd_T59 l0 (i : Int)).f3)) (by omega) (j := 4) (v := .int .i64 (rd_T59 l0 (i : Int)).f4)) (by omega) (j := 5) (v := .int .i64 (rd_T59 l0 (i : Int)).f5)) (by omega) (j := 6) (v := .string (rd_T59 l0 (i : Int)).f6)) (by omega) (j := 7) (v := .slice A7 (rd_T59 l0 (i : Int)).f7.length c7))⟩

set_option maxHeartbeats 1000000 in
set_option maxRecDepth 100000 in
theorem Get_out (A0 : Option Addr) (c0 : Nat) (l0 : List S59) (m q : Int) (i : Int) (w : World) (hmax : l0.length ≤ 9223372036854775807) (hi : ¬ (0 ≤ i ∧ i < (l0.length : Int))) :
    Calls Try.prog 34 #[.agg #[.slice A0 l0.length c0, .int .i64 m, .int .i64 q], .int .i64 i] w fun e w' => e = .returned (.tuple #[.agg #[.int .i64 0, .int .i64 0, .int .i64 0, .int .i64 0, .int .i64 0, .int .i64 0, .string ⟨#[]⟩, .slice none 0 0], .bool false]) ∧ Below w.heap.size w w' := by
  have hu24 := Try.underlying24
  have hu59 := Try.underlying59
  have hB := Aside0.mk (below_alloc (below_alloc (Below.refl w.heap.size w) (.cells #[.slice A0 l0.length c0, .int .i64 m, .int .i64 q] 24)) (.cells #[.int .i64 0, .int .i64 0, .int .i64 0, .int .i64 0, .int .i64 0, .int .i64 0, .string ⟨#[]⟩, .slice none 0 0] 59))
  have hT := Aside0.mk (show ((w.alloc (.cells #[.slice A0 l0.length c0, .int .i64 m, .int .i64 q] 24)).alloc (.cells #[.int .i64 0, .int .i64 0, .int .i64 0, .int .i64 0, .int .i64 0, .int .i64 0, .string ⟨#[]⟩, .slice none 0 0] 59)).heap[w.heap.size]? = some (.cells #[.slice A0 l0.length c0, .int .i64 m, .int .i64 q] 24 (0, 0)) from blk_alloc (blk_new w _) _)
  have hN := Aside0.mk (show ((w.alloc (.cells #[.slice A0 l0.length c0, .int .i64 m, .int .i64 q] 24)).alloc (.cells #[.int .i64 0, .int .i64 0, .int .i64 0, .int .i64 0, .int .i64 0, .int .i64 0, .string ⟨#[]⟩, .slice none 0 0] 59)).heap[w.heap.size + 1]? = some (.cells #[.int .i64 0, .int .i64 0, .int .i64 0, .int .i64 0, .int .i64 0, .int .i64 0, .string ⟨#[]⟩, .slice none 0 0] 59 (0, 0)) from by simpa using blk_new (w.alloc (.cells #[.slice A0 l0.length c0, .int .i64 m, .int .i64 q] 24)) (.cells #[.int .i64 0, .int .i64 0, .int .i64 0, .int .i64 0, .int .i64 0, .int .i64 0, .string ⟨#[]⟩, .slice none 0 0] 59))
  have HI := Aside0.mk hi
  clear hi
  go_enter Try.func34, Try.ntmps34
  go_upto_region 1 with (fail)
  generalize ((w.alloc (.cells #[.slice A0 l0.length c0, .int .i64 m, .int .i64 q] 24)).alloc (.cells #[.int .i64 0, .int .i64 0, .int .i64 0, .int .i64 0, .int .i64 0, .int .i64 0, .string ⟨#[]⟩, .slice none 0 0] 59)) = w2 at hB hT hN ⊢
  have t0 := (blk_cell hT.out 0).trans (show _ = some (Value.slice A0 l0.length c0) from rfl)
  go_upto_region 2 with (first
    | (go_at_call 40; refine (between_out _ _ _ _ (by have := HI.out; omega)).mono ?_; rintro e w3 ⟨rfl, hb⟩;
        have T3 := Aside0.mk (blk_below hT.out hb); have N3 := Aside0.mk (blk_below hN.out hb); have B3 := Aside0.mk (below_step hB.out hb);
        have t1 := (blk_cell T3.out 0).trans (show _ = some (Value.slice A0 l0.length c0) from rfl)))
  have qf := fun j => blk_frozen N3.out j
  have z0 := (blk_cell N3.out 0).trans (show _ = some (Value.int .i64 0) from rfl)
  have z1 := (blk_cell N3.out 1).trans (show _ = some (Value.int .i64 0) from rfl)
  have z2 := (blk_cell N3.out 2).trans (show _ = some (Value.int .i64 0) from rfl)
  have z3 := (blk_cell N3.out 3).trans (show _ = some (Value.int .i64 0) from rfl)
  have z4 := (blk_cell N3.out 4).trans (show _ = some (Value.int .i64 0) from rfl)
  have z5 := (blk_cell N3.out 5).trans (show _ = some (Value.int .i64 0) from rfl)
  have z6 := (blk_cell N3.out 6).trans (show _ = some (Value.string ⟨#[]⟩) from rfl)
  have z7 := (blk_cell N3.out 7).trans (show _ = some (Value.slice none 0 0) from rfl)
  go_wp2_with fail
  have B := (blk_set (blk_set (blk_set (blk_set (blk_set (blk_set (blk_set (blk_set N3.out 0 (.int .i64 0)) 1 (.int .i64 0)) 2 (.int .i64 0)) 3 (.int .i64 0)) 4 (.int .i64 0)) 5 (.int .i64 0)) 6 (.string ⟨#[]⟩)) 7 (.slice none 0 0))
  rw [put8] at B
  have r0 := (blk_cell B 0).trans (show _ = some (Value.int .i64 0) from rfl)
  have r1 := (blk_cell B 1).trans (show _ = some (Value.int .i64 0) from rfl)
  have r2 := (blk_cell B 2).trans (show _ = some (Value.int .i64 0) from rfl)
  have r3 := (blk_cell B 3).trans (show _ = some (Value.int .i64 0) from rfl)
  have r4 := (blk_cell B 4).trans (show _ = some (Value.int .i64 0) from rfl)
  have r5 := (blk_cell B 5).trans (show _ = some (Value.int .i64 0) from rfl)
  have r6 := (blk_cell B 6).trans (show _ = some (Value.string ⟨#[]⟩) from rfl)
  have r7 := (blk_cell B 7).trans (show _ = some (Value.slice none 0 0) from rfl)
  refine bodyPost_ret (v := .tuple #[.agg #[.int .i64 0, .int .i64 0, .int .i64 0, .int .i64 0, .int .i64 0, .int .i64 0, .string ⟨#[]⟩, .slice none 0 0], .bool false]) (by simp [results, Try.results34, go_sem, r0, r1, r2, r3, r4, r5, r6, r7]) rfl ?_
  exact ⟨rfl, (below_set (g := w.heap.size + 1) (below_set (g := w.heap.size + 1) (below_set (g := w.heap.size + 1) (below_set (g := w.heap.size + 1) (below_set (g := w.heap.size + 1) (below_set (g := w.heap.size + 1) (below_set (g := w.heap.size + 1) (below_set (g := w.heap.size + 1) B3.out (by omega) (j := 0) (v := .int .i64 0)) (by omega) (j := 1) (v := .int .i64 0)) (by omega) (j := 2) (v := .int .i64 0)) (by omega) (j := 3) (v := .int .i64 0)) (by omega) (j := 4) (v := .int .i64 0)) (by omega) (j := 5) (v := .int .i64 0)) (by omega) (j := 6) (v := .string ⟨#[]⟩)) (by omega) (j := 7) (v := .slice none 0 0))⟩


set_option maxHeartbeats 1000000 in
set_option maxRecDepth 100000 in
theorem Get_free (A0 : Option Addr) (c0 : Nat) (l0 : List S59) (m q : Int) (i : Nat) (w : World) (hmax : l0.length ≤ 9223372036854775807) (hr : Kd.C k59 w A0 l0.length l0) (hi : i < l0.length) (h0 : (rd_T59 l0 (i : Int)).f0 = 0) :
    Calls Try.prog 34 #[.agg #[.slice A0 l0.length c0, .int .i64 m, .int .i64 q], .int .i64 i] w fun e w' => e = .returned (.tuple #[.agg #[.int .i64 0, .int .i64 0, .int .i64 0, .int .i64 0, .int .i64 0, .int .i64 0, .string ⟨#[]⟩, .slice none 0 0], .bool false]) ∧ Below w.heap.size w w' := by
  obtain ⟨ad, A7', c7', rfl, x0, _, _, _, _, _, _, _, _, _⟩ := at_T59 hr (i : Int) (by omega) (by omega)
  simp only [Int.toNat_natCast] at x0
  have hq : ((rd_T59 l0 (i : Int)).f0 == 0) = true := beq_iff_eq.2 h0
  have XX := Aside0.mk x0
  clear hr h0 x0
  have hu24 := Try.underlying24
  have hu59 := Try.underlying59
  have hB := Aside0.mk (below_alloc (below_alloc (Below.refl w.heap.size w) (.cells #[.slice (some ad) l0.length c0, .int .i64 m, .int .i64 q] 24)) (.cells #[.int .i64 0, .int .i64 0, .int .i64 0, .int .i64 0, .int .i64 0, .int .i64 0, .string ⟨#[]⟩, .slice none 0 0] 59))
  have hT := Aside0.mk (show ((w.alloc (.cells #[.slice (some ad) l0.length c0, .int .i64 m, .int .i64 q] 24)).alloc (.cells #[.int .i64 0, .int .i64 0, .int .i64 0, .int .i64 0, .int .i64 0, .int .i64 0, .string ⟨#[]⟩, .slice none 0 0] 59)).heap[w.heap.size]? = some (.cells #[.slice (some ad) l0.length c0, .int .i64 m, .int .i64 q] 24 (0, 0)) from blk_alloc (blk_new w _) _)
  have hN := Aside0.mk (show ((w.alloc (.cells #[.slice (some ad) l0.length c0, .int .i64 m, .int .i64 q] 24)).alloc (.cells #[.int .i64 0, .int .i64 0, .int .i64 0, .int .i64 0, .int .i64 0, .int .i64 0, .string ⟨#[]⟩, .slice none 0 0] 59)).heap[w.heap.size + 1]? = some (.cells #[.int .i64 0, .int .i64 0, .int .i64 0, .int .i64 0, .int .i64 0, .int .i64 0, .string ⟨#[]⟩, .slice none 0 0] 59 (0, 0)) from by simpa using blk_new (w.alloc (.cells #[.slice (some ad) l0.length c0, .int .i64 m, .int .i64 q] 24)) (.cells #[.int .i64 0, .int .i64 0, .int .i64 0, .int .i64 0, .int .i64 0, .int .i64 0, .string ⟨#[]⟩, .slice none 0 0] 59))
  go_enter Try.func34, Try.ntmps34
  go_upto_region 1 with (fail)
  generalize ((w.alloc (.cells #[.slice (some ad) l0.length c0, .int .i64 m, .int .i64 q] 24)).alloc (.cells #[.int .i64 0, .int .i64 0, .int .i64 0, .int .i64 0, .int .i64 0, .int .i64 0, .string ⟨#[]⟩, .slice none 0 0] 59)) = w2 at hB hT hN ⊢
  have t0 := (blk_cell hT.out 0).trans (show _ = some (Value.slice (some ad) l0.length c0) from rfl)
  go_upto_region 2 with (first
    | (go_at_call 40; refine (between_in _ _ _ _ (by omega) (by omega)).mono ?_; rintro e w3 ⟨rfl, hb⟩;
        have T3 := Aside0.mk (blk_below hT.out hb); have N3 := Aside0.mk (blk_below hN.out hb); have B3 := Aside0.mk (below_step hB.out hb);
        have t1 := (blk_cell T3.out 0).trans (show _ = some (Value.slice (some ad) l0.length c0) from rfl); have x0 := pw_cell_below B3.out XX.out))
  have qf := fun j => blk_frozen N3.out j
  have z0 := (blk_cell N3.out 0).trans (show _ = some (Value.int .i64 0) from rfl)
  have z1 := (blk_cell N3.out 1).trans (show _ = some (Value.int .i64 0) from rfl)
  have z2 := (blk_cell N3.out 2).trans (show _ = some (Value.int .i64 0) from rfl)
  have z3 := (blk_cell N3.out 3).trans (show _ = some (Value.int .i64 0) from rfl)
  have z4 := (blk_cell N3.out 4).trans (show _ = some (Value.int .i64 0) from rfl)
  have z5 := (blk_cell N3.out 5).trans (show _ = some (Value.int .i64 0) from rfl)
  have z6 := (blk_cell N3.out 6).trans (show _ = some (Value.string ⟨#[]⟩) from rfl)
  have z7 := (blk_cell N3.out 7).trans (show _ = some (Value.slice none 0 0) from rfl)
  go_wp2_with fail
  have B := (blk_set (blk_set (blk_set (blk_set (blk_set (blk_set (blk_set (blk_set N3.out 0 (.int .i64 0)) 1 (.int .i64 0)) 2 (.int .i64 0)) 3 (.int .i64 0)) 4 (.int .i64 0)) 5 (.int .i64 0)) 6 (.string ⟨#[]⟩)) 7 (.slice none 0 0))
  rw [put8] at B
  have r0 := (blk_cell B 0).trans (show _ = some (Value.int .i64 0) from rfl)
  have r1 := (blk_cell B 1).trans (show _ = some (Value.int .i64 0) from rfl)
  have r2 := (blk_cell B 2).trans (show _ = some (Value.int .i64 0) from rfl)
  have r3 := (blk_cell B 3).trans (show _ = some (Value.int .i64 0) from rfl)
  have r4 := (blk_cell B 4).trans (show _ = some (Value.int .i64 0) from rfl)
  have r5 := (blk_cell B 5).trans (show _ = some (Value.int .i64 0) from rfl)
  have r6 := (blk_cell B 6).trans (show _ = some (Value.string ⟨#[]⟩) from rfl)
  have r7 := (blk_cell B 7).trans (show _ = some (Value.slice none 0 0) from rfl)
  refine bodyPost_ret (v := .tuple #[.agg #[.int .i64 0, .int .i64 0, .int .i64 0, .int .i64 0, .int .i64 0, .int .i64 0, .string ⟨#[]⟩, .slice none 0 0], .bool false]) (by simp [results, Try.results34, go_sem, r0, r1, r2, r3, r4, r5, r6, r7]) rfl ?_
  exact ⟨rfl, (below_set (g := w.heap.size + 1) (below_set (g := w.heap.size + 1) (below_set (g := w.heap.size + 1) (below_set (g := w.heap.size + 1) (below_set (g := w.heap.size + 1) (below_set (g := w.heap.size + 1) (below_set (g := w.heap.size + 1) (below_set (g := w.heap.size + 1) B3.out (by omega) (j := 0) (v := .int .i64 0)) (by omega) (j := 1) (v := .int .i64 0)) (by omega) (j := 2) (v := .int .i64 0)) (by omega) (j := 3) (v := .int .i64 0)) (by omega) (j := 4) (v := .int .i64 0)) (by omega) (j := 5) (v := .int .i64 0)) (by omega) (j := 6) (v := .string ⟨#[]⟩)) (by omega) (j := 7) (v := .slice none 0 0))⟩


/-- A node's names, of a list that came in: they lie in what the list leads to. -/
theorem names_F {base : Nat} {w : World} {ok : Nat → Prop} {ad : Addr} {c0 : Nat} {l0 : List S59} (h : Kd.V k59 59 w base ok (.slice (some ad) l0.length c0) l0) (i : Nat) (hi : i < l0.length) : ∃ (A7 : Option Addr) (c7 : Nat),
    w.cell? ⟨(ad.add (i * 8)).block, (ad.add (i * 8)).off + 7, none⟩ = some (.slice A7 (rd_T59 l0 (i : Int)).f7.length c7) ∧ (rd_T59 l0 (i : Int)).f7.length ≤ c7 ∧ Kd.F k76 w ok A7 (rd_T59 l0 (i : Int)).f7.length (rd_T59 l0 (i : Int)).f7 := by
  have hF := Kd.V_F h
  obtain ⟨ad', A7, c7, ea, _, _, _, _, _, _, _, x7, hc, _⟩ := at_T59 (Kd.F_now hF) (i : Int) (by omega) (by omega)
  cases ea
  simp only [Int.toNat_natCast] at x7
  refine ⟨A7, c7, x7, hc, fun W hW => ?_⟩
  obtain ⟨ad'', A7', c7', eb, _, _, _, _, _, _, _, y7, _, hC⟩ := at_T59 (hF W hW) (i : Int) (by omega) (by omega)
  cases eb
  simp only [Int.toNat_natCast] at y7
  have hin : ok ad.block := Kd.F_in hF rfl (by omega) (by decide)
  have hlt : ad.block < w.heap.size := Kd.C_lt (Kd.F_now hF) (by omega) (by decide)
  have e : W.cell? ⟨(ad.add (i * 8)).block, (ad.add (i * 8)).off + 7, none⟩ = w.cell? ⟨(ad.add (i * 8)).block, (ad.add (i * 8)).off + 7, none⟩ := World.cell?_of_block (by simp only [add_block]; exact hW _ hin hlt)
  rw [y7, x7] at e
  simp only [Option.some.injEq, Value.slice.injEq] at e
  obtain ⟨rfl, _, _⟩ := e
  exact hC
end Go.Proofs.Ytpeelfambaedkaa.P
