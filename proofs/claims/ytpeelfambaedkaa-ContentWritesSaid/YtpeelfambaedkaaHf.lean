/- The contracts of content.file at a file, and of the two functions that turned is given, by hand. -/
import Derived.Test.YtpeelfambaedkaaHe
namespace Go.Proofs.Ytpeelfambaedkaa.P
open Go.RowKit Go.Proofs.YtpeelfambaedkaaW.PrintWords Go.Proofs.YtpeelfambaedkaaW.PrintLast Go.Proofs.YtpeelfambaedkaaW.PrintMore

-- BY mkPf.py
set_option maxHeartbeats 1000000 in
set_option maxRecDepth 100000 in
theorem File_at (ad : Addr) (c0 : Nat) (l0 : List S59) (m q : Int) (i : Nat) (A7 : Option Addr) (c7 : Nat) (w : World) (hr : Kd.C k59 w (some ad) l0.length l0) (hi : i < l0.length) (h0 : (rd_T59 l0 (i : Int)).f0 = 1)
    (h7 : w.cell? ⟨(ad.add (i * 8)).block, (ad.add (i * 8)).off + 7, none⟩ = some (.slice A7 (rd_T59 l0 (i : Int)).f7.length c7)) :
    Calls Try.prog 24 #[.agg #[.slice (some ad) l0.length c0, .int .i64 m, .int .i64 q], .int .i64 i] w fun e w' => e = .returned (.tuple #[.agg #[.int .i64 (rd_T59 l0 (i : Int)).f0, .int .i64 (rd_T59 l0 (i : Int)).f1, .int .i64 (rd_T59 l0 (i : Int)).f2, .int .i64 (rd_T59 l0 (i : Int)).f3, .int .i64 (rd_T59 l0 (i : Int)).f4, .int .i64 (rd_T59 l0 (i : Int)).f5, .string (rd_T59 l0 (i : Int)).f6, .slice A7 (rd_T59 l0 (i : Int)).f7.length c7], .int .i64 0]) ∧ Below w.heap.size w w' := by
  have hu24 := Try.underlying24
  have hu59 := Try.underlying59
  have hq : ((rd_T59 l0 (i : Int)).f0 == 1) = true := beq_iff_eq.2 h0
  have hB := Aside0.mk (below_alloc (below_alloc (Below.refl w.heap.size w) (.cells #[.slice (some ad) l0.length c0, .int .i64 m, .int .i64 q] 24)) (.cells #[.int .i64 0, .int .i64 0, .int .i64 0, .int .i64 0, .int .i64 0, .int .i64 0, .string ⟨#[]⟩, .slice none 0 0] 59))
  have hT := Aside0.mk (show ((w.alloc (.cells #[.slice (some ad) l0.length c0, .int .i64 m, .int .i64 q] 24)).alloc (.cells #[.int .i64 0, .int .i64 0, .int .i64 0, .int .i64 0, .int .i64 0, .int .i64 0, .string ⟨#[]⟩, .slice none 0 0] 59)).heap[w.heap.size]? = some (.cells #[.slice (some ad) l0.length c0, .int .i64 m, .int .i64 q] 24 (0, 0)) from blk_alloc (blk_new w _) _)
  have hN := Aside0.mk (show ((w.alloc (.cells #[.slice (some ad) l0.length c0, .int .i64 m, .int .i64 q] 24)).alloc (.cells #[.int .i64 0, .int .i64 0, .int .i64 0, .int .i64 0, .int .i64 0, .int .i64 0, .string ⟨#[]⟩, .slice none 0 0] 59)).heap[w.heap.size + 1]? = some (.cells #[.int .i64 0, .int .i64 0, .int .i64 0, .int .i64 0, .int .i64 0, .int .i64 0, .string ⟨#[]⟩, .slice none 0 0] 59 (0, 0)) from by simpa using blk_new (w.alloc (.cells #[.slice (some ad) l0.length c0, .int .i64 m, .int .i64 q] 24)) (.cells #[.int .i64 0, .int .i64 0, .int .i64 0, .int .i64 0, .int .i64 0, .int .i64 0, .string ⟨#[]⟩, .slice none 0 0] 59))
  have HR := Aside0.mk (Kd.C_below hr hB.out)
  have H7 := Aside0.mk (pw_cell_below hB.out h7)
  have H0 := Aside0.mk (show (rd_T59 l0 (i : Int)).f0 ≠ 0 by omega)
  clear hr h7 h0
  go_enter Try.func24, Try.ntmps24
  go_upto_region 1 with (fail)
  generalize ((w.alloc (.cells #[.slice (some ad) l0.length c0, .int .i64 m, .int .i64 q] 24)).alloc (.cells #[.int .i64 0, .int .i64 0, .int .i64 0, .int .i64 0, .int .i64 0, .int .i64 0, .string ⟨#[]⟩, .slice none 0 0] 59)) = w2 at hB hT hN HR H7 ⊢
  have t0 := (blk_cell hT.out 0).trans (show _ = some (Value.slice (some ad) l0.length c0) from rfl)
  have t1 := (blk_cell hT.out 1).trans (show _ = some (Value.int .i64 m) from rfl)
  have t2 := (blk_cell hT.out 2).trans (show _ = some (Value.int .i64 q) from rfl)
  go_upto_region 2 with (first
    | (go_at_call 34; refine (Get_some ad c0 l0 m q i A7 c7 _ HR.out hi H0.out H7.out).mono ?_; rintro e w3 ⟨rfl, hb⟩;
        have N3 := Aside0.mk (blk_below hN.out hb); have B3 := Aside0.mk (below_step hB.out hb);
        have qf := fun j => blk_frozen N3.out j;
        have z0 := (blk_cell N3.out 0).trans (show _ = some (Value.int .i64 0) from rfl);
        have z1 := (blk_cell N3.out 1).trans (show _ = some (Value.int .i64 0) from rfl);
        have z2 := (blk_cell N3.out 2).trans (show _ = some (Value.int .i64 0) from rfl);
        have z3 := (blk_cell N3.out 3).trans (show _ = some (Value.int .i64 0) from rfl);
        have z4 := (blk_cell N3.out 4).trans (show _ = some (Value.int .i64 0) from rfl);
        have z5 := (blk_cell N3.out 5).trans (show _ = some (Value.int .i64 0) from rfl);
        have z6 := (blk_cell N3.out 6).trans (show _ = some (Value.string ⟨#[]⟩) from rfl);
        have z7 := (blk_cell N3.out 7).trans (show _ = some (Value.slice none 0 0) from rfl)))
  have B := blk_set (blk_set (blk_set (blk_set (blk_set (blk_set (blk_set (blk_set N3.out 0 (.int .i64 (rd_T59 l0 (i : Int)).f0)) 1 (.int .i64 (rd_T59 l0 (i : Int)).f1)) 2 (.int .i64 (rd_T59 l0 (i : Int)).f2)) 3 (.int .i64 (rd_T59 l0 (i : Int)).f3)) 4 (.int .i64 (rd_T59 l0 (i : Int)).f4)) 5 (.int .i64 (rd_T59 l0 (i : Int)).f5)) 6 (.string (rd_T59 l0 (i : Int)).f6)) 7 (.slice A7 (rd_T59 l0 (i : Int)).f7.length c7)
  rw [put8] at B
  have N4 := Aside0.mk B
  have B4 := Aside0.mk (below_set (g := w.heap.size + 1) (below_set (g := w.heap.size + 1) (below_set (g := w.heap.size + 1) (below_set (g := w.heap.size + 1) (below_set (g := w.heap.size + 1) (below_set (g := w.heap.size + 1) (below_set (g := w.heap.size + 1) (below_set (g := w.heap.size + 1) B3.out (by omega) (j := 0) (v := .int .i64 (rd_T59 l0 (i : Int)).f0)) (by omega) (j := 1) (v := .int .i64 (rd_T59 l0 (i : Int)).f1)) (by omega) (j := 2) (v := .int .i64 (rd_T59 l0 (i : Int)).f2)) (by omega) (j := 3) (v := .int .i64 (rd_T59 l0 (i : Int)).f3)) (by omega) (j := 4) (v := .int .i64 (rd_T59 l0 (i : Int)).f4)) (by omega) (j := 5) (v := .int .i64 (rd_T59 l0 (i : Int)).f5)) (by omega) (j := 6) (v := .string (rd_T59 l0 (i : Int)).f6)) (by omega) (j := 7) (v := .slice A7 (rd_T59 l0 (i : Int)).f7.length c7))
  clear B N3 B3 qf z0 z1 z2 z3 z4 z5 z6 z7 hN hT hB
  generalize ((((((((w3.setCell ⟨w.heap.size + 1, 0, none⟩ (.int .i64 (rd_T59 l0 (i : Int)).f0)).setCell ⟨w.heap.size + 1, 1, none⟩ (.int .i64 (rd_T59 l0 (i : Int)).f1)).setCell ⟨w.heap.size + 1, 2, none⟩ (.int .i64 (rd_T59 l0 (i : Int)).f2)).setCell ⟨w.heap.size + 1, 3, none⟩ (.int .i64 (rd_T59 l0 (i : Int)).f3)).setCell ⟨w.heap.size + 1, 4, none⟩ (.int .i64 (rd_T59 l0 (i : Int)).f4)).setCell ⟨w.heap.size + 1, 5, none⟩ (.int .i64 (rd_T59 l0 (i : Int)).f5)).setCell ⟨w.heap.size + 1, 6, none⟩ (.string (rd_T59 l0 (i : Int)).f6)).setCell ⟨w.heap.size + 1, 7, none⟩ (.slice A7 (rd_T59 l0 (i : Int)).f7.length c7)) = w4 at N4 B4 ⊢
  have qf := fun j => blk_frozen N4.out j
  have z0 := (blk_cell N4.out 0).trans (show _ = some (Value.int .i64 (rd_T59 l0 (i : Int)).f0) from rfl)
  have z1 := (blk_cell N4.out 1).trans (show _ = some (Value.int .i64 (rd_T59 l0 (i : Int)).f1) from rfl)
  have z2 := (blk_cell N4.out 2).trans (show _ = some (Value.int .i64 (rd_T59 l0 (i : Int)).f2) from rfl)
  have z3 := (blk_cell N4.out 3).trans (show _ = some (Value.int .i64 (rd_T59 l0 (i : Int)).f3) from rfl)
  have z4 := (blk_cell N4.out 4).trans (show _ = some (Value.int .i64 (rd_T59 l0 (i : Int)).f4) from rfl)
  have z5 := (blk_cell N4.out 5).trans (show _ = some (Value.int .i64 (rd_T59 l0 (i : Int)).f5) from rfl)
  have z6 := (blk_cell N4.out 6).trans (show _ = some (Value.string (rd_T59 l0 (i : Int)).f6) from rfl)
  have z7 := (blk_cell N4.out 7).trans (show _ = some (Value.slice A7 (rd_T59 l0 (i : Int)).f7.length c7) from rfl)
  go_wp2_with fail
  have B := blk_set (blk_set (blk_set (blk_set (blk_set (blk_set (blk_set (blk_set N4.out 0 (.int .i64 (rd_T59 l0 (i : Int)).f0)) 1 (.int .i64 (rd_T59 l0 (i : Int)).f1)) 2 (.int .i64 (rd_T59 l0 (i : Int)).f2)) 3 (.int .i64 (rd_T59 l0 (i : Int)).f3)) 4 (.int .i64 (rd_T59 l0 (i : Int)).f4)) 5 (.int .i64 (rd_T59 l0 (i : Int)).f5)) 6 (.string (rd_T59 l0 (i : Int)).f6)) 7 (.slice A7 (rd_T59 l0 (i : Int)).f7.length c7)
  rw [put8] at B
  have r0 := (blk_cell B 0).trans (show _ = some (Value.int .i64 (rd_T59 l0 (i : Int)).f0) from rfl)
  have r1 := (blk_cell B 1).trans (show _ = some (Value.int .i64 (rd_T59 l0 (i : Int)).f1) from rfl)
  have r2 := (blk_cell B 2).trans (show _ = some (Value.int .i64 (rd_T59 l0 (i : Int)).f2) from rfl)
  have r3 := (blk_cell B 3).trans (show _ = some (Value.int .i64 (rd_T59 l0 (i : Int)).f3) from rfl)
  have r4 := (blk_cell B 4).trans (show _ = some (Value.int .i64 (rd_T59 l0 (i : Int)).f4) from rfl)
  have r5 := (blk_cell B 5).trans (show _ = some (Value.int .i64 (rd_T59 l0 (i : Int)).f5) from rfl)
  have r6 := (blk_cell B 6).trans (show _ = some (Value.string (rd_T59 l0 (i : Int)).f6) from rfl)
  have r7 := (blk_cell B 7).trans (show _ = some (Value.slice A7 (rd_T59 l0 (i : Int)).f7.length c7) from rfl)
  refine bodyPost_ret (v := .tuple #[.agg #[.int .i64 (rd_T59 l0 (i : Int)).f0, .int .i64 (rd_T59 l0 (i : Int)).f1, .int .i64 (rd_T59 l0 (i : Int)).f2, .int .i64 (rd_T59 l0 (i : Int)).f3, .int .i64 (rd_T59 l0 (i : Int)).f4, .int .i64 (rd_T59 l0 (i : Int)).f5, .string (rd_T59 l0 (i : Int)).f6, .slice A7 (rd_T59 l0 (i : Int)).f7.length c7], .int .i64 0]) (by simp [results, Try.results24, go_sem, r0, r1, r2, r3, r4, r5, r6, r7]) rfl ?_
  exact ⟨rfl, below_set (g := w.heap.size + 1) (below_set (g := w.heap.size + 1) (below_set (g := w.heap.size + 1) (below_set (g := w.heap.size + 1) (below_set (g := w.heap.size + 1) (below_set (g := w.heap.size + 1) (below_set (g := w.heap.size + 1) (below_set (g := w.heap.size + 1) B4.out (by omega) (j := 0) (v := .int .i64 (rd_T59 l0 (i : Int)).f0)) (by omega) (j := 1) (v := .int .i64 (rd_T59 l0 (i : Int)).f1)) (by omega) (j := 2) (v := .int .i64 (rd_T59 l0 (i : Int)).f2)) (by omega) (j := 3) (v := .int .i64 (rd_T59 l0 (i : Int)).f3)) (by omega) (j := 4) (v := .int .i64 (rd_T59 l0 (i : Int)).f4)) (by omega) (j := 5) (v := .int .i64 (rd_T59 l0 (i : Int)).f5)) (by omega) (j := 6) (v := .string (rd_T59 l0 (i : Int)).f6)) (by omega) (j := 7) (v := .slice A7 (rd_T59 l0 (i : Int)).f7.length c7)⟩
end Go.Proofs.Ytpeelfambaedkaa.P
