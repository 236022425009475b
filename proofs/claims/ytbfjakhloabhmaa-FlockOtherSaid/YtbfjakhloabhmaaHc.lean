/- The contract of Holders, by hand: how many hold a node, and how; no condition. -/
import Derived.Test.YtbfjakhloabhmaaHb
namespace Go.Proofs.Ytbfjakhloabhmaa.P
open Go.RowKit Go.Proofs.YtbfjakhloabhmaaW.PrintWords Go.Proofs.YtbfjakhloabhmaaW.PrintLast Go.Proofs.YtbfjakhloabhmaaW.PrintMore

set_option maxHeartbeats 2000000 in
set_option maxRecDepth 100000 in
theorem Holders_any (A0_0 : Option Addr) (c0_0 : Nat) (l0_0 : List (S44)) (v : Value) (a1 : Int) (w : World) (hr0_0 : Kd.C k44 w A0_0 l0_0.length l0_0) (h1 : v.oneCell' = true) :
    Calls Try.prog 14 #[.agg #[.slice A0_0 l0_0.length c0_0, v], .int .i64 a1] w fun e w' => e = .returned (.tuple #[.int .i64 (holdersOf l0_0 a1 1), .int .i64 (holdersOf l0_0 a1 2)]) ∧ Below w.heap.size w w' := by
  have hu25 := Try.underlying25
  have HR := Aside0.mk hr0_0
  clear hr0_0
  go_enter Try.func14, Try.ntmps14
  go_wp2_with fail
  refine (holders_count w _ (w.heap.size + 1) (w.heap.size + 1 + 1) A0_0 c0_0 l0_0 v a1 (by omega) (by omega) (by omega) HR.out ⟨?_, ?_, ?_⟩).mono ?_
  · exact ((((Below.refl _ _).alloc (Nat.le_refl _) _).alloc (by simp) _).alloc (by simp; omega) _)
  · refine blk_alloc ?_ _
    have e := heap_alloc_new (w.alloc (.cells #[.slice A0_0 l0_0.length c0_0, v] 25)) (.cells #[.int .i64 0] 3)
    simpa [holdersOf] using e
  · have e := heap_alloc_new ((w.alloc (.cells #[.slice A0_0 l0_0.length c0_0, v] 25)).alloc (.cells #[.int .i64 0] 3)) (.cells #[.int .i64 0] 3)
    simpa [holdersOf] using e
  rintro e w1 ⟨rfl, hb, hg, hh⟩
  have HB := Aside0.mk hb
  have HG := Aside0.mk hg
  have HH := Aside0.mk hh
  rw [List.take_length] at hg hh
  have cg : w1.cell? ⟨w.heap.size + 1, 0, none⟩ = some (.int .i64 (holdersOf l0_0 a1 1)) := (blk_cell hg 0).trans rfl
  have ch : w1.cell? ⟨w.heap.size + 1 + 1, 0, none⟩ = some (.int .i64 (holdersOf l0_0 a1 2)) := (blk_cell hh 0).trans rfl
  have fg := blk_frozen hg 0
  have fh := blk_frozen hh 0
  clear hb hg hh
  go_wp2_with fail
  go_region
  go_wp2
  have B1 := blk_drew (blk_far (p := ⟨w.heap.size + 1 + 1, 0, none⟩) (blk_set HG.out 0 (.int .i64 (holdersOf l0_0 a1 1))) (by simp) (.int .i64 (holdersOf l0_0 a1 2)))
  have B2 := blk_drew (blk_set (blk_far (p := ⟨w.heap.size + 1, 0, none⟩) HH.out (by simp) (.int .i64 (holdersOf l0_0 a1 1))) 0 (.int .i64 (holdersOf l0_0 a1 2)))
  have c1 := (blk_cell B1 0).trans (show _ = some (Value.int .i64 (holdersOf l0_0 a1 1)) from rfl)
  have c2 := (blk_cell B2 0).trans (show _ = some (Value.int .i64 (holdersOf l0_0 a1 2)) from rfl)
  refine bodyPost_ret (v := .tuple #[.int .i64 (holdersOf l0_0 a1 1), .int .i64 (holdersOf l0_0 a1 2)]) (by simp [results, Try.results14, go_sem, c1, c2]) rfl ⟨rfl, ?_⟩
  exact (below_set (below_set HB.out (by omega)) (by omega)).drew
end Go.Proofs.Ytbfjakhloabhmaa.P
