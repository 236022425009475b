/- The contract of 'own' where no process is named, by hand: both lists are copied into rows of the call's own; they are short enough for memory. -/
import Derived.Test.YtkecfdljodiifaaPK
import Derived.Test.YtkecfdljodiifaaLCa
import Derived.WalkSpells
import Derived.Outline
namespace Go.Proofs.Ytkecfdljodiifaa.P
open Go.RowKit Go.Proofs.YtkecfdljodiifaaW.PrintWords Go.Proofs.YtkecfdljodiifaaW.PrintLast Go.Proofs.YtkecfdljodiifaaW.PrintMore

theorem infoD : (Try.prog.info? 38).map (fun i => (i.zero, i.size, i.bytes)) = some (some (.agg #[.int .i64 0, .int .i64 0, .bool false, .bool false, .int .i64 0, .int .i64 0]), 6, 40) := by kernel_rfl
theorem infoF : (Try.prog.info? 64).map (fun i => (i.zero, i.size, i.bytes)) = some (some (.slice none 0 0), 1, 24) := by kernel_rfl
theorem sizeD : (Try.prog.info? 38).map (·.size) = some 6 := by kernel_rfl
theorem sizeF : (Try.prog.info? 64).map (·.size) = some 1 := by kernel_rfl

set_option maxHeartbeats 400000 in
theorem row_shut (v0 v1 : Value) (w : World) : Calls Try.prog 34 #[.agg #[v0, v1], .int .i64 (-1)] w fun e w' => e = .returned (.slice none 0 0) ∧ w.alloc (.cells #[v0, v1] 25) = w' := by
  have hu25 := Try.underlying25
  go_enter Try.func34, Try.ntmps34
  go_wp2
  go_ret
  exact ⟨rfl, rfl⟩

set_option maxHeartbeats 2000000 in
set_option maxRecDepth 100000 in
theorem own_shut (A0 : Option Addr) (c0 n0 : Nat) (A1 : Option Addr) (c1 n1 : Nat) (cd cf : List Value) (w : World) (hb0 : n0 ≤ 7036874417766) (hb1 : n1 ≤ 11728124029610)
    (hd : cd.length = n0 * 6) (hf : cf.length = n1 * 1) (sd : 0 < n0 → ∃ ad, A0 = some ad ∧ ∀ j u, cd[j]? = some u → w.cell? (ad.add j) = some u) (sf : 0 < n1 → ∃ ad, A1 = some ad ∧ ∀ j u, cf[j]? = some u → w.cell? (ad.add j) = some u)
    (od : ∀ u ∈ cd, u.oneCell' = true) (of : ∀ u ∈ cf, u.oneCell' = true) :
    Calls Try.prog 38 #[.agg #[.slice A0 n0 c0, .slice A1 n1 c1], .int .i64 (-1)] w fun e w' => ∃ gd gf : Nat, e = .returned (.agg #[.slice (some ⟨gd, 0, none⟩) n0 n0, .slice (some ⟨gf, 0, none⟩) n1 n1]) ∧
      w.heap.size ≤ gd ∧ w.heap.size ≤ gf ∧ gd ≠ gf ∧ w'.heap[gd]? = some (.cells cd.toArray 38 (0, 0)) ∧ w'.heap[gf]? = some (.cells cf.toArray 64 (0, 0)) ∧ Below w.heap.size w w' := by
  have hu25 := Try.underlying25
  obtain ⟨Z0, z0, m0⟩ := make_row Try.underlying22 infoD n0 (by omega) (by omega)
  obtain ⟨Z1, z1, m1⟩ := make_row Try.underlying23 infoF n1 (by omega) (by omega)
  have HZ0 := Aside0.mk z0
  have HZ1 := Aside0.mk z1
  have HD := Aside0.mk hd
  have HF := Aside0.mk hf
  have SD := Aside0.mk sd
  have SF := Aside0.mk sf
  have OD := Aside0.mk od
  have OF := Aside0.mk of
  clear z0 z1 hd hf sd sf od of hb0 hb1
  have hnn := fun (W : World) => run_neq_slice_nil_any (P := Try.prog) W 64 3 none 0 0 0 0 Try.underlying64
  go_enter Try.func38, Try.ntmps38
  go_upto_region 1 with (fail)
  go_cut [5, 6] (fun v5 v6 wc => ∃ gd gf : Nat, v5 = .slice (some ⟨gd, 0, none⟩) n0 n0 ∧ v6 = .slice (some ⟨gf, 0, none⟩) n1 n1 ∧ Aside0 (w.heap.size + 1 < gd ∧ w.heap.size + 1 < gf ∧ gd ≠ gf ∧
    wc.heap[gd]? = some (.cells Z0 38 (0, 0)) ∧ wc.heap[gf]? = some (.cells Z1 64 (0, 0)) ∧ wc.heap[w.heap.size]? = some (.cells #[.slice A0 n0 c0, .slice A1 n1 c1] 25 (0, 0)) ∧ wc.heap[w.heap.size + 1]? = some (.cells #[.slice none 0 0, .slice none 0 0] 25 (0, 0)) ∧ Below w.heap.size w wc))
  case first =>
    go_region
    · go_wp2_with fail
      go_meet
      case rel =>
        refine ⟨_, _, rfl, rfl, ⟨by omega, by omega, by omega, ?_, ?_, ?_, ?_, ?_⟩⟩
        · refine blk_drew (blk_alloc ?_ _)
          simpa using blk_new ((w.alloc (Obj.cells #[Value.slice A0 n0 c0, Value.slice A1 n1 c1] 25)).alloc (Obj.cells #[Value.slice none 0 0, Value.slice none 0 0] 25)) (.cells Z0 38)
        · refine blk_drew ?_
          simpa using blk_new (((w.alloc (Obj.cells #[Value.slice A0 n0 c0, Value.slice A1 n1 c1] 25)).alloc (Obj.cells #[Value.slice none 0 0, Value.slice none 0 0] 25)).alloc (.cells Z0 38)) (.cells Z1 64)
        · exact blk_drew (blk_alloc (blk_alloc (blk_alloc (blk_new w _) _) _) _)
        · refine blk_drew (blk_alloc (blk_alloc ?_ _) _)
          simpa using blk_new (w.alloc (Obj.cells #[Value.slice A0 n0 c0, Value.slice A1 n1 c1] 25)) (Obj.cells #[Value.slice none 0 0, Value.slice none 0 0] 25)
        · exact (below_alloc (below_alloc (below_alloc (below_alloc (Below.refl _ _) _) _) _) _).drew
    · go_wp2_with fail
      go_meet
      case rel =>
        refine ⟨_, _, rfl, rfl, ⟨by omega, by omega, by omega, ?_, ?_, ?_, ?_, ?_⟩⟩
        · refine blk_drew ?_
          simpa using blk_new (((w.alloc (Obj.cells #[Value.slice A0 n0 c0, Value.slice A1 n1 c1] 25)).alloc (Obj.cells #[Value.slice none 0 0, Value.slice none 0 0] 25)).alloc (.cells Z1 64)) (.cells Z0 38)
        · refine blk_drew (blk_alloc ?_ _)
          simpa using blk_new ((w.alloc (Obj.cells #[Value.slice A0 n0 c0, Value.slice A1 n1 c1] 25)).alloc (Obj.cells #[Value.slice none 0 0, Value.slice none 0 0] 25)) (.cells Z1 64)
        · exact blk_drew (blk_alloc (blk_alloc (blk_alloc (blk_new w _) _) _) _)
        · refine blk_drew (blk_alloc (blk_alloc ?_ _) _)
          simpa using blk_new (w.alloc (Obj.cells #[Value.slice A0 n0 c0, Value.slice A1 n1 c1] 25)) (Obj.cells #[Value.slice none 0 0, Value.slice none 0 0] 25)
        · exact (below_alloc (below_alloc (below_alloc (below_alloc (Below.refl _ _) _) _) _) _).drew
  case rest =>
    obtain ⟨gd, gf, rfl, rfl, HC⟩ := hcut
    have x0 : wc.cell? ⟨w.heap.size, 0, none⟩ = some (.slice A0 n0 c0) := (blk_cell HC.out.2.2.2.2.2.1 0).trans rfl
    go_wp2_with (first
      | ((with_reducible refine wpList_copy_full rfl (.tmp 16) (.tmp 18) 22 22 rfl 38 6 Try.underlying22 sizeD A0 gd n0 n0 c0 rfl rfl Z0 38 ?cg HZ0.out cd HD.out ?cs OD.out ?_); (case cg => exact HC.out.2.2.2.1); (case cs => (intro hp; obtain ⟨ad, ea, hs⟩ := SD.out hp; exact ⟨ad, ea, fun j u hj => pw_cell_below HC.out.2.2.2.2.2.2.2 (hs j u hj)⟩));
          intro w2 hg2 e2; have HC2 := Aside0.mk (show w2.heap[gd]? = some (.cells cd.toArray 38 (0, 0)) ∧ w2.heap[gf]? = some (.cells Z1 64 (0, 0)) ∧ w2.heap[w.heap.size]? = some (.cells #[.slice A0 n0 c0, .slice A1 n1 c1] 25 (0, 0)) ∧ w2.heap[w.heap.size + 1]? = some (.cells #[.slice none 0 0, .slice none 0 0] 25 (0, 0)) ∧ Below w.heap.size w w2 from
            ⟨hg2, e2 ▸ setRow_blk HC.out.2.2.2.2.1 (Ne.symm HC.out.2.2.1) _, e2 ▸ setRow_blk HC.out.2.2.2.2.2.1 (by have := HC.out.1; omega) _, e2 ▸ setRow_blk HC.out.2.2.2.2.2.2.1 (by have := HC.out.1; omega) _, e2 ▸ below_setRow HC.out.2.2.2.2.2.2.2 (by have := HC.out.1; omega) _⟩); clear hg2 e2;
          have y0 : w2.cell? ⟨w.heap.size, 1, none⟩ = some (.slice A1 n1 c1) := (blk_cell HC2.out.2.2.1 1).trans rfl)
      | ((with_reducible refine wpList_copy_full rfl (.tmp 20) (.tmp 22) 23 23 rfl 64 1 Try.underlying23 sizeF A1 gf n1 n1 c1 rfl rfl Z1 64 ?cg HZ1.out cf HF.out ?cs OF.out ?_); (case cg => exact HC2.out.2.1); (case cs => (intro hp; obtain ⟨ad, ea, hs⟩ := SF.out hp; exact ⟨ad, ea, fun j u hj => pw_cell_below HC2.out.2.2.2.2 (hs j u hj)⟩));
          intro w3 hg3 e3; have HC3 := Aside0.mk (show w3.heap[gd]? = some (.cells cd.toArray 38 (0, 0)) ∧ w3.heap[gf]? = some (.cells cf.toArray 64 (0, 0)) ∧ w3.heap[w.heap.size]? = some (.cells #[.slice A0 n0 c0, .slice A1 n1 c1] 25 (0, 0)) ∧ w3.heap[w.heap.size + 1]? = some (.cells #[.slice none 0 0, .slice none 0 0] 25 (0, 0)) ∧ Below w.heap.size w w3 from
            ⟨e3 ▸ setRow_blk HC2.out.1 HC.out.2.2.1 _, hg3, e3 ▸ setRow_blk HC2.out.2.2.1 (by have := HC.out.2.1; omega) _, e3 ▸ setRow_blk HC2.out.2.2.2.1 (by have := HC.out.2.1; omega) _, e3 ▸ below_setRow HC2.out.2.2.2.2 (by have := HC.out.2.1; omega) _⟩); clear hg3 e3;
          have z0 : w3.cell? ⟨w.heap.size, 0, none⟩ = some (.slice A0 n0 c0) := (blk_cell HC3.out.2.2.1 0).trans rfl; have z1 : w3.cell? ⟨w.heap.size, 1, none⟩ = some (.slice A1 n1 c1) := (blk_cell HC3.out.2.2.1 1).trans rfl)
      | (go_at_call 34; refine (row_shut _ _ _).mono ?_; rintro e w4 ⟨rfl, rfl⟩;
          have b0 : w3.cell? ⟨w.heap.size + 1, 0, none⟩ = some (.slice none 0 0) := (blk_cell HC3.out.2.2.2.1 0).trans rfl; have b1 : w3.cell? ⟨w.heap.size + 1, 1, none⟩ = some (.slice none 0 0) := (blk_cell HC3.out.2.2.2.1 1).trans rfl;
          have q0 := blk_frozen HC3.out.2.2.2.1 0; have q1 := blk_frozen HC3.out.2.2.2.1 1; have hsz : w.heap.size + 1 < w3.heap.size := blk_lt HC3.out.2.2.2.1))
    have B := blk_alloc (blk_set (blk_set HC3.out.2.2.2.1 0 (.slice (some ⟨gd, 0, none⟩) n0 n0)) 1 (.slice (some ⟨gf, 0, none⟩) n1 n1)) (.cells #[.slice A0 n0 c0, .slice A1 n1 c1] 25)
    have r0 := (blk_cell B 0).trans (show _ = some (Value.slice (some ⟨gd, 0, none⟩) n0 n0) from rfl)
    have r1 := (blk_cell B 1).trans (show _ = some (Value.slice (some ⟨gf, 0, none⟩) n1 n1) from rfl)
    refine bodyPost_ret (v := .agg #[.slice (some ⟨gd, 0, none⟩) n0 n0, .slice (some ⟨gf, 0, none⟩) n1 n1]) (by simp [results, Try.results38, go_sem, r0, r1]) rfl ⟨gd, gf, rfl, by have := HC.out.1; omega, by have := HC.out.2.1; omega, HC.out.2.2.1, ?_, ?_, ?_⟩
    · exact blk_alloc (blk_far (p := ⟨w.heap.size + 1, 1, none⟩) (blk_far (p := ⟨w.heap.size + 1, 0, none⟩) HC3.out.1 (by have := HC.out.1; simp; omega) _) (by have := HC.out.1; simp; omega) _) _
    · exact blk_alloc (blk_far (p := ⟨w.heap.size + 1, 1, none⟩) (blk_far (p := ⟨w.heap.size + 1, 0, none⟩) HC3.out.2.1 (by have := HC.out.2.1; simp; omega) _) (by have := HC.out.2.1; simp; omega) _) _
    · exact below_alloc (below_set (below_set HC3.out.2.2.2.2 (by omega)) (by omega)) _
end Go.Proofs.Ytkecfdljodiifaa.P
