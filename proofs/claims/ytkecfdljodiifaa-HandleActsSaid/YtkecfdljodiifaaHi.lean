/- The contract of 'own' for a process that there is, by hand: both lists are copied, and its row, too; they are short enough for memory. -/
import Derived.Test.YtkecfdljodiifaaHe
namespace Go.Proofs.Ytkecfdljodiifaa.P
open Go.RowKit Go.Proofs.YtkecfdljodiifaaW.PrintWords Go.Proofs.YtkecfdljodiifaaW.PrintLast Go.Proofs.YtkecfdljodiifaaW.PrintMore

set_option maxHeartbeats 400000 in
theorem row_at (v0 : Value) (ad : Addr) (n1 c1 k : Nat) (u : Value) (w : World) (hk : k < n1) (hm : n1 ≤ 9223372036854775807) (hu : w.cell? (ad.add k) = some u) : Calls Try.prog 34 #[.agg #[v0, .slice (some ad) n1 c1], .int .i64 k] w fun e w' => e = .returned u ∧ Below w.heap.size w w' := by
  have hu25 := Try.underlying25
  have t1 : decide ((k : Int) < 0) = false := decide_eq_false (by omega)
  have t2 : decide (n1 ≤ k) = false := decide_eq_false (by omega)
  have X : (w.alloc (.cells #[v0, .slice (some ad) n1 c1] 25)).cell? (ad.add k) = some u := pw_cell_below (below_alloc (Below.refl _ _) _) hu
  have hB := below_alloc (Below.refl w.heap.size w) (.cells #[v0, .slice (some ad) n1 c1] 25)
  go_enter Try.func34, Try.ntmps34
  go_wp2_with fail
  exact bodyPost_ret (v := u) (by simp [results, Try.results34, go_sem]) rfl ⟨rfl, hB⟩
theorem infoR : (Try.prog.info? 3).map (fun i => (i.zero, i.size, i.bytes)) = some (some (.int .i64 0), 1, 8) := by kernel_rfl
theorem sizeR : (Try.prog.info? 3).map (·.size) = some 1 := by kernel_rfl
set_option maxHeartbeats 2000000 in
set_option maxRecDepth 100000 in
theorem own_at (k : Nat) (ar : Addr) (nr cr : Nat) (crow : List Value) (A0 : Option Addr) (c0 n0 : Nat) (A1 : Option Addr) (c1 n1 : Nat) (cd cf : List Value) (w : World) (hk : k < n1) (hnr : nr ≤ 1000000) (hck : cf[k]? = some (.slice (some ar) nr cr)) (hrl : crow.length = nr * 1) (sr : ∀ j u, crow[j]? = some u → w.cell? (ar.add j) = some u) (orr : ∀ u ∈ crow, u.oneCell' = true) (hb0 : n0 ≤ 7036874417766) (hb1 : n1 ≤ 11728124029610)
    (hd : cd.length = n0 * 6) (hf : cf.length = n1 * 1) (sd : 0 < n0 → ∃ ad, A0 = some ad ∧ ∀ j u, cd[j]? = some u → w.cell? (ad.add j) = some u) (sf : 0 < n1 → ∃ ad, A1 = some ad ∧ ∀ j u, cf[j]? = some u → w.cell? (ad.add j) = some u)
    (od : ∀ u ∈ cd, u.oneCell' = true) (of : ∀ u ∈ cf, u.oneCell' = true) :
    Calls Try.prog 38 #[.agg #[.slice A0 n0 c0, .slice A1 n1 c1], .int .i64 k] w fun e w' => ∃ gd gf gr : Nat, e = .returned (.agg #[.slice (some ⟨gd, 0, none⟩) n0 n0, .slice (some ⟨gf, 0, none⟩) n1 n1]) ∧
      w.heap.size ≤ gd ∧ w.heap.size ≤ gf ∧ w.heap.size ≤ gr ∧ gd ≠ gf ∧ gd ≠ gr ∧ gf ≠ gr ∧ w'.heap[gd]? = some (.cells cd.toArray 38 (0, 0)) ∧ w'.heap[gf]? = some (.cells (cf.set k (.slice (some ⟨gr, 0, none⟩) nr nr)).toArray 64 (0, 0)) ∧ w'.heap[gr]? = some (.cells crow.toArray 3 (0, 0)) ∧ Below w.heap.size w w' := by
  have hu25 := Try.underlying25
  obtain ⟨ad1, rfl, hs1⟩ := sf (by omega)
  have CU := Aside0.mk (hs1 k _ hck)
  obtain ⟨Z0, z0, m0⟩ := make_row Try.underlying22 infoD n0 (by omega) (by omega)
  obtain ⟨Z1, z1, m1⟩ := make_row Try.underlying23 infoF n1 (by omega) (by omega)
  obtain ⟨Zr, zr, mr⟩ := make_row Try.underlying64 infoR nr (by omega) (by omega)
  have HZR := Aside0.mk zr
  have HZ0 := Aside0.mk z0
  have HZ1 := Aside0.mk z1
  have HD := Aside0.mk hd
  have HF := Aside0.mk hf
  have SD := Aside0.mk sd
  have SF := Aside0.mk sf
  have OD := Aside0.mk od
  have OF := Aside0.mk of
  have SR := Aside0.mk sr
  have OR := Aside0.mk orr
  have RL := Aside0.mk hrl
  have HK := Aside0.mk hk
  have CK := Aside0.mk hck
  have B1 := Aside0.mk hb1
  clear z0 z1 zr hd hf sd sf od of sr orr hrl hck hb0 hb1
  have hnn := fun (W : World) => run_neq_slice_nil_any (P := Try.prog) W 64 3 (some ar) nr cr 0 0 Try.underlying64
  go_enter Try.func38, Try.ntmps38
  go_upto_region 1 with (fail)
  go_cut [5, 6] (fun v5 v6 wc => ∃ gd gf : Nat, v5 = .slice (some ⟨gd, 0, none⟩) n0 n0 ∧ v6 = .slice (some ⟨gf, 0, none⟩) n1 n1 ∧ Aside0 (w.heap.size + 1 < gd ∧ w.heap.size + 1 < gf ∧ gd ≠ gf ∧
    wc.heap[gd]? = some (.cells Z0 38 (0, 0)) ∧ wc.heap[gf]? = some (.cells Z1 64 (0, 0)) ∧ wc.heap[w.heap.size]? = some (.cells #[.slice A0 n0 c0, .slice (some ad1) n1 c1] 25 (0, 0)) ∧ wc.heap[w.heap.size + 1]? = some (.cells #[.slice none 0 0, .slice none 0 0] 25 (0, 0)) ∧ Below w.heap.size w wc))
  case first =>
    go_region
    · go_wp2_with fail
      go_meet
      case rel =>
        refine ⟨_, _, rfl, rfl, ⟨by omega, by omega, by omega, ?_, ?_, ?_, ?_, ?_⟩⟩
        · refine blk_drew (blk_alloc ?_ _)
          simpa using blk_new ((w.alloc (Obj.cells #[Value.slice A0 n0 c0, Value.slice (some ad1) n1 c1] 25)).alloc (Obj.cells #[Value.slice none 0 0, Value.slice none 0 0] 25)) (.cells Z0 38)
        · refine blk_drew ?_
          simpa using blk_new (((w.alloc (Obj.cells #[Value.slice A0 n0 c0, Value.slice (some ad1) n1 c1] 25)).alloc (Obj.cells #[Value.slice none 0 0, Value.slice none 0 0] 25)).alloc (.cells Z0 38)) (.cells Z1 64)
        · exact blk_drew (blk_alloc (blk_alloc (blk_alloc (blk_new w _) _) _) _)
        · refine blk_drew (blk_alloc (blk_alloc ?_ _) _)
          simpa using blk_new (w.alloc (Obj.cells #[Value.slice A0 n0 c0, Value.slice (some ad1) n1 c1] 25)) (Obj.cells #[Value.slice none 0 0, Value.slice none 0 0] 25)
        · exact (below_alloc (below_alloc (below_alloc (below_alloc (Below.refl _ _) _) _) _) _).drew
    · go_wp2_with fail
      go_meet
      case rel =>
        refine ⟨_, _, rfl, rfl, ⟨by omega, by omega, by omega, ?_, ?_, ?_, ?_, ?_⟩⟩
        · refine blk_drew ?_
          simpa using blk_new (((w.alloc (Obj.cells #[Value.slice A0 n0 c0, Value.slice (some ad1) n1 c1] 25)).alloc (Obj.cells #[Value.slice none 0 0, Value.slice none 0 0] 25)).alloc (.cells Z1 64)) (.cells Z0 38)
        · refine blk_drew (blk_alloc ?_ _)
          simpa using blk_new ((w.alloc (Obj.cells #[Value.slice A0 n0 c0, Value.slice (some ad1) n1 c1] 25)).alloc (Obj.cells #[Value.slice none 0 0, Value.slice none 0 0] 25)) (.cells Z1 64)
        · exact blk_drew (blk_alloc (blk_alloc (blk_alloc (blk_new w _) _) _) _)
        · refine blk_drew (blk_alloc (blk_alloc ?_ _) _)
          simpa using blk_new (w.alloc (Obj.cells #[Value.slice A0 n0 c0, Value.slice (some ad1) n1 c1] 25)) (Obj.cells #[Value.slice none 0 0, Value.slice none 0 0] 25)
        · exact (below_alloc (below_alloc (below_alloc (below_alloc (Below.refl _ _) _) _) _) _).drew
  case rest =>
    obtain ⟨gd, gf, rfl, rfl, HC⟩ := hcut
    have x0 : wc.cell? ⟨w.heap.size, 0, none⟩ = some (.slice A0 n0 c0) := (blk_cell HC.out.2.2.2.2.2.1 0).trans rfl
    go_upto_region 4 with (first
      | ((with_reducible refine wpList_copy_full rfl (.tmp 16) (.tmp 18) 22 22 rfl 38 6 Try.underlying22 sizeD A0 gd n0 n0 c0 rfl rfl Z0 38 ?cg HZ0.out cd HD.out ?cs OD.out ?_); (case cg => exact HC.out.2.2.2.1); (case cs => (intro hp; obtain ⟨ad, ea, hs⟩ := SD.out hp; exact ⟨ad, ea, fun j u hj => pw_cell_below HC.out.2.2.2.2.2.2.2 (hs j u hj)⟩));
          intro w2 hg2 e2; have HC2 := Aside0.mk (show w2.heap[gd]? = some (.cells cd.toArray 38 (0, 0)) ∧ w2.heap[gf]? = some (.cells Z1 64 (0, 0)) ∧ w2.heap[w.heap.size]? = some (.cells #[.slice A0 n0 c0, .slice (some ad1) n1 c1] 25 (0, 0)) ∧ w2.heap[w.heap.size + 1]? = some (.cells #[.slice none 0 0, .slice none 0 0] 25 (0, 0)) ∧ Below w.heap.size w w2 from
            ⟨hg2, e2 ▸ setRow_blk HC.out.2.2.2.2.1 (Ne.symm HC.out.2.2.1) _, e2 ▸ setRow_blk HC.out.2.2.2.2.2.1 (by have := HC.out.1; omega) _, e2 ▸ setRow_blk HC.out.2.2.2.2.2.2.1 (by have := HC.out.1; omega) _, e2 ▸ below_setRow HC.out.2.2.2.2.2.2.2 (by have := HC.out.1; omega) _⟩); clear hg2 e2;
          have y0 : w2.cell? ⟨w.heap.size, 1, none⟩ = some (.slice (some ad1) n1 c1) := (blk_cell HC2.out.2.2.1 1).trans rfl)
      | ((with_reducible refine wpList_copy_full rfl (.tmp 20) (.tmp 22) 23 23 rfl 64 1 Try.underlying23 sizeF (some ad1) gf n1 n1 c1 rfl rfl Z1 64 ?cg HZ1.out cf HF.out ?cs OF.out ?_); (case cg => exact HC2.out.2.1); (case cs => (intro hp; obtain ⟨ad, ea, hs⟩ := SF.out hp; exact ⟨ad, ea, fun j u hj => pw_cell_below HC2.out.2.2.2.2 (hs j u hj)⟩));
          intro w3 hg3 e3; have HC3 := Aside0.mk (show w3.heap[gd]? = some (.cells cd.toArray 38 (0, 0)) ∧ w3.heap[gf]? = some (.cells cf.toArray 64 (0, 0)) ∧ w3.heap[w.heap.size]? = some (.cells #[.slice A0 n0 c0, .slice (some ad1) n1 c1] 25 (0, 0)) ∧ w3.heap[w.heap.size + 1]? = some (.cells #[.slice none 0 0, .slice none 0 0] 25 (0, 0)) ∧ Below w.heap.size w w3 from
            ⟨e3 ▸ setRow_blk HC2.out.1 HC.out.2.2.1 _, hg3, e3 ▸ setRow_blk HC2.out.2.2.1 (by have := HC.out.2.1; omega) _, e3 ▸ setRow_blk HC2.out.2.2.2.1 (by have := HC.out.2.1; omega) _, e3 ▸ below_setRow HC2.out.2.2.2.2 (by have := HC.out.2.1; omega) _⟩); clear hg3 e3;
          have z0 : w3.cell? ⟨w.heap.size, 0, none⟩ = some (.slice A0 n0 c0) := (blk_cell HC3.out.2.2.1 0).trans rfl; have z1 : w3.cell? ⟨w.heap.size, 1, none⟩ = some (.slice (some ad1) n1 c1) := (blk_cell HC3.out.2.2.1 1).trans rfl))
    have CU3 := pw_cell_below HC3.out.2.2.2.2 CU.out
    go_upto_region 5 with (first
      | (go_at_call 34; refine (row_at _ ad1 n1 c1 k _ _ HK.out (by have := B1.out; omega) CU3).mono ?_; rintro e w4 ⟨rfl, hb4⟩))
    have HC4 := Aside0.mk (show w4.heap[gd]? = some (.cells cd.toArray 38 (0, 0)) ∧ w4.heap[gf]? = some (.cells cf.toArray 64 (0, 0)) ∧ w4.heap[w.heap.size]? = some (.cells #[.slice A0 n0 c0, .slice (some ad1) n1 c1] 25 (0, 0)) ∧ w4.heap[w.heap.size + 1]? = some (.cells #[.slice none 0 0, .slice none 0 0] 25 (0, 0)) ∧ Below w.heap.size w w4 from
      ⟨blk_below HC3.out.1 hb4, blk_below HC3.out.2.1 hb4, blk_below HC3.out.2.2.1 hb4, blk_below HC3.out.2.2.2.1 hb4, below_step HC3.out.2.2.2.2 hb4⟩)
    have hgf4 := Aside0.mk (blk_lt HC4.out.2.1)
    have hgd4 := Aside0.mk (blk_lt HC4.out.1)
    clear hb4 CU3 z0 z1
    have y4 := (blk_cell (blk_alloc HC4.out.2.1 (.cells Zr 3)) k).trans (show cf.toArray[k]? = some (.slice (some ar) nr cr) by simpa using CK.out)
    have q4 := blk_frozen (blk_alloc HC4.out.2.1 (.cells Zr 3)) k
    have hlt4 : k < n1 := HK.out
    go_upto_region 7 with (fail)
    have D5 := Aside0.mk (blk_far (p := ⟨gf, k, none⟩) (blk_alloc HC4.out.1 (.cells Zr 3)) HC.out.2.2.1 (.slice (some ⟨w4.heap.size, 0, none⟩) nr nr))
    have F5 := Aside0.mk (blk_set (blk_alloc HC4.out.2.1 (.cells Zr 3)) k (.slice (some ⟨w4.heap.size, 0, none⟩) nr nr))
    simp only [List.setIfInBounds_toArray] at F5
    have R5 := Aside0.mk (blk_far (p := ⟨gf, k, none⟩) (blk_new w4 (.cells Zr 3)) (by have := hgf4.out; dsimp only; omega) (.slice (some ⟨w4.heap.size, 0, none⟩) nr nr))
    have V5 := Aside0.mk (blk_far (p := ⟨gf, k, none⟩) (blk_alloc HC4.out.2.2.2.1 (.cells Zr 3)) (by have := HC.out.2.1; dsimp only; omega) (.slice (some ⟨w4.heap.size, 0, none⟩) nr nr))
    have B5 := Aside0.mk (below_set (g := gf) (below_alloc HC4.out.2.2.2.2 (.cells Zr 3)) (by have := HC.out.2.1; omega) (j := k) (v := .slice (some ⟨w4.heap.size, 0, none⟩) nr nr))
    have hgr := Aside0.mk (show w.heap.size + 1 < w4.heap.size by have := HC.out.2.1; have := hgf4.out; omega)
    clear y4 q4
    generalize ((w4.alloc (.cells Zr 3)).setCell ⟨gf, k, none⟩ (.slice (some ⟨w4.heap.size, 0, none⟩) nr nr)) = w5 at D5 F5 R5 V5 B5 ⊢
    generalize w4.heap.size = gr at hgf4 hgd4 hgr D5 F5 R5 V5 B5 ⊢
    clear HC4 HC3
    have x5 := (blk_cell F5.out k).trans (show (cf.set k (.slice (some ⟨gr, 0, none⟩) nr nr)).toArray[k]? = some (.slice (some ⟨gr, 0, none⟩) nr nr) by
      have := (List.getElem?_eq_some_iff.1 CK.out).1
      simp [this])
    go_wp2_with (first
      | ((with_reducible refine wpList_copy_full rfl (.tmp 38) (.tmp 39) 64 64 rfl 3 1 Try.underlying64 sizeR (some ar) gr nr nr cr rfl rfl Zr 3 ?cg HZR.out crow RL.out ?cs OR.out ?_); (case cg => exact R5.out); (case cs => (intro hp; exact ⟨ar, rfl, fun j u hj => pw_cell_below B5.out (SR.out j u hj)⟩));
          intro w6 hg6 e6;
          have D6 := Aside0.mk (e6 ▸ setRow_blk D5.out (by have := hgd4.out; omega) crow.toArray);
          have F6 := Aside0.mk (e6 ▸ setRow_blk F5.out (by have := hgf4.out; omega) crow.toArray);
          have R6 := Aside0.mk hg6;
          have V6 := Aside0.mk (e6 ▸ setRow_blk V5.out (by have := hgr.out; omega) crow.toArray);
          have B6 := Aside0.mk (e6 ▸ below_setRow B5.out (by have := hgr.out; omega) crow.toArray); clear hg6 e6;
          have b0 := (blk_cell V6.out 0).trans (show _ = some (Value.slice none 0 0) from rfl); have b1 := (blk_cell V6.out 1).trans (show _ = some (Value.slice none 0 0) from rfl);
          have q0 := blk_frozen V6.out 0; have q1 := blk_frozen V6.out 1))
    have B := blk_set (blk_set V6.out 0 (.slice (some ⟨gd, 0, none⟩) n0 n0)) 1 (.slice (some ⟨gf, 0, none⟩) n1 n1)
    have r0 := (blk_cell B 0).trans (show _ = some (Value.slice (some ⟨gd, 0, none⟩) n0 n0) from rfl)
    have r1 := (blk_cell B 1).trans (show _ = some (Value.slice (some ⟨gf, 0, none⟩) n1 n1) from rfl)
    have far : ∀ {g : Nat} {cs : Array Value} {t : TypeId}, w6.heap[g]? = some (.cells cs t (0, 0)) → w.heap.size + 1 < g → ((w6.setCell ⟨w.heap.size + 1, 0, none⟩ (.slice (some ⟨gd, 0, none⟩) n0 n0)).setCell ⟨w.heap.size + 1, 1, none⟩ (.slice (some ⟨gf, 0, none⟩) n1 n1)).heap[g]? = some (.cells cs t (0, 0)) :=
      fun h hl => blk_far (p := ⟨w.heap.size + 1, 1, none⟩) (blk_far (p := ⟨w.heap.size + 1, 0, none⟩) h (Nat.ne_of_gt hl) (.slice (some ⟨gd, 0, none⟩) n0 n0)) (Nat.ne_of_gt hl) (.slice (some ⟨gf, 0, none⟩) n1 n1)
    refine bodyPost_ret (v := .agg #[.slice (some ⟨gd, 0, none⟩) n0 n0, .slice (some ⟨gf, 0, none⟩) n1 n1]) (by simp [results, Try.results38, go_sem, r0, r1]) rfl ⟨gd, gf, gr, rfl, by have := HC.out.1; omega, by have := HC.out.2.1; omega, by have := hgr.out; omega, HC.out.2.2.1, by have := hgd4.out; omega, by have := hgf4.out; omega, far D6.out HC.out.1, far F6.out HC.out.2.1, far R6.out hgr.out, ?_⟩
    exact below_set (below_set B6.out (by omega)) (by omega)
end Go.Proofs.Ytkecfdljodiifaa.P
