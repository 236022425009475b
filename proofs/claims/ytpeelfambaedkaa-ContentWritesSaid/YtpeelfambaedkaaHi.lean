/- The contracts of turned, by hand: with the function of Write and with that of Cut. -/
import Derived.Test.YtpeelfambaedkaaHh
import Derived.Deep.RegionWith
import Derived.Deep.Cut
namespace Go.Proofs.Ytpeelfambaedkaa.P
open Go.RowKit Go.Proofs.YtpeelfambaedkaaW.PrintWords Go.Proofs.YtpeelfambaedkaaW.PrintLast Go.Proofs.YtpeelfambaedkaaW.PrintMore

-- BY mkPi.py
theorem Bytes_val (A0 : Option Addr) (c0 : Nat) (l0 : List S59) (m q : Int) (w : World) (v : Int) (hv : bytesSum l0 0 = v) (hr : Kd.C k59 w A0 l0.length l0) (hb : l0.length ≤ 1000) :
    Calls Try.prog 35 #[.agg #[.slice A0 l0.length c0, .int .i64 m, .int .i64 q]] w fun e w' => e = .returned (.int .i64 v) ∧ Below w.heap.size w w' := hv ▸ Bytes_any A0 c0 l0 m q w hr hb
set_option maxHeartbeats 1000000 in
set_option maxRecDepth 100000 in
theorem turned_full (F : Value) (ad : Addr) (c0 : Nat) (l0 : List S59) (m q : Int) (i : Nat) (A7 : Option Addr) (c7 : Nat) (cs : List Value) (w : World) (hr : Kd.C k59 w (some ad) l0.length l0) (hi : i < l0.length) (h0 : (rd_T59 l0 (i : Int)).f0 = 1) (h7 : w.cell? ⟨(ad.add (i * 8)).block, (ad.add (i * 8)).off + 7, none⟩ = some (.slice A7 (rd_T59 l0 (i : Int)).f7.length c7))
    (hn : l0.length ≤ 1000) (hl : cs.length = l0.length * 8) (hc : ∀ j u, cs[j]? = some u → w.cell? (ad.add j) = some u) (h1 : ∀ u ∈ cs, u.oneCell' = true) (was n : Nat) (hwas : (rd_T59 l0 (i : Int)).f6.size = was) (S : Int) (hS : bytesSum l0 0 = S) (hS0 : 0 ≤ S) (hS1 : S ≤ 1000000) (hw1 : was ≤ 5000) (hn1 : n ≤ 5000) (hlt : was < n) (hroom : q < S - was + n) :
    Calls Try.prog 27 #[.agg #[.slice (some ad) l0.length c0, .int .i64 m, .int .i64 q], .int .i64 i, .int .i64 n, F] w fun e w' => e = .returned (.tuple #[.agg #[.slice (some ad) l0.length c0, .int .i64 m, .int .i64 q], .int .i64 10]) ∧ Below w.heap.size w w' := by
  have c1 : decide ((was : Int) < (n : Int)) = true := decide_eq_true (by omega)
  have c2 : decide (q < S - (was : Int) + (n : Int)) = true := decide_eq_true hroom
  have hu24 := Try.underlying24
  have hu59 := Try.underlying59
  have hB := Aside0.mk (below_alloc (below_alloc (Below.refl w.heap.size w) (.cells #[.slice (some ad) l0.length c0, .int .i64 m, .int .i64 q] 24)) (.cells #[.slice none 0 0, .int .i64 0, .int .i64 0] 24))
  have hT := Aside0.mk (show ((w.alloc (.cells #[.slice (some ad) l0.length c0, .int .i64 m, .int .i64 q] 24)).alloc (.cells #[.slice none 0 0, .int .i64 0, .int .i64 0] 24)).heap[w.heap.size]? = some (.cells #[.slice (some ad) l0.length c0, .int .i64 m, .int .i64 q] 24 (0, 0)) from blk_alloc (blk_new w _) _)
  have hR := Aside0.mk (show ((w.alloc (.cells #[.slice (some ad) l0.length c0, .int .i64 m, .int .i64 q] 24)).alloc (.cells #[.slice none 0 0, .int .i64 0, .int .i64 0] 24)).heap[w.heap.size + 1]? = some (.cells #[.slice none 0 0, .int .i64 0, .int .i64 0] 24 (0, 0)) from by simpa using blk_new (w.alloc (.cells #[.slice (some ad) l0.length c0, .int .i64 m, .int .i64 q] 24)) (.cells #[.slice none 0 0, .int .i64 0, .int .i64 0] 24))
  have HR := Aside0.mk (Kd.C_below hr hB.out)
  have H7 := Aside0.mk (pw_cell_below hB.out h7)
  have H0 := Aside0.mk h0
  have HC := Aside0.mk (fun (j : Nat) (u : Value) (hj : cs[j]? = some u) => pw_cell_below hB.out (hc j u hj))
  have H1 := Aside0.mk h1
  have HL := Aside0.mk hl
  have HN := Aside0.mk hn
  have HS := Aside0.mk hS
  clear hr h7 h0 hc h1 hl hn hS
  go_enter Try.func27, Try.ntmps27
  go_upto_region 1 with (fail)
  generalize ((w.alloc (.cells #[.slice (some ad) l0.length c0, .int .i64 m, .int .i64 q] 24)).alloc (.cells #[.slice none 0 0, .int .i64 0, .int .i64 0] 24)) = w2 at hB hT hR HR H7 HC ⊢
  have t0 := (blk_cell hT.out 0).trans (show _ = some (Value.slice (some ad) l0.length c0) from rfl)
  have t1 := (blk_cell hT.out 1).trans (show _ = some (Value.int .i64 m) from rfl)
  have t2 := (blk_cell hT.out 2).trans (show _ = some (Value.int .i64 q) from rfl)
  go_upto_region 2 with (first
    | (go_at_call 24; refine (File_at ad c0 l0 m q i A7 c7 _ HR.out hi H0.out H7.out).mono ?_; rintro e w3 ⟨rfl, hb⟩;
        have T3 := Aside0.mk (blk_below hT.out hb); have R3 := Aside0.mk (blk_below hR.out hb); have B3 := Aside0.mk (below_step hB.out hb); have Z3 := Aside0.mk (blk_lt (blk_below hR.out hb));
        have M3 := Aside0.mk (And.intro (Kd.C_below HR.out hb) (fun (j : Nat) (u : Value) (hj : cs[j]? = some u) => pw_cell_below hb (HC.out j u hj)))))
  have N4 := Aside0.mk (blk_new w3 (.cells #[.int .i64 (rd_T59 l0 (i : Int)).f0, .int .i64 (rd_T59 l0 (i : Int)).f1, .int .i64 (rd_T59 l0 (i : Int)).f2, .int .i64 (rd_T59 l0 (i : Int)).f3, .int .i64 (rd_T59 l0 (i : Int)).f4, .int .i64 (rd_T59 l0 (i : Int)).f5, .string (rd_T59 l0 (i : Int)).f6, .slice A7 (rd_T59 l0 (i : Int)).f7.length c7] 59))
  have T4 := Aside0.mk (blk_alloc T3.out (.cells #[.int .i64 (rd_T59 l0 (i : Int)).f0, .int .i64 (rd_T59 l0 (i : Int)).f1, .int .i64 (rd_T59 l0 (i : Int)).f2, .int .i64 (rd_T59 l0 (i : Int)).f3, .int .i64 (rd_T59 l0 (i : Int)).f4, .int .i64 (rd_T59 l0 (i : Int)).f5, .string (rd_T59 l0 (i : Int)).f6, .slice A7 (rd_T59 l0 (i : Int)).f7.length c7] 59))
  have R4 := Aside0.mk (blk_alloc R3.out (.cells #[.int .i64 (rd_T59 l0 (i : Int)).f0, .int .i64 (rd_T59 l0 (i : Int)).f1, .int .i64 (rd_T59 l0 (i : Int)).f2, .int .i64 (rd_T59 l0 (i : Int)).f3, .int .i64 (rd_T59 l0 (i : Int)).f4, .int .i64 (rd_T59 l0 (i : Int)).f5, .string (rd_T59 l0 (i : Int)).f6, .slice A7 (rd_T59 l0 (i : Int)).f7.length c7] 59))
  have B4 := Aside0.mk (below_alloc B3.out (.cells #[.int .i64 (rd_T59 l0 (i : Int)).f0, .int .i64 (rd_T59 l0 (i : Int)).f1, .int .i64 (rd_T59 l0 (i : Int)).f2, .int .i64 (rd_T59 l0 (i : Int)).f3, .int .i64 (rd_T59 l0 (i : Int)).f4, .int .i64 (rd_T59 l0 (i : Int)).f5, .string (rd_T59 l0 (i : Int)).f6, .slice A7 (rd_T59 l0 (i : Int)).f7.length c7] 59))
  have M4 := Aside0.mk (And.intro (Kd.C_below M3.out.1 (below_alloc (Below.refl w3.heap.size w3) (.cells #[.int .i64 (rd_T59 l0 (i : Int)).f0, .int .i64 (rd_T59 l0 (i : Int)).f1, .int .i64 (rd_T59 l0 (i : Int)).f2, .int .i64 (rd_T59 l0 (i : Int)).f3, .int .i64 (rd_T59 l0 (i : Int)).f4, .int .i64 (rd_T59 l0 (i : Int)).f5, .string (rd_T59 l0 (i : Int)).f6, .slice A7 (rd_T59 l0 (i : Int)).f7.length c7] 59))) (fun (j : Nat) (u : Value) (hj : cs[j]? = some u) => pw_cell_below (below_alloc (Below.refl w3.heap.size w3) (.cells #[.int .i64 (rd_T59 l0 (i : Int)).f0, .int .i64 (rd_T59 l0 (i : Int)).f1, .int .i64 (rd_T59 l0 (i : Int)).f2, .int .i64 (rd_T59 l0 (i : Int)).f3, .int .i64 (rd_T59 l0 (i : Int)).f4, .int .i64 (rd_T59 l0 (i : Int)).f5, .string (rd_T59 l0 (i : Int)).f6, .slice A7 (rd_T59 l0 (i : Int)).f7.length c7] 59)) (M3.out.2 j u hj)))
  obtain ⟨gn, hgn⟩ : ∃ gn, gn = w3.heap.size := ⟨_, rfl⟩
  have G4 := Aside0.mk (show w.heap.size + 1 < gn by rw [hgn]; exact Z3.out)
  rw [← hgn] at N4 ⊢
  clear hgn T3 R3 B3 M3 Z3 hT hR hB HR HC H7 t0 t1 t2 hb
  generalize w3.alloc (.cells #[.int .i64 (rd_T59 l0 (i : Int)).f0, .int .i64 (rd_T59 l0 (i : Int)).f1, .int .i64 (rd_T59 l0 (i : Int)).f2, .int .i64 (rd_T59 l0 (i : Int)).f3, .int .i64 (rd_T59 l0 (i : Int)).f4, .int .i64 (rd_T59 l0 (i : Int)).f5, .string (rd_T59 l0 (i : Int)).f6, .slice A7 (rd_T59 l0 (i : Int)).f7.length c7] 59) = w4 at N4 T4 R4 B4 M4 ⊢
  have t0 := (blk_cell T4.out 0).trans (show _ = some (Value.slice (some ad) l0.length c0) from rfl)
  have t1 := (blk_cell T4.out 1).trans (show _ = some (Value.int .i64 m) from rfl)
  have t2 := (blk_cell T4.out 2).trans (show _ = some (Value.int .i64 q) from rfl)
  have n6 := (blk_cell N4.out 6).trans (show _ = some (Value.string (rd_T59 l0 (i : Int)).f6) from rfl)
  go_upto_region 5 with (fail)
  have s1 : IntKind.i64.wrap (S - (was : Int)) = S - (was : Int) := by rw [IntKind.wrap_i64]; omega
  have s2 : IntKind.i64.wrap (S - (was : Int) + (n : Int)) = S - (was : Int) + (n : Int) := by rw [IntKind.wrap_i64]; omega
  have BZ := Aside0.mk (Below.refl w4.heap.size w4)
  go_cut [40] (fun v40 wc => v40 = .bool true ∧ Aside0 (Below w4.heap.size w4 wc))
  case first =>
    go_region_with (first
      | (go_at_call 35; refine (Bytes_val (some ad) c0 l0 m q _ S HS.out (Kd.C_below M4.out.1 (by repeat (first | (with_reducible first | exact BZ.out | apply pw_below_drewN | apply below_drew1) | exact BZ.out))) HN.out).mono ?_; rintro e w5 ⟨rfl, hb⟩;
          have B5 := Aside0.mk (below_step (show Below w4.heap.size w4 _ by repeat (first | (with_reducible first | exact BZ.out | apply pw_below_drewN | apply below_drew1) | exact BZ.out)) hb); clear hb;
          have t5 := pw_cell_below B5.out t2))
    all_goals (
      go_wp2_with fail
      go_meet
      case rel => exact ⟨rfl, ⟨by repeat (first | (with_reducible first | exact B5.out | exact BZ.out | apply pw_below_drewN | apply below_drew1) | exact B5.out | exact BZ.out)⟩⟩)
  case rest =>
  obtain ⟨rfl, BC⟩ := hcut
  have T5 := Aside0.mk (blk_below T4.out BC.out)
  have N5 := Aside0.mk (blk_below N4.out BC.out)
  have R5 := Aside0.mk (blk_below R4.out BC.out)
  have B5 := Aside0.mk (below_step B4.out BC.out)
  have M5 := Aside0.mk (And.intro (Kd.C_below M4.out.1 BC.out) (fun (j : Nat) (u : Value) (hj : cs[j]? = some u) => pw_cell_below BC.out (M4.out.2 j u hj)))
  have L5 := Aside0.mk BC.out.size
  clear T4 N4 R4 B4 M4 BC BZ t0 t1 t2 n6
  have t0 := (blk_cell T5.out 0).trans (show _ = some (Value.slice (some ad) l0.length c0) from rfl)
  have t1 := (blk_cell T5.out 1).trans (show _ = some (Value.int .i64 m) from rfl)
  have t2 := (blk_cell T5.out 2).trans (show _ = some (Value.int .i64 q) from rfl)
  have z0 := (blk_cell R5.out 0).trans (show _ = some (Value.slice none 0 0) from rfl)
  have z1 := (blk_cell R5.out 1).trans (show _ = some (Value.int .i64 0) from rfl)
  have z2 := (blk_cell R5.out 2).trans (show _ = some (Value.int .i64 0) from rfl)
  have qf := fun j => blk_frozen R5.out j
  go_wp2_with fail
  have B := blk_set (blk_set (blk_set R5.out 0 (.slice (some ad) l0.length c0)) 1 (.int .i64 m)) 2 (.int .i64 q)
  have r0 := (blk_cell B 0).trans (show _ = some (Value.slice (some ad) l0.length c0) from rfl)
  have r1 := (blk_cell B 1).trans (show _ = some (Value.int .i64 m) from rfl)
  have r2 := (blk_cell B 2).trans (show _ = some (Value.int .i64 q) from rfl)
  exact bodyPost_ret (v := .tuple #[.agg #[.slice (some ad) l0.length c0, .int .i64 m, .int .i64 q], .int .i64 10]) (by simp [results, Try.results27, go_sem, r0, r1, r2]) rfl ⟨rfl, below_set (g := w.heap.size + 1) (below_set (g := w.heap.size + 1) (below_set (g := w.heap.size + 1) B5.out (by omega) (j := 0) (v := .slice (some ad) l0.length c0)) (by omega) (j := 1) (v := .int .i64 m)) (by omega) (j := 2) (v := .int .i64 q)⟩
end Go.Proofs.Ytpeelfambaedkaa.P
