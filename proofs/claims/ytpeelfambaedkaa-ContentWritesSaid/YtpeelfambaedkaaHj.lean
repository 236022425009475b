/- The contracts of turned, by hand: with the function of Write and with that of Cut. -/
import Derived.Test.YtpeelfambaedkaaHi
import Derived.Deep.RegionWith
import Derived.Deep.Cut
import Derived.Deep.QuietTactic
import Derived.BigQuiet
namespace Go.Proofs.Ytpeelfambaedkaa.P
open Go.RowKit Go.Proofs.YtpeelfambaedkaaW.PrintWords Go.Proofs.YtpeelfambaedkaaW.PrintLast Go.Proofs.YtpeelfambaedkaaW.PrintMore

-- BY mkPj.py
theorem Repeat_int (ad : Addr) (c r : Nat) (v : Int) (w : World) (hv : v = (r : Int)) (hn : r ≤ 8000) (hp : 0 < r) (h : w.cell? ad = some (.int .u8 0)) :
    Calls Try.prog 36 #[.slice (some ad) 1 c, .int .i64 v] w fun e w' => ∃ (g : Nat) (cur : List Value), e = .returned (.slice (some ⟨g, 0, none⟩) r r) ∧ w.heap.size ≤ g ∧ w'.heap[g]? = some (.cells cur.toArray 5 (0, 0)) ∧ cur.take r = List.replicate r (.int .u8 0) ∧ Below w.heap.size w w' := hv ▸ Repeat_any ad c r w hn hp h
theorem news_cells {w : World} {g r : Nat} {cur : List Value} (h : w.heap[g]? = some (.cells cur.toArray 5 (0, 0))) (ht : cur.take r = List.replicate r (.int .u8 0)) : ∀ j u, ((List.replicate r (0 : UInt8)).map byteV)[j]? = some u → w.cell? ((⟨g, 0, none⟩ : Addr).add j) = some u := by
  refine in_block h ?_
  rw [List.map_replicate, List.length_replicate]
  exact ht
set_option maxHeartbeats 2000000 in
set_option maxRecDepth 100000 in
theorem turned28_kept (s : ByteArray) (k pa ps : Nat) (ad : Addr) (c0 : Nat) (l0 : List S59) (m q : Int) (i : Nat) (A7 : Option Addr) (c7 : Nat) (cs : List Value) (w : World) (hr : Kd.C k59 w (some ad) l0.length l0) (hi : i < l0.length) (h0 : (rd_T59 l0 (i : Int)).f0 = 1) (h7 : w.cell? ⟨(ad.add (i * 8)).block, (ad.add (i * 8)).off + 7, none⟩ = some (.slice A7 (rd_T59 l0 (i : Int)).f7.length c7))
    (hn : l0.length ≤ 1000) (hl : cs.length = l0.length * 8) (hc : ∀ j u, cs[j]? = some u → w.cell? (ad.add j) = some u) (h1 : ∀ u ∈ cs, u.oneCell' = true) (was n : Nat) (hwas : (rd_T59 l0 (i : Int)).f6.size = was) (S : Int) (hS : bytesSum l0 0 = S) (hS0 : 0 ≤ S) (hS1 : S ≤ 1000000) (hw1 : was ≤ 5000) (hn1 : n ≤ 5000) (hs : 0 < s.size) (hkn : k + s.size = n) (ca : w.cell? ⟨pa, 0, none⟩ = some (.int .i64 k)) (cp : w.cell? ⟨ps, 0, none⟩ = some (.string s)) (hle : n ≤ was) (nd : ByteArray) (hnd : (⟨((rd_T59 l0 (i : Int)).f6.data.toList.take k ++ (s.data.toList ++ (rd_T59 l0 (i : Int)).f6.data.toList.drop n)).toArray⟩ : ByteArray) = nd) :
    Calls Try.prog 27 #[.agg #[.slice (some ad) l0.length c0, .int .i64 m, .int .i64 q], .int .i64 i, .int .i64 n, .func (.func 28) #[] #[.pointer (some ⟨pa, 0, none⟩), .pointer (some ⟨ps, 0, none⟩)]] w fun e w' => ∃ (g cap : Nat) (cur : Array Value), e = .returned (.tuple #[.agg #[.slice (some ⟨g, 0, none⟩) l0.length cap, .int .i64 m, .int .i64 q], .int .i64 0]) ∧ w.heap.size ≤ g ∧ l0.length ≤ cap ∧ w'.heap[g]? = some (.cells cur 59 (0, 0)) ∧ cur.toList.take (l0.length * 8) = cs.take (i * 8) ++ ([.int .i64 (rd_T59 l0 (i : Int)).f0, .int .i64 (rd_T59 l0 (i : Int)).f1, .int .i64 (rd_T59 l0 (i : Int)).f2, .int .i64 (rd_T59 l0 (i : Int)).f3, .int .i64 (rd_T59 l0 (i : Int)).f4, .int .i64 (rd_T59 l0 (i : Int)).f5, .string nd, .slice A7 (rd_T59 l0 (i : Int)).f7.length c7] ++ cs.drop (i * 8 + 8)) ∧ Below w.heap.size w w' := by
  have HD := Aside0.mk hnd
  have CA := Aside0.mk ca
  have CP := Aside0.mk cp
  clear hnd ca cp
  have c1 : decide ((was : Int) < (n : Int)) = false := decide_eq_false (by omega)
  have c2 : decide (was < n) = false := decide_eq_false (by omega)
  have c3 : ¬ was < n := by omega
  have hu24 := Try.underlying24
  have hu59 := Try.underlying59
  have hB := Aside0.mk (below_alloc (below_alloc (Below.refl w.heap.size w) (.cells #[.slice (some ad) l0.length c0, .int .i64 m, .int .i64 q] 24)) (.cells #[.slice none 0 0, .int .i64 0, .int .i64 0] 24))
  have hT := Aside0.mk (show ((w.alloc (.cells #[.slice (some ad) l0.length c0, .int .i64 m, .int .i64 q] 24)).alloc (.cells #[.slice none 0 0, .int .i64 0, .int .i64 0] 24)).heap[w.heap.size]? = some (.cells #[.slice (some ad) l0.length c0, .int .i64 m, .int .i64 q] 24 (0, 0)) from blk_alloc (blk_new w _) _)
  have hR := Aside0.mk (show ((w.alloc (.cells #[.slice (some ad) l0.length c0, .int .i64 m, .int .i64 q] 24)).alloc (.cells #[.slice none 0 0, .int .i64 0, .int .i64 0] 24)).heap[w.heap.size + 1]? = some (.cells #[.slice none 0 0, .int .i64 0, .int .i64 0] 24 (0, 0)) from by simpa using blk_new (w.alloc (.cells #[.slice (some ad) l0.length c0, .int .i64 m, .int .i64 q] 24)) (.cells #[.slice none 0 0, .int .i64 0, .int .i64 0] 24))
  have HR := Aside0.mk (Kd.C_below hr hB.out)
  have H7 := Aside0.mk (pw_cell_below hB.out h7)
  have H0 := Aside0.mk h0
  have HC := Aside0.mk (fun (j : Nat) (u : Value) (hj : cs[j]? = some u) => pw_cell_below hB.out (hc j u hj))
  have H1 := Aside0.mk h1
  have HW := Aside0.mk hc
  have HL := Aside0.mk hl
  have HN := Aside0.mk hn
  have HS := Aside0.mk hS
  clear hr h7 h0 hc h1 hl hn hS
  go_enter Try.func27, Try.ntmps27
  go_upto_region 1 with (fail)
  generalize ((w.alloc (.cells #[.slice (some ad) l0.length c0, .int .i64 m, .int .i64 q] 24)).alloc (.cells #[.slice none 0 0, .int .i64 0, .int .i64 0] 24)) = w2 at hB hT hR HR H7 HC ⊢
  have t0 := (blk_cell hT.out 0).trans (show _ = some (Value.slice (some ad) l0.length c0) from rfl)
  have t1 := (blk_cell hT.out 1).trans (show _ = some (Value.int .i64 m) from rfl)
  have t2 := (blk_cell hT.out 2).trans (show _ = some (Value.int .i64 q) from rfl)
  go_upto_region 2 with (first
    | (go_at_call 24; refine (File_at ad c0 l0 m q i A7 c7 _ HR.out hi H0.out H7.out).mono ?_; rintro e w3 ⟨rfl, hb⟩;
        have T3 := Aside0.mk (blk_below hT.out hb); have R3 := Aside0.mk (blk_below hR.out hb); have B3 := Aside0.mk (below_step hB.out hb); have Z3 := Aside0.mk (blk_lt (blk_below hR.out hb));
        have M3 := Aside0.mk (And.intro (Kd.C_below HR.out hb) (fun (j : Nat) (u : Value) (hj : cs[j]? = some u) => pw_cell_below hb (HC.out j u hj)))))
  have N4 := Aside0.mk (blk_new w3 (.cells #[.int .i64 (rd_T59 l0 (i : Int)).f0, .int .i64 (rd_T59 l0 (i : Int)).f1, .int .i64 (rd_T59 l0 (i : Int)).f2, .int .i64 (rd_T59 l0 (i : Int)).f3, .int .i64 (rd_T59 l0 (i : Int)).f4, .int .i64 (rd_T59 l0 (i : Int)).f5, .string (rd_T59 l0 (i : Int)).f6, .slice A7 (rd_T59 l0 (i : Int)).f7.length c7] 59))
  have T4 := Aside0.mk (blk_alloc T3.out (.cells #[.int .i64 (rd_T59 l0 (i : Int)).f0, .int .i64 (rd_T59 l0 (i : Int)).f1, .int .i64 (rd_T59 l0 (i : Int)).f2, .int .i64 (rd_T59 l0 (i : Int)).f3, .int .i64 (rd_T59 l0 (i : Int)).f4, .int .i64 (rd_T59 l0 (i : Int)).f5, .string (rd_T59 l0 (i : Int)).f6, .slice A7 (rd_T59 l0 (i : Int)).f7.length c7] 59))
  have R4 := Aside0.mk (blk_alloc R3.out (.cells #[.int .i64 (rd_T59 l0 (i : Int)).f0, .int .i64 (rd_T59 l0 (i : Int)).f1, .int .i64 (rd_T59 l0 (i : Int)).f2, .int .i64 (rd_T59 l0 (i : Int)).f3, .int .i64 (rd_T59 l0 (i : Int)).f4, .int .i64 (rd_T59 l0 (i : Int)).f5, .string (rd_T59 l0 (i : Int)).f6, .slice A7 (rd_T59 l0 (i : Int)).f7.length c7] 59))
  have B4 := Aside0.mk (below_alloc B3.out (.cells #[.int .i64 (rd_T59 l0 (i : Int)).f0, .int .i64 (rd_T59 l0 (i : Int)).f1, .int .i64 (rd_T59 l0 (i : Int)).f2, .int .i64 (rd_T59 l0 (i : Int)).f3, .int .i64 (rd_T59 l0 (i : Int)).f4, .int .i64 (rd_T59 l0 (i : Int)).f5, .string (rd_T59 l0 (i : Int)).f6, .slice A7 (rd_T59 l0 (i : Int)).f7.length c7] 59))
  have M4 := Aside0.mk (And.intro (Kd.C_below M3.out.1 (below_alloc (Below.refl w3.heap.size w3) (.cells #[.int .i64 (rd_T59 l0 (i : Int)).f0, .int .i64 (rd_T59 l0 (i : Int)).f1, .int .i64 (rd_T59 l0 (i : Int)).f2, .int .i64 (rd_T59 l0 (i : Int)).f3, .int .i64 (rd_T59 l0 (i : Int)).f4, .int .i64 (rd_T59 l0 (i : Int)).f5, .string (rd_T59 l0 (i : Int)).f6, .slice A7 (rd_T59 l0 (i : Int)).f7.length c7] 59))) (fun (j : Nat) (u : Value) (hj : cs[j]? = some u) => pw_cell_below (below_alloc (Below.refl w3.heap.size w3) (.cells #[.int .i64 (rd_T59 l0 (i : Int)).f0, .int .i64 (rd_T59 l0 (i : Int)).f1, .int .i64 (rd_T59 l0 (i : Int)).f2, .int .i64 (rd_T59 l0 (i : Int)).f3, .int .i64 (rd_T59 l0 (i : Int)).f4, .int .i64 (rd_T59 l0 (i : Int)).f5, .string (rd_T59 l0 (i : Int)).f6, .slice A7 (rd_T59 l0 (i : Int)).f7.length c7] 59)) (M3.out.2 j u hj)))
  obtain ⟨gn, hgn⟩ : ∃ gn, gn = w3.heap.size := ⟨_, rfl⟩
  have G4 := Aside0.mk (show w.heap.size + 1 < gn by rw [hgn]; exact Z3.out)
  rw [← hgn] at N4 ⊢
  clear hgn T3 R3 B3 M3 Z3 hT hR hB HR HC H7 t0 t1 t2 hb
  generalize w3.alloc (.cells #[.int .i64 (rd_T59 l0 (i : Int)).f0, .int .i64 (rd_T59 l0 (i : Int)).f1, .int .i64 (rd_T59 l0 (i : Int)).f2, .int .i64 (rd_T59 l0 (i : Int)).f3, .int .i64 (rd_T59 l0 (i : Int)).f4, .int .i64 (rd_T59 l0 (i : Int)).f5, .string (rd_T59 l0 (i : Int)).f6, .slice A7 (rd_T59 l0 (i : Int)).f7.length c7] 59) = w4 at N4 T4 R4 B4 M4 ⊢
  have t0 := (blk_cell T4.out 0).trans (show _ = some (Value.slice (some ad) l0.length c0) from rfl)
  have t1 := (blk_cell T4.out 1).trans (show _ = some (Value.int .i64 m) from rfl)
  have t2 := (blk_cell T4.out 2).trans (show _ = some (Value.int .i64 q) from rfl)
  have n6 := (blk_cell N4.out 6).trans (show _ = some (Value.string (rd_T59 l0 (i : Int)).f6) from rfl)
  go_upto_region 5 with (fail)
  have s1 : IntKind.i64.wrap (S - (was : Int)) = S - (was : Int) := by rw [IntKind.wrap_i64]; omega
  have s2 : IntKind.i64.wrap (S - (was : Int) + (n : Int)) = S - (was : Int) + (n : Int) := by rw [IntKind.wrap_i64]; omega
  have BZ := Aside0.mk (Below.refl w4.heap.size w4)
  go_cut [40] (fun v40 wc => v40 = .bool false ∧ Aside0 (Below w4.heap.size w4 wc))
  case first =>
    go_quiet (fail)
    go_wp2_with fail
    go_meet
    case rel => exact ⟨rfl, ⟨by repeat (first | (with_reducible first | exact BZ.out | apply pw_below_drewN | apply below_drew1) | exact BZ.out)⟩⟩
  case rest =>
  obtain ⟨rfl, BC⟩ := hcut
  have T5 := Aside0.mk (blk_below T4.out BC.out)
  have N5 := Aside0.mk (blk_below N4.out BC.out)
  have R5 := Aside0.mk (blk_below R4.out BC.out)
  have B5 := Aside0.mk (below_step B4.out BC.out)
  have M5 := Aside0.mk (And.intro (Kd.C_below M4.out.1 BC.out) (fun (j : Nat) (u : Value) (hj : cs[j]? = some u) => pw_cell_below BC.out (M4.out.2 j u hj)))
  have L5 := Aside0.mk BC.out.size
  clear T4 N4 R4 B4 M4 BC BZ t0 t1 t2 n6
  have t0 := (blk_cell T5.out 0).trans (show _ = some (Value.slice (some ad) l0.length c0) from rfl)
  have t1 := (blk_cell T5.out 1).trans (show _ = some (Value.int .i64 m) from rfl)
  have t2 := (blk_cell T5.out 2).trans (show _ = some (Value.int .i64 q) from rfl)
  have n6 := (blk_cell N5.out 6).trans (show _ = some (Value.string (rd_T59 l0 (i : Int)).f6) from rfl)
  have hcv := fun (W : World) => Lib.run_convert_string_bytes (P := Try.prog) W 9 66 5 (rd_T59 l0 (i : Int)).f6 Try.underlying9 Try.underlying66 Try.underlying5
  have hsz : (rd_T59 l0 (i : Int)).f6.data.toList.length = was := by rw [← hwas]; simp
  go_upto_region 8 with (fail)
  have W6 := Aside0.mk (Row_bytes wc (rd_T59 l0 (i : Int)).f6)
  have O6 := Aside0.mk (hwas ▸ Room_bytes wc (rd_T59 l0 (i : Int)).f6)
  have B6 := Aside0.mk (below_bytes wc (rd_T59 l0 (i : Int)).f6)
  obtain ⟨gb, hgb⟩ : ∃ gb, gb = wc.heap.size := ⟨_, rfl⟩
  have GB := Aside0.mk (Nat.le_of_eq hgb.symm)
  rw [← hgb] at W6 O6 ⊢
  clear n6 t0 t1 t2 hcv
  obtain ⟨c6, ec6⟩ : ∃ c6, c6 = grownCap wc was 0 5 := ⟨_, rfl⟩
  rw [← ec6] at O6 ⊢
  have C6 := Aside0.mk (show was ≤ c6 by rw [ec6]; exact grownCap_ge wc was 0 5)
  have L6 := Aside0.mk (show gb < (Lib.bytesWorld wc 5 (rd_T59 l0 (i : Int)).f6).heap.size by rw [Lib.bytesWorld_size]; omega)
  clear hgb ec6
  generalize Lib.bytesWorld wc 5 (rd_T59 l0 (i : Int)).f6 = w6 at W6 O6 B6 L6 ⊢
  obtain ⟨w5, ew5⟩ : ∃ w5, w5 = wc := ⟨_, rfl⟩
  subst ew5
  have A6 := Aside0.mk (below_step B5.out B6.out)
  have hl6 : (rd_T59 l0 (i : Int)).f6.data.toList.length = was := by exact hsz
  have hl7 : ((rd_T59 l0 (i : Int)).f6.data.toList.take k ++ (s.data.toList ++ (rd_T59 l0 (i : Int)).f6.data.toList.drop n)).length = was := by simp only [List.length_append, List.length_take, List.length_drop, hl6]; rw [show s.data.toList.length = s.size by simp]; omega
  go_upto_region 11 with (first
    | (go_at_call 28; refine (turn28L was gb c6 k (rd_T59 l0 (i : Int)).f6.data.toList s pa ps _ w5 w5.heap.size hl6 B6.out GB.out C6.out (by omega) W6.out hs (by omega) (pw_cell_below A6.out CA.out) (pw_cell_below A6.out CP.out)).mono ?_; rintro e w7 ⟨rfl, W7, B7⟩;
        rw [hkn] at W7; have V7 := HD.out ▸ Row_textL hl7 c6 W7; have N7 := Aside0.mk (blk_below N5.out B7); have T7 := Aside0.mk (blk_below T5.out B7); have R7 := Aside0.mk (blk_below R5.out B7); have A7' := Aside0.mk (below_step B5.out B7); clear W7 B7;
        have n7 := (blk_cell N7.out 6).trans (show _ = some (Value.string (rd_T59 l0 (i : Int)).f6) from rfl); have q7 := blk_frozen N7.out 6))
  have B := blk_set N7.out 6 (.string nd)
  simp only [List.setIfInBounds_toArray, List.set_cons_zero, List.set_cons_succ] at B
  have N8 := Aside0.mk B
  have T8 := Aside0.mk (blk_far (p := ⟨gn, 6, none⟩) T7.out (by have := G4.out; dsimp only; omega) (.string nd))
  have R8 := Aside0.mk (blk_far (p := ⟨gn, 6, none⟩) R7.out (by have := G4.out; dsimp only; omega) (.string nd))
  have B8 := Aside0.mk (below_set (g := gn) A7'.out (by have := G4.out; omega) (j := 6) (v := .string nd))
  clear B N7 T7 R7 A7' V7 n7 q7 W6 B6 A6 N5 T5 R5
  generalize w7.setCell ⟨gn, 6, none⟩ (.string nd) = w8 at N8 T8 R8 B8 ⊢
  have t0 := (blk_cell T8.out 0).trans (show _ = some (Value.slice (some ad) l0.length c0) from rfl)
  have t1 := (blk_cell T8.out 1).trans (show _ = some (Value.int .i64 m) from rfl)
  have t2 := (blk_cell T8.out 2).trans (show _ = some (Value.int .i64 q) from rfl)
  have n0 := (blk_cell N8.out 0).trans (show _ = some (Value.int .i64 (rd_T59 l0 (i : Int)).f0) from rfl)
  have n1 := (blk_cell N8.out 1).trans (show _ = some (Value.int .i64 (rd_T59 l0 (i : Int)).f1) from rfl)
  have n2 := (blk_cell N8.out 2).trans (show _ = some (Value.int .i64 (rd_T59 l0 (i : Int)).f2) from rfl)
  have n3 := (blk_cell N8.out 3).trans (show _ = some (Value.int .i64 (rd_T59 l0 (i : Int)).f3) from rfl)
  have n4 := (blk_cell N8.out 4).trans (show _ = some (Value.int .i64 (rd_T59 l0 (i : Int)).f4) from rfl)
  have n5 := (blk_cell N8.out 5).trans (show _ = some (Value.int .i64 (rd_T59 l0 (i : Int)).f5) from rfl)
  have n6 := (blk_cell N8.out 6).trans (show _ = some (Value.string nd) from rfl)
  have n7 := (blk_cell N8.out 7).trans (show _ = some (Value.slice A7 (rd_T59 l0 (i : Int)).f7.length c7) from rfl)
  go_wp2_with (first
    | (go_at_call 37; refine (Set_ok ad l0.length c0 cs m q i { (rd_T59 l0 (i : Int)) with f6 := nd } A7 (rd_T59 l0 (i : Int)).f7.length c7 _ HN.out hi HL.out (fun j u hj => pw_cell_below B8.out (HW.out j u hj)) H1.out).mono ?_; rintro e w9 ⟨g, cap, cur, rfl, hg, hcap, hcur, htk, hb⟩;
        have R9 := Aside0.mk (blk_below R8.out hb); have D9 := Aside0.mk hcur; have P9 := Aside0.mk htk; have G9 := Aside0.mk (And.intro (Nat.lt_of_lt_of_le (blk_lt R8.out) hg) hcap); have B9 := Aside0.mk (below_step B8.out hb); clear hg hcap hcur htk hb;
        have z0 := (blk_cell R9.out 0).trans (show _ = some (Value.slice none 0 0) from rfl);
        have z1 := (blk_cell R9.out 1).trans (show _ = some (Value.int .i64 0) from rfl);
        have z2 := (blk_cell R9.out 2).trans (show _ = some (Value.int .i64 0) from rfl);
        have qf := fun j => blk_frozen R9.out j))
  have B := blk_set (blk_set (blk_set R9.out 0 (.slice (some ⟨g, 0, none⟩) l0.length cap)) 1 (.int .i64 m)) 2 (.int .i64 q)
  have r0 := (blk_cell B 0).trans (show _ = some (Value.slice (some ⟨g, 0, none⟩) l0.length cap) from rfl)
  have r1 := (blk_cell B 1).trans (show _ = some (Value.int .i64 m) from rfl)
  have r2 := (blk_cell B 2).trans (show _ = some (Value.int .i64 q) from rfl)
  refine bodyPost_ret (v := .tuple #[.agg #[.slice (some ⟨g, 0, none⟩) l0.length cap, .int .i64 m, .int .i64 q], .int .i64 0]) (by simp [results, Try.results27, go_sem, r0, r1, r2]) rfl ?_
  have hG := G9.out
  exact ⟨g, cap, cur, rfl, by omega, hG.2, blk_far (p := ⟨w.heap.size + 1, 2, none⟩) (blk_far (p := ⟨w.heap.size + 1, 1, none⟩) (blk_far (p := ⟨w.heap.size + 1, 0, none⟩) D9.out (by dsimp only; omega) _) (by dsimp only; omega) _) (by dsimp only; omega) _, P9.out, below_set (g := w.heap.size + 1) (below_set (g := w.heap.size + 1) (below_set (g := w.heap.size + 1) B9.out (by omega) (j := 0) (v := .slice (some ⟨g, 0, none⟩) l0.length cap)) (by omega) (j := 1) (v := .int .i64 m)) (by omega) (j := 2) (v := .int .i64 q)⟩
set_option maxHeartbeats 2000000 in
set_option maxRecDepth 100000 in
theorem turned31_kept (pa : Nat) (ad : Addr) (c0 : Nat) (l0 : List S59) (m q : Int) (i : Nat) (A7 : Option Addr) (c7 : Nat) (cs : List Value) (w : World) (hr : Kd.C k59 w (some ad) l0.length l0) (hi : i < l0.length) (h0 : (rd_T59 l0 (i : Int)).f0 = 1) (h7 : w.cell? ⟨(ad.add (i * 8)).block, (ad.add (i * 8)).off + 7, none⟩ = some (.slice A7 (rd_T59 l0 (i : Int)).f7.length c7))
    (hn : l0.length ≤ 1000) (hl : cs.length = l0.length * 8) (hc : ∀ j u, cs[j]? = some u → w.cell? (ad.add j) = some u) (h1 : ∀ u ∈ cs, u.oneCell' = true) (was n : Nat) (hwas : (rd_T59 l0 (i : Int)).f6.size = was) (S : Int) (hS : bytesSum l0 0 = S) (hS0 : 0 ≤ S) (hS1 : S ≤ 1000000) (hw1 : was ≤ 5000) (hn1 : n ≤ 5000) (ca : w.cell? ⟨pa, 0, none⟩ = some (.int .i64 n)) (hle : n ≤ was) (nd : ByteArray) (hnd : (⟨((rd_T59 l0 (i : Int)).f6.data.toList.take n).toArray⟩ : ByteArray) = nd) :
    Calls Try.prog 27 #[.agg #[.slice (some ad) l0.length c0, .int .i64 m, .int .i64 q], .int .i64 i, .int .i64 n, .func (.func 31) #[] #[.pointer (some ⟨pa, 0, none⟩)]] w fun e w' => ∃ (g cap : Nat) (cur : Array Value), e = .returned (.tuple #[.agg #[.slice (some ⟨g, 0, none⟩) l0.length cap, .int .i64 m, .int .i64 q], .int .i64 0]) ∧ w.heap.size ≤ g ∧ l0.length ≤ cap ∧ w'.heap[g]? = some (.cells cur 59 (0, 0)) ∧ cur.toList.take (l0.length * 8) = cs.take (i * 8) ++ ([.int .i64 (rd_T59 l0 (i : Int)).f0, .int .i64 (rd_T59 l0 (i : Int)).f1, .int .i64 (rd_T59 l0 (i : Int)).f2, .int .i64 (rd_T59 l0 (i : Int)).f3, .int .i64 (rd_T59 l0 (i : Int)).f4, .int .i64 (rd_T59 l0 (i : Int)).f5, .string nd, .slice A7 (rd_T59 l0 (i : Int)).f7.length c7] ++ cs.drop (i * 8 + 8)) ∧ Below w.heap.size w w' := by
  have HD := Aside0.mk hnd
  have CA := Aside0.mk ca
  clear hnd ca
  have c1 : decide ((was : Int) < (n : Int)) = false := decide_eq_false (by omega)
  have c2 : decide (was < n) = false := decide_eq_false (by omega)
  have c3 : ¬ was < n := by omega
  have hu24 := Try.underlying24
  have hu59 := Try.underlying59
  have hB := Aside0.mk (below_alloc (below_alloc (Below.refl w.heap.size w) (.cells #[.slice (some ad) l0.length c0, .int .i64 m, .int .i64 q] 24)) (.cells #[.slice none 0 0, .int .i64 0, .int .i64 0] 24))
  have hT := Aside0.mk (show ((w.alloc (.cells #[.slice (some ad) l0.length c0, .int .i64 m, .int .i64 q] 24)).alloc (.cells #[.slice none 0 0, .int .i64 0, .int .i64 0] 24)).heap[w.heap.size]? = some (.cells #[.slice (some ad) l0.length c0, .int .i64 m, .int .i64 q] 24 (0, 0)) from blk_alloc (blk_new w _) _)
  have hR := Aside0.mk (show ((w.alloc (.cells #[.slice (some ad) l0.length c0, .int .i64 m, .int .i64 q] 24)).alloc (.cells #[.slice none 0 0, .int .i64 0, .int .i64 0] 24)).heap[w.heap.size + 1]? = some (.cells #[.slice none 0 0, .int .i64 0, .int .i64 0] 24 (0, 0)) from by simpa using blk_new (w.alloc (.cells #[.slice (some ad) l0.length c0, .int .i64 m, .int .i64 q] 24)) (.cells #[.slice none 0 0, .int .i64 0, .int .i64 0] 24))
  have HR := Aside0.mk (Kd.C_below hr hB.out)
  have H7 := Aside0.mk (pw_cell_below hB.out h7)
  have H0 := Aside0.mk h0
  have HC := Aside0.mk (fun (j : Nat) (u : Value) (hj : cs[j]? = some u) => pw_cell_below hB.out (hc j u hj))
  have H1 := Aside0.mk h1
  have HW := Aside0.mk hc
  have HL := Aside0.mk hl
  have HN := Aside0.mk hn
  have HS := Aside0.mk hS
  clear hr h7 h0 hc h1 hl hn hS
  go_enter Try.func27, Try.ntmps27
  go_upto_region 1 with (fail)
  generalize ((w.alloc (.cells #[.slice (some ad) l0.length c0, .int .i64 m, .int .i64 q] 24)).alloc (.cells #[.slice none 0 0, .int .i64 0, .int .i64 0] 24)) = w2 at hB hT hR HR H7 HC ⊢
  have t0 := (blk_cell hT.out 0).trans (show _ = some (Value.slice (some ad) l0.length c0) from rfl)
  have t1 := (blk_cell hT.out 1).trans (show _ = some (Value.int .i64 m) from rfl)
  have t2 := (blk_cell hT.out 2).trans (show _ = some (Value.int .i64 q) from rfl)
  go_upto_region 2 with (first
    | (go_at_call 24; refine (File_at ad c0 l0 m q i A7 c7 _ HR.out hi H0.out H7.out).mono ?_; rintro e w3 ⟨rfl, hb⟩;
        have T3 := Aside0.mk (blk_below hT.out hb); have R3 := Aside0.mk (blk_below hR.out hb); have B3 := Aside0.mk (below_step hB.out hb); have Z3 := Aside0.mk (blk_lt (blk_below hR.out hb));
        have M3 := Aside0.mk (And.intro (Kd.C_below HR.out hb) (fun (j : Nat) (u : Value) (hj : cs[j]? = some u) => pw_cell_below hb (HC.out j u hj)))))
  have N4 := Aside0.mk (blk_new w3 (.cells #[.int .i64 (rd_T59 l0 (i : Int)).f0, .int .i64 (rd_T59 l0 (i : Int)).f1, .int .i64 (rd_T59 l0 (i : Int)).f2, .int .i64 (rd_T59 l0 (i : Int)).f3, .int .i64 (rd_T59 l0 (i : Int)).f4, .int .i64 (rd_T59 l0 (i : Int)).f5, .string (rd_T59 l0 (i : Int)).f6, .slice A7 (rd_T59 l0 (i : Int)).f7.length c7] 59))
  have T4 := Aside0.mk (blk_alloc T3.out (.cells #[.int .i64 (rd_T59 l0 (i : Int)).f0, .int .i64 (rd_T59 l0 (i : Int)).f1, .int .i64 (rd_T59 l0 (i : Int)).f2, .int .i64 (rd_T59 l0 (i : Int)).f3, .int .i64 (rd_T59 l0 (i : Int)).f4, .int .i64 (rd_T59 l0 (i : Int)).f5, .string (rd_T59 l0 (i : Int)).f6, .slice A7 (rd_T59 l0 (i : Int)).f7.length c7] 59))
  have R4 := Aside0.mk (blk_alloc R3.out (.cells #[.int .i64 (rd_T59 l0 (i : Int)).f0, .int .i64 (rd_T59 l0 (i : Int)).f1, .int .i64 (rd_T59 l0 (i : Int)).f2, .int .i64 (rd_T59 l0 (i : Int)).f3, .int .i64 (rd_T59 l0 (i : Int)).f4, .int .i64 (rd_T59 l0 (i : Int)).f5, .string (rd_T59 l0 (i : Int)).f6, .slice A7 (rd_T59 l0 (i : Int)).f7.length c7] 59))
  have B4 := Aside0.mk (below_alloc B3.out (.cells #[.int .i64 (rd_T59 l0 (i : Int)).f0, .int .i64 (rd_T59 l0 (i : Int)).f1, .int .i64 (rd_T59 l0 (i : Int)).f2, .int .i64 (rd_T59 l0 (i : Int)).f3, .int .i64 (rd_T59 l0 (i : Int)).f4, .int .i64 (rd_T59 l0 (i : Int)).f5, .string (rd_T59 l0 (i : Int)).f6, .slice A7 (rd_T59 l0 (i : Int)).f7.length c7] 59))
  have M4 := Aside0.mk (And.intro (Kd.C_below M3.out.1 (below_alloc (Below.refl w3.heap.size w3) (.cells #[.int .i64 (rd_T59 l0 (i : Int)).f0, .int .i64 (rd_T59 l0 (i : Int)).f1, .int .i64 (rd_T59 l0 (i : Int)).f2, .int .i64 (rd_T59 l0 (i : Int)).f3, .int .i64 (rd_T59 l0 (i : Int)).f4, .int .i64 (rd_T59 l0 (i : Int)).f5, .string (rd_T59 l0 (i : Int)).f6, .slice A7 (rd_T59 l0 (i : Int)).f7.length c7] 59))) (fun (j : Nat) (u : Value) (hj : cs[j]? = some u) => pw_cell_below (below_alloc (Below.refl w3.heap.size w3) (.cells #[.int .i64 (rd_T59 l0 (i : Int)).f0, .int .i64 (rd_T59 l0 (i : Int)).f1, .int .i64 (rd_T59 l0 (i : Int)).f2, .int .i64 (rd_T59 l0 (i : Int)).f3, .int .i64 (rd_T59 l0 (i : Int)).f4, .int .i64 (rd_T59 l0 (i : Int)).f5, .string (rd_T59 l0 (i : Int)).f6, .slice A7 (rd_T59 l0 (i : Int)).f7.length c7] 59)) (M3.out.2 j u hj)))
  obtain ⟨gn, hgn⟩ : ∃ gn, gn = w3.heap.size := ⟨_, rfl⟩
  have G4 := Aside0.mk (show w.heap.size + 1 < gn by rw [hgn]; exact Z3.out)
  rw [← hgn] at N4 ⊢
  clear hgn T3 R3 B3 M3 Z3 hT hR hB HR HC H7 t0 t1 t2 hb
  generalize w3.alloc (.cells #[.int .i64 (rd_T59 l0 (i : Int)).f0, .int .i64 (rd_T59 l0 (i : Int)).f1, .int .i64 (rd_T59 l0 (i : Int)).f2, .int .i64 (rd_T59 l0 (i : Int)).f3, .int .i64 (rd_T59 l0 (i : Int)).f4, .int .i64 (rd_T59 l0 (i : Int)).f5, .string (rd_T59 l0 (i : Int)).f6, .slice A7 (rd_T59 l0 (i : Int)).f7.length c7] 59) = w4 at N4 T4 R4 B4 M4 ⊢
  have t0 := (blk_cell T4.out 0).trans (show _ = some (Value.slice (some ad) l0.length c0) from rfl)
  have t1 := (blk_cell T4.out 1).trans (show _ = some (Value.int .i64 m) from rfl)
  have t2 := (blk_cell T4.out 2).trans (show _ = some (Value.int .i64 q) from rfl)
  have n6 := (blk_cell N4.out 6).trans (show _ = some (Value.string (rd_T59 l0 (i : Int)).f6) from rfl)
  go_upto_region 5 with (fail)
  have s1 : IntKind.i64.wrap (S - (was : Int)) = S - (was : Int) := by rw [IntKind.wrap_i64]; omega
  have s2 : IntKind.i64.wrap (S - (was : Int) + (n : Int)) = S - (was : Int) + (n : Int) := by rw [IntKind.wrap_i64]; omega
  have BZ := Aside0.mk (Below.refl w4.heap.size w4)
  go_cut [40] (fun v40 wc => v40 = .bool false ∧ Aside0 (Below w4.heap.size w4 wc))
  case first =>
    go_quiet (fail)
    go_wp2_with fail
    go_meet
    case rel => exact ⟨rfl, ⟨by repeat (first | (with_reducible first | exact BZ.out | apply pw_below_drewN | apply below_drew1) | exact BZ.out)⟩⟩
  case rest =>
  obtain ⟨rfl, BC⟩ := hcut
  have T5 := Aside0.mk (blk_below T4.out BC.out)
  have N5 := Aside0.mk (blk_below N4.out BC.out)
  have R5 := Aside0.mk (blk_below R4.out BC.out)
  have B5 := Aside0.mk (below_step B4.out BC.out)
  have M5 := Aside0.mk (And.intro (Kd.C_below M4.out.1 BC.out) (fun (j : Nat) (u : Value) (hj : cs[j]? = some u) => pw_cell_below BC.out (M4.out.2 j u hj)))
  have L5 := Aside0.mk BC.out.size
  clear T4 N4 R4 B4 M4 BC BZ t0 t1 t2 n6
  have t0 := (blk_cell T5.out 0).trans (show _ = some (Value.slice (some ad) l0.length c0) from rfl)
  have t1 := (blk_cell T5.out 1).trans (show _ = some (Value.int .i64 m) from rfl)
  have t2 := (blk_cell T5.out 2).trans (show _ = some (Value.int .i64 q) from rfl)
  have n6 := (blk_cell N5.out 6).trans (show _ = some (Value.string (rd_T59 l0 (i : Int)).f6) from rfl)
  have hcv := fun (W : World) => Lib.run_convert_string_bytes (P := Try.prog) W 9 66 5 (rd_T59 l0 (i : Int)).f6 Try.underlying9 Try.underlying66 Try.underlying5
  have hsz : (rd_T59 l0 (i : Int)).f6.data.toList.length = was := by rw [← hwas]; simp
  go_upto_region 8 with (fail)
  have W6 := Aside0.mk (Row_bytes wc (rd_T59 l0 (i : Int)).f6)
  have O6 := Aside0.mk (hwas ▸ Room_bytes wc (rd_T59 l0 (i : Int)).f6)
  have B6 := Aside0.mk (below_bytes wc (rd_T59 l0 (i : Int)).f6)
  obtain ⟨gb, hgb⟩ : ∃ gb, gb = wc.heap.size := ⟨_, rfl⟩
  have GB := Aside0.mk (Nat.le_of_eq hgb.symm)
  rw [← hgb] at W6 O6 ⊢
  clear n6 t0 t1 t2 hcv
  obtain ⟨c6, ec6⟩ : ∃ c6, c6 = grownCap wc was 0 5 := ⟨_, rfl⟩
  rw [← ec6] at O6 ⊢
  have C6 := Aside0.mk (show was ≤ c6 by rw [ec6]; exact grownCap_ge wc was 0 5)
  have L6 := Aside0.mk (show gb < (Lib.bytesWorld wc 5 (rd_T59 l0 (i : Int)).f6).heap.size by rw [Lib.bytesWorld_size]; omega)
  clear hgb ec6
  generalize Lib.bytesWorld wc 5 (rd_T59 l0 (i : Int)).f6 = w6 at W6 O6 B6 L6 ⊢
  obtain ⟨w5, ew5⟩ : ∃ w5, w5 = wc := ⟨_, rfl⟩
  subst ew5
  have A6 := Aside0.mk (below_step B5.out B6.out)
  have hl6 : (rd_T59 l0 (i : Int)).f6.data.toList.length = was := by exact hsz
  have hl7 : ((rd_T59 l0 (i : Int)).f6.data.toList.take n).length = n := by rw [List.length_take, hl6]; omega
  go_upto_region 11 with (first
    | (go_at_call 31; refine (turn31L was gb c6 n (rd_T59 l0 (i : Int)).f6.data.toList pa _ w5 w5.heap.size hl6 B6.out C6.out W6.out (by omega) (pw_cell_below A6.out CA.out)).mono ?_; rintro e w7 ⟨rfl, W7, B7⟩;
        have V7 := HD.out ▸ Row_textL hl7 c6 W7; have N7 := Aside0.mk (blk_below N5.out B7); have T7 := Aside0.mk (blk_below T5.out B7); have R7 := Aside0.mk (blk_below R5.out B7); have A7' := Aside0.mk (below_step B5.out B7); clear W7 B7;
        have n7 := (blk_cell N7.out 6).trans (show _ = some (Value.string (rd_T59 l0 (i : Int)).f6) from rfl); have q7 := blk_frozen N7.out 6))
  have B := blk_set N7.out 6 (.string nd)
  simp only [List.setIfInBounds_toArray, List.set_cons_zero, List.set_cons_succ] at B
  have N8 := Aside0.mk B
  have T8 := Aside0.mk (blk_far (p := ⟨gn, 6, none⟩) T7.out (by have := G4.out; dsimp only; omega) (.string nd))
  have R8 := Aside0.mk (blk_far (p := ⟨gn, 6, none⟩) R7.out (by have := G4.out; dsimp only; omega) (.string nd))
  have B8 := Aside0.mk (below_set (g := gn) A7'.out (by have := G4.out; omega) (j := 6) (v := .string nd))
  clear B N7 T7 R7 A7' V7 n7 q7 W6 B6 A6 N5 T5 R5
  generalize w7.setCell ⟨gn, 6, none⟩ (.string nd) = w8 at N8 T8 R8 B8 ⊢
  have t0 := (blk_cell T8.out 0).trans (show _ = some (Value.slice (some ad) l0.length c0) from rfl)
  have t1 := (blk_cell T8.out 1).trans (show _ = some (Value.int .i64 m) from rfl)
  have t2 := (blk_cell T8.out 2).trans (show _ = some (Value.int .i64 q) from rfl)
  have n0 := (blk_cell N8.out 0).trans (show _ = some (Value.int .i64 (rd_T59 l0 (i : Int)).f0) from rfl)
  have n1 := (blk_cell N8.out 1).trans (show _ = some (Value.int .i64 (rd_T59 l0 (i : Int)).f1) from rfl)
  have n2 := (blk_cell N8.out 2).trans (show _ = some (Value.int .i64 (rd_T59 l0 (i : Int)).f2) from rfl)
  have n3 := (blk_cell N8.out 3).trans (show _ = some (Value.int .i64 (rd_T59 l0 (i : Int)).f3) from rfl)
  have n4 := (blk_cell N8.out 4).trans (show _ = some (Value.int .i64 (rd_T59 l0 (i : Int)).f4) from rfl)
  have n5 := (blk_cell N8.out 5).trans (show _ = some (Value.int .i64 (rd_T59 l0 (i : Int)).f5) from rfl)
  have n6 := (blk_cell N8.out 6).trans (show _ = some (Value.string nd) from rfl)
  have n7 := (blk_cell N8.out 7).trans (show _ = some (Value.slice A7 (rd_T59 l0 (i : Int)).f7.length c7) from rfl)
  go_wp2_with (first
    | (go_at_call 37; refine (Set_ok ad l0.length c0 cs m q i { (rd_T59 l0 (i : Int)) with f6 := nd } A7 (rd_T59 l0 (i : Int)).f7.length c7 _ HN.out hi HL.out (fun j u hj => pw_cell_below B8.out (HW.out j u hj)) H1.out).mono ?_; rintro e w9 ⟨g, cap, cur, rfl, hg, hcap, hcur, htk, hb⟩;
        have R9 := Aside0.mk (blk_below R8.out hb); have D9 := Aside0.mk hcur; have P9 := Aside0.mk htk; have G9 := Aside0.mk (And.intro (Nat.lt_of_lt_of_le (blk_lt R8.out) hg) hcap); have B9 := Aside0.mk (below_step B8.out hb); clear hg hcap hcur htk hb;
        have z0 := (blk_cell R9.out 0).trans (show _ = some (Value.slice none 0 0) from rfl);
        have z1 := (blk_cell R9.out 1).trans (show _ = some (Value.int .i64 0) from rfl);
        have z2 := (blk_cell R9.out 2).trans (show _ = some (Value.int .i64 0) from rfl);
        have qf := fun j => blk_frozen R9.out j))
  have B := blk_set (blk_set (blk_set R9.out 0 (.slice (some ⟨g, 0, none⟩) l0.length cap)) 1 (.int .i64 m)) 2 (.int .i64 q)
  have r0 := (blk_cell B 0).trans (show _ = some (Value.slice (some ⟨g, 0, none⟩) l0.length cap) from rfl)
  have r1 := (blk_cell B 1).trans (show _ = some (Value.int .i64 m) from rfl)
  have r2 := (blk_cell B 2).trans (show _ = some (Value.int .i64 q) from rfl)
  refine bodyPost_ret (v := .tuple #[.agg #[.slice (some ⟨g, 0, none⟩) l0.length cap, .int .i64 m, .int .i64 q], .int .i64 0]) (by simp [results, Try.results27, go_sem, r0, r1, r2]) rfl ?_
  have hG := G9.out
  exact ⟨g, cap, cur, rfl, by omega, hG.2, blk_far (p := ⟨w.heap.size + 1, 2, none⟩) (blk_far (p := ⟨w.heap.size + 1, 1, none⟩) (blk_far (p := ⟨w.heap.size + 1, 0, none⟩) D9.out (by dsimp only; omega) _) (by dsimp only; omega) _) (by dsimp only; omega) _, P9.out, below_set (g := w.heap.size + 1) (below_set (g := w.heap.size + 1) (below_set (g := w.heap.size + 1) B9.out (by omega) (j := 0) (v := .slice (some ⟨g, 0, none⟩) l0.length cap)) (by omega) (j := 1) (v := .int .i64 m)) (by omega) (j := 2) (v := .int .i64 q)⟩
set_option maxHeartbeats 2000000 in
set_option maxRecDepth 100000 in
theorem turned31_grown (pa : Nat) (ad : Addr) (c0 : Nat) (l0 : List S59) (m q : Int) (i : Nat) (A7 : Option Addr) (c7 : Nat) (cs : List Value) (w : World) (hr : Kd.C k59 w (some ad) l0.length l0) (hi : i < l0.length) (h0 : (rd_T59 l0 (i : Int)).f0 = 1) (h7 : w.cell? ⟨(ad.add (i * 8)).block, (ad.add (i * 8)).off + 7, none⟩ = some (.slice A7 (rd_T59 l0 (i : Int)).f7.length c7))
    (hn : l0.length ≤ 1000) (hl : cs.length = l0.length * 8) (hc : ∀ j u, cs[j]? = some u → w.cell? (ad.add j) = some u) (h1 : ∀ u ∈ cs, u.oneCell' = true) (was n : Nat) (hwas : (rd_T59 l0 (i : Int)).f6.size = was) (S : Int) (hS : bytesSum l0 0 = S) (hS0 : 0 ≤ S) (hS1 : S ≤ 1000000) (hw1 : was ≤ 5000) (hn1 : n ≤ 5000) (ca : w.cell? ⟨pa, 0, none⟩ = some (.int .i64 n)) (hlt : was < n) (hroom : S - was + n ≤ q) (nd : ByteArray) (hnd : (⟨(((rd_T59 l0 (i : Int)).f6.data.toList ++ List.replicate (n - was) 0).take n).toArray⟩ : ByteArray) = nd) :
    Calls Try.prog 27 #[.agg #[.slice (some ad) l0.length c0, .int .i64 m, .int .i64 q], .int .i64 i, .int .i64 n, .func (.func 31) #[] #[.pointer (some ⟨pa, 0, none⟩)]] w fun e w' => ∃ (g cap : Nat) (cur : Array Value), e = .returned (.tuple #[.agg #[.slice (some ⟨g, 0, none⟩) l0.length cap, .int .i64 m, .int .i64 q], .int .i64 0]) ∧ w.heap.size ≤ g ∧ l0.length ≤ cap ∧ w'.heap[g]? = some (.cells cur 59 (0, 0)) ∧ cur.toList.take (l0.length * 8) = cs.take (i * 8) ++ ([.int .i64 (rd_T59 l0 (i : Int)).f0, .int .i64 (rd_T59 l0 (i : Int)).f1, .int .i64 (rd_T59 l0 (i : Int)).f2, .int .i64 (rd_T59 l0 (i : Int)).f3, .int .i64 (rd_T59 l0 (i : Int)).f4, .int .i64 (rd_T59 l0 (i : Int)).f5, .string nd, .slice A7 (rd_T59 l0 (i : Int)).f7.length c7] ++ cs.drop (i * 8 + 8)) ∧ Below w.heap.size w w' := by
  have HD := Aside0.mk hnd
  have CA := Aside0.mk ca
  clear hnd ca
  have c1 : decide ((was : Int) < (n : Int)) = true := decide_eq_true (by omega)
  have c2 : decide (q < S - (was : Int) + (n : Int)) = false := decide_eq_false (by omega)
  have hu24 := Try.underlying24
  have hu59 := Try.underlying59
  have hB := Aside0.mk (below_alloc (below_alloc (Below.refl w.heap.size w) (.cells #[.slice (some ad) l0.length c0, .int .i64 m, .int .i64 q] 24)) (.cells #[.slice none 0 0, .int .i64 0, .int .i64 0] 24))
  have hT := Aside0.mk (show ((w.alloc (.cells #[.slice (some ad) l0.length c0, .int .i64 m, .int .i64 q] 24)).alloc (.cells #[.slice none 0 0, .int .i64 0, .int .i64 0] 24)).heap[w.heap.size]? = some (.cells #[.slice (some ad) l0.length c0, .int .i64 m, .int .i64 q] 24 (0, 0)) from blk_alloc (blk_new w _) _)
  have hR := Aside0.mk (show ((w.alloc (.cells #[.slice (some ad) l0.length c0, .int .i64 m, .int .i64 q] 24)).alloc (.cells #[.slice none 0 0, .int .i64 0, .int .i64 0] 24)).heap[w.heap.size + 1]? = some (.cells #[.slice none 0 0, .int .i64 0, .int .i64 0] 24 (0, 0)) from by simpa using blk_new (w.alloc (.cells #[.slice (some ad) l0.length c0, .int .i64 m, .int .i64 q] 24)) (.cells #[.slice none 0 0, .int .i64 0, .int .i64 0] 24))
  have HR := Aside0.mk (Kd.C_below hr hB.out)
  have H7 := Aside0.mk (pw_cell_below hB.out h7)
  have H0 := Aside0.mk h0
  have HC := Aside0.mk (fun (j : Nat) (u : Value) (hj : cs[j]? = some u) => pw_cell_below hB.out (hc j u hj))
  have H1 := Aside0.mk h1
  have HW := Aside0.mk hc
  have HL := Aside0.mk hl
  have HN := Aside0.mk hn
  have HS := Aside0.mk hS
  clear hr h7 h0 hc h1 hl hn hS
  go_enter Try.func27, Try.ntmps27
  go_upto_region 1 with (fail)
  generalize ((w.alloc (.cells #[.slice (some ad) l0.length c0, .int .i64 m, .int .i64 q] 24)).alloc (.cells #[.slice none 0 0, .int .i64 0, .int .i64 0] 24)) = w2 at hB hT hR HR H7 HC ⊢
  have t0 := (blk_cell hT.out 0).trans (show _ = some (Value.slice (some ad) l0.length c0) from rfl)
  have t1 := (blk_cell hT.out 1).trans (show _ = some (Value.int .i64 m) from rfl)
  have t2 := (blk_cell hT.out 2).trans (show _ = some (Value.int .i64 q) from rfl)
  go_upto_region 2 with (first
    | (go_at_call 24; refine (File_at ad c0 l0 m q i A7 c7 _ HR.out hi H0.out H7.out).mono ?_; rintro e w3 ⟨rfl, hb⟩;
        have T3 := Aside0.mk (blk_below hT.out hb); have R3 := Aside0.mk (blk_below hR.out hb); have B3 := Aside0.mk (below_step hB.out hb); have Z3 := Aside0.mk (blk_lt (blk_below hR.out hb));
        have M3 := Aside0.mk (And.intro (Kd.C_below HR.out hb) (fun (j : Nat) (u : Value) (hj : cs[j]? = some u) => pw_cell_below hb (HC.out j u hj)))))
  have N4 := Aside0.mk (blk_new w3 (.cells #[.int .i64 (rd_T59 l0 (i : Int)).f0, .int .i64 (rd_T59 l0 (i : Int)).f1, .int .i64 (rd_T59 l0 (i : Int)).f2, .int .i64 (rd_T59 l0 (i : Int)).f3, .int .i64 (rd_T59 l0 (i : Int)).f4, .int .i64 (rd_T59 l0 (i : Int)).f5, .string (rd_T59 l0 (i : Int)).f6, .slice A7 (rd_T59 l0 (i : Int)).f7.length c7] 59))
  have T4 := Aside0.mk (blk_alloc T3.out (.cells #[.int .i64 (rd_T59 l0 (i : Int)).f0, .int .i64 (rd_T59 l0 (i : Int)).f1, .int .i64 (rd_T59 l0 (i : Int)).f2, .int .i64 (rd_T59 l0 (i : Int)).f3, .int .i64 (rd_T59 l0 (i : Int)).f4, .int .i64 (rd_T59 l0 (i : Int)).f5, .string (rd_T59 l0 (i : Int)).f6, .slice A7 (rd_T59 l0 (i : Int)).f7.length c7] 59))
  have R4 := Aside0.mk (blk_alloc R3.out (.cells #[.int .i64 (rd_T59 l0 (i : Int)).f0, .int .i64 (rd_T59 l0 (i : Int)).f1, .int .i64 (rd_T59 l0 (i : Int)).f2, .int .i64 (rd_T59 l0 (i : Int)).f3, .int .i64 (rd_T59 l0 (i : Int)).f4, .int .i64 (rd_T59 l0 (i : Int)).f5, .string (rd_T59 l0 (i : Int)).f6, .slice A7 (rd_T59 l0 (i : Int)).f7.length c7] 59))
  have B4 := Aside0.mk (below_alloc B3.out (.cells #[.int .i64 (rd_T59 l0 (i : Int)).f0, .int .i64 (rd_T59 l0 (i : Int)).f1, .int .i64 (rd_T59 l0 (i : Int)).f2, .int .i64 (rd_T59 l0 (i : Int)).f3, .int .i64 (rd_T59 l0 (i : Int)).f4, .int .i64 (rd_T59 l0 (i : Int)).f5, .string (rd_T59 l0 (i : Int)).f6, .slice A7 (rd_T59 l0 (i : Int)).f7.length c7] 59))
  have M4 := Aside0.mk (And.intro (Kd.C_below M3.out.1 (below_alloc (Below.refl w3.heap.size w3) (.cells #[.int .i64 (rd_T59 l0 (i : Int)).f0, .int .i64 (rd_T59 l0 (i : Int)).f1, .int .i64 (rd_T59 l0 (i : Int)).f2, .int .i64 (rd_T59 l0 (i : Int)).f3, .int .i64 (rd_T59 l0 (i : Int)).f4, .int .i64 (rd_T59 l0 (i : Int)).f5, .string (rd_T59 l0 (i : Int)).f6, .slice A7 (rd_T59 l0 (i : Int)).f7.length c7] 59))) (fun (j : Nat) (u : Value) (hj : cs[j]? = some u) => pw_cell_below (below_alloc (Below.refl w3.heap.size w3) (.cells #[.int .i64 (rd_T59 l0 (i : Int)).f0, .int .i64 (rd_T59 l0 (i : Int)).f1, .int .i64 (rd_T59 l0 (i : Int)).f2, .int .i64 (rd_T59 l0 (i : Int)).f3, .int .i64 (rd_T59 l0 (i : Int)).f4, .int .i64 (rd_T59 l0 (i : Int)).f5, .string (rd_T59 l0 (i : Int)).f6, .slice A7 (rd_T59 l0 (i : Int)).f7.length c7] 59)) (M3.out.2 j u hj)))
  obtain ⟨gn, hgn⟩ : ∃ gn, gn = w3.heap.size := ⟨_, rfl⟩
  have G4 := Aside0.mk (show w.heap.size + 1 < gn by rw [hgn]; exact Z3.out)
  rw [← hgn] at N4 ⊢
  clear hgn T3 R3 B3 M3 Z3 hT hR hB HR HC H7 t0 t1 t2 hb
  generalize w3.alloc (.cells #[.int .i64 (rd_T59 l0 (i : Int)).f0, .int .i64 (rd_T59 l0 (i : Int)).f1, .int .i64 (rd_T59 l0 (i : Int)).f2, .int .i64 (rd_T59 l0 (i : Int)).f3, .int .i64 (rd_T59 l0 (i : Int)).f4, .int .i64 (rd_T59 l0 (i : Int)).f5, .string (rd_T59 l0 (i : Int)).f6, .slice A7 (rd_T59 l0 (i : Int)).f7.length c7] 59) = w4 at N4 T4 R4 B4 M4 ⊢
  have t0 := (blk_cell T4.out 0).trans (show _ = some (Value.slice (some ad) l0.length c0) from rfl)
  have t1 := (blk_cell T4.out 1).trans (show _ = some (Value.int .i64 m) from rfl)
  have t2 := (blk_cell T4.out 2).trans (show _ = some (Value.int .i64 q) from rfl)
  have n6 := (blk_cell N4.out 6).trans (show _ = some (Value.string (rd_T59 l0 (i : Int)).f6) from rfl)
  go_upto_region 5 with (fail)
  have s1 : IntKind.i64.wrap (S - (was : Int)) = S - (was : Int) := by rw [IntKind.wrap_i64]; omega
  have s2 : IntKind.i64.wrap (S - (was : Int) + (n : Int)) = S - (was : Int) + (n : Int) := by rw [IntKind.wrap_i64]; omega
  have BZ := Aside0.mk (Below.refl w4.heap.size w4)
  go_cut [40] (fun v40 wc => v40 = .bool false ∧ Aside0 (Below w4.heap.size w4 wc))
  case first =>
    go_region_with (first
      | (go_at_call 35; refine (Bytes_val (some ad) c0 l0 m q _ S HS.out (Kd.C_below M4.out.1 (by repeat (first | (with_reducible first | exact BZ.out | apply pw_below_drewN | apply below_drew1) | exact BZ.out))) HN.out).mono ?_; rintro e w5 ⟨rfl, hb⟩;
          have B5 := Aside0.mk (below_step (show Below w4.heap.size w4 _ by repeat (first | (with_reducible first | exact BZ.out | apply pw_below_drewN | apply below_drew1) | exact BZ.out)) hb); clear hb;
          have t5 := pw_cell_below B5.out t2))
    all_goals (
      go_wp2_with fail
      go_meet
      case rel => exact ⟨rfl, ⟨by repeat (first | (with_reducible first | exact B5.out | exact BZ.out | apply pw_below_drewN | apply below_drew1) | exact B5.out | exact BZ.out)⟩⟩)
  case rest =>
  obtain ⟨rfl, BC⟩ := hcut
  have T5 := Aside0.mk (blk_below T4.out BC.out)
  have N5 := Aside0.mk (blk_below N4.out BC.out)
  have R5 := Aside0.mk (blk_below R4.out BC.out)
  have B5 := Aside0.mk (below_step B4.out BC.out)
  have M5 := Aside0.mk (And.intro (Kd.C_below M4.out.1 BC.out) (fun (j : Nat) (u : Value) (hj : cs[j]? = some u) => pw_cell_below BC.out (M4.out.2 j u hj)))
  have L5 := Aside0.mk BC.out.size
  clear T4 N4 R4 B4 M4 BC BZ t0 t1 t2 n6
  have t0 := (blk_cell T5.out 0).trans (show _ = some (Value.slice (some ad) l0.length c0) from rfl)
  have t1 := (blk_cell T5.out 1).trans (show _ = some (Value.int .i64 m) from rfl)
  have t2 := (blk_cell T5.out 2).trans (show _ = some (Value.int .i64 q) from rfl)
  have n6 := (blk_cell N5.out 6).trans (show _ = some (Value.string (rd_T59 l0 (i : Int)).f6) from rfl)
  have hcv := fun (W : World) => Lib.run_convert_string_bytes (P := Try.prog) W 9 66 5 (rd_T59 l0 (i : Int)).f6 Try.underlying9 Try.underlying66 Try.underlying5
  have hsz : (rd_T59 l0 (i : Int)).f6.data.toList.length = was := by rw [← hwas]; simp
  go_upto_region 8 with (fail)
  have W6 := Aside0.mk (Row_bytes wc (rd_T59 l0 (i : Int)).f6)
  have O6 := Aside0.mk (hwas ▸ Room_bytes wc (rd_T59 l0 (i : Int)).f6)
  have B6 := Aside0.mk (below_bytes wc (rd_T59 l0 (i : Int)).f6)
  obtain ⟨gb, hgb⟩ : ∃ gb, gb = wc.heap.size := ⟨_, rfl⟩
  have GB := Aside0.mk (Nat.le_of_eq hgb.symm)
  rw [← hgb] at W6 O6 ⊢
  clear n6 t0 t1 t2 hcv
  obtain ⟨c6, ec6⟩ : ∃ c6, c6 = grownCap wc was 0 5 := ⟨_, rfl⟩
  rw [← ec6] at O6 ⊢
  have C6 := Aside0.mk (show was ≤ c6 by rw [ec6]; exact grownCap_ge wc was 0 5)
  have L6 := Aside0.mk (show gb < (Lib.bytesWorld wc 5 (rd_T59 l0 (i : Int)).f6).heap.size by rw [Lib.bytesWorld_size]; omega)
  clear hgb ec6
  generalize Lib.bytesWorld wc 5 (rd_T59 l0 (i : Int)).f6 = w6 at W6 O6 B6 L6 ⊢
  obtain ⟨w5, ew5⟩ : ∃ w5, w5 = wc := ⟨_, rfl⟩
  subst ew5
  have HZ := Aside0.mk hsz
  have HG := Aside0.mk (And.intro hlt hn1)
  go_upto_region 9 with (fail)
  go_cut [13] (fun v13 wx => ∃ (ga ca : Nat), v13 = .slice (some ⟨ga, 0, none⟩) n ca ∧ Aside0 (w5.heap.size ≤ ga ∧ n ≤ ca ∧ Row wx ga ((rd_T59 l0 (i : Int)).f6.data.toList ++ List.replicate (n - was) 0)) ∧ Aside0 (Below w5.heap.size w5 wx))
  case first =>
    go_wp2_with (first
      | (go_at_call 36; refine (Repeat_int ⟨w6.heap.size, 0, none⟩ _ (n - was) _ _ (by have := HG.out; omega) (by have := HG.out; omega) (by have := HG.out; omega) ((blk_cell (blk_new w6 (.cells #[.int .u8 0] 5)) 0).trans rfl)).mono ?_; rintro e w8 ⟨g, cur, rfl, hg, hcur, htk, hb⟩;
          have K8 := Aside0.mk (below_step (below_alloc (Below.refl w6.heap.size w6) (.cells #[.int .u8 0] 5)) hb); have D8 := Aside0.mk hcur; have P8 := Aside0.mk htk; clear hg hcur htk hb)
      | ((with_reducible refine wpList_append_row _ rfl (.tmp 48) (.tmp 53) rfl gb was c6 (rd_T59 l0 (i : Int)).f6.data.toList rfl HZ.out (Row_heap W6.out (K8.out.block gb L6.out)) (Room_heap O6.out (K8.out.block gb L6.out)) ⟨g, 0, none⟩ (n - was) (n - was) (List.replicate (n - was) 0) rfl (List.length_replicate ..) (news_cells D8.out P8.out) (by have := HG.out; omega) (by have := HG.out; omega) w5.heap.size w5 (below_step B6.out K8.out) GB.out (below_step B6.out K8.out).size ?_); intro ga ca w9 h9;
          have Q9 := Aside0.mk h9; clear h9))
    go_meet
    case rel =>
      have h9 : _ ∧ _ ∧ _ ∧ _ := Q9.out
      have e : was + (n - was) = n := by have := HG.out; omega
      rw [e] at h9 ⊢
      exact ⟨ga, ca, rfl, ⟨h9.1, h9.2.1, h9.2.2.1⟩, ⟨h9.2.2.2⟩⟩
  case rest =>
  clear W6 O6 B6 L6 C6 GB
  obtain ⟨gb, c6, rfl, X6, B6⟩ := hcut
  have GB := Aside0.mk X6.out.1
  have C6 := Aside0.mk X6.out.2.1
  have W6 := Aside0.mk X6.out.2.2
  have A6 := Aside0.mk (below_step B5.out B6.out)
  have hl6 : ((rd_T59 l0 (i : Int)).f6.data.toList ++ List.replicate (n - was) 0).length = n := by rw [List.length_append, List.length_replicate, hsz]; omega
  have hl7 : (((rd_T59 l0 (i : Int)).f6.data.toList ++ List.replicate (n - was) 0).take n).length = n := by rw [List.length_take, hl6]; omega
  go_upto_region 11 with (first
    | (go_at_call 31; refine (turn31L n gb c6 n ((rd_T59 l0 (i : Int)).f6.data.toList ++ List.replicate (n - was) 0) pa _ w5 w5.heap.size hl6 B6.out C6.out W6.out (by omega) (pw_cell_below A6.out CA.out)).mono ?_; rintro e w7 ⟨rfl, W7, B7⟩;
        have V7 := HD.out ▸ Row_textL hl7 c6 W7; have N7 := Aside0.mk (blk_below N5.out B7); have T7 := Aside0.mk (blk_below T5.out B7); have R7 := Aside0.mk (blk_below R5.out B7); have A7' := Aside0.mk (below_step B5.out B7); clear W7 B7;
        have n7 := (blk_cell N7.out 6).trans (show _ = some (Value.string (rd_T59 l0 (i : Int)).f6) from rfl); have q7 := blk_frozen N7.out 6))
  have B := blk_set N7.out 6 (.string nd)
  simp only [List.setIfInBounds_toArray, List.set_cons_zero, List.set_cons_succ] at B
  have N8 := Aside0.mk B
  have T8 := Aside0.mk (blk_far (p := ⟨gn, 6, none⟩) T7.out (by have := G4.out; dsimp only; omega) (.string nd))
  have R8 := Aside0.mk (blk_far (p := ⟨gn, 6, none⟩) R7.out (by have := G4.out; dsimp only; omega) (.string nd))
  have B8 := Aside0.mk (below_set (g := gn) A7'.out (by have := G4.out; omega) (j := 6) (v := .string nd))
  clear B N7 T7 R7 A7' V7 n7 q7 W6 B6 A6 N5 T5 R5
  generalize w7.setCell ⟨gn, 6, none⟩ (.string nd) = w8 at N8 T8 R8 B8 ⊢
  have t0 := (blk_cell T8.out 0).trans (show _ = some (Value.slice (some ad) l0.length c0) from rfl)
  have t1 := (blk_cell T8.out 1).trans (show _ = some (Value.int .i64 m) from rfl)
  have t2 := (blk_cell T8.out 2).trans (show _ = some (Value.int .i64 q) from rfl)
  have n0 := (blk_cell N8.out 0).trans (show _ = some (Value.int .i64 (rd_T59 l0 (i : Int)).f0) from rfl)
  have n1 := (blk_cell N8.out 1).trans (show _ = some (Value.int .i64 (rd_T59 l0 (i : Int)).f1) from rfl)
  have n2 := (blk_cell N8.out 2).trans (show _ = some (Value.int .i64 (rd_T59 l0 (i : Int)).f2) from rfl)
  have n3 := (blk_cell N8.out 3).trans (show _ = some (Value.int .i64 (rd_T59 l0 (i : Int)).f3) from rfl)
  have n4 := (blk_cell N8.out 4).trans (show _ = some (Value.int .i64 (rd_T59 l0 (i : Int)).f4) from rfl)
  have n5 := (blk_cell N8.out 5).trans (show _ = some (Value.int .i64 (rd_T59 l0 (i : Int)).f5) from rfl)
  have n6 := (blk_cell N8.out 6).trans (show _ = some (Value.string nd) from rfl)
  have n7 := (blk_cell N8.out 7).trans (show _ = some (Value.slice A7 (rd_T59 l0 (i : Int)).f7.length c7) from rfl)
  go_wp2_with (first
    | (go_at_call 37; refine (Set_ok ad l0.length c0 cs m q i { (rd_T59 l0 (i : Int)) with f6 := nd } A7 (rd_T59 l0 (i : Int)).f7.length c7 _ HN.out hi HL.out (fun j u hj => pw_cell_below B8.out (HW.out j u hj)) H1.out).mono ?_; rintro e w9 ⟨g, cap, cur, rfl, hg, hcap, hcur, htk, hb⟩;
        have R9 := Aside0.mk (blk_below R8.out hb); have D9 := Aside0.mk hcur; have P9 := Aside0.mk htk; have G9 := Aside0.mk (And.intro (Nat.lt_of_lt_of_le (blk_lt R8.out) hg) hcap); have B9 := Aside0.mk (below_step B8.out hb); clear hg hcap hcur htk hb;
        have z0 := (blk_cell R9.out 0).trans (show _ = some (Value.slice none 0 0) from rfl);
        have z1 := (blk_cell R9.out 1).trans (show _ = some (Value.int .i64 0) from rfl);
        have z2 := (blk_cell R9.out 2).trans (show _ = some (Value.int .i64 0) from rfl);
        have qf := fun j => blk_frozen R9.out j))
  have B := blk_set (blk_set (blk_set R9.out 0 (.slice (some ⟨g, 0, none⟩) l0.length cap)) 1 (.int .i64 m)) 2 (.int .i64 q)
  have r0 := (blk_cell B 0).trans (show _ = some (Value.slice (some ⟨g, 0, none⟩) l0.length cap) from rfl)
  have r1 := (blk_cell B 1).trans (show _ = some (Value.int .i64 m) from rfl)
  have r2 := (blk_cell B 2).trans (show _ = some (Value.int .i64 q) from rfl)
  refine bodyPost_ret (v := .tuple #[.agg #[.slice (some ⟨g, 0, none⟩) l0.length cap, .int .i64 m, .int .i64 q], .int .i64 0]) (by simp [results, Try.results27, go_sem, r0, r1, r2]) rfl ?_
  have hG := G9.out
  exact ⟨g, cap, cur, rfl, by omega, hG.2, blk_far (p := ⟨w.heap.size + 1, 2, none⟩) (blk_far (p := ⟨w.heap.size + 1, 1, none⟩) (blk_far (p := ⟨w.heap.size + 1, 0, none⟩) D9.out (by dsimp only; omega) _) (by dsimp only; omega) _) (by dsimp only; omega) _, P9.out, below_set (g := w.heap.size + 1) (below_set (g := w.heap.size + 1) (below_set (g := w.heap.size + 1) B9.out (by omega) (j := 0) (v := .slice (some ⟨g, 0, none⟩) l0.length cap)) (by omega) (j := 1) (v := .int .i64 m)) (by omega) (j := 2) (v := .int .i64 q)⟩
set_option maxHeartbeats 2000000 in
set_option maxRecDepth 100000 in
theorem turned28_grown (s : ByteArray) (k pa ps : Nat) (ad : Addr) (c0 : Nat) (l0 : List S59) (m q : Int) (i : Nat) (A7 : Option Addr) (c7 : Nat) (cs : List Value) (w : World) (hr : Kd.C k59 w (some ad) l0.length l0) (hi : i < l0.length) (h0 : (rd_T59 l0 (i : Int)).f0 = 1) (h7 : w.cell? ⟨(ad.add (i * 8)).block, (ad.add (i * 8)).off + 7, none⟩ = some (.slice A7 (rd_T59 l0 (i : Int)).f7.length c7))
    (hn : l0.length ≤ 1000) (hl : cs.length = l0.length * 8) (hc : ∀ j u, cs[j]? = some u → w.cell? (ad.add j) = some u) (h1 : ∀ u ∈ cs, u.oneCell' = true) (was n : Nat) (hwas : (rd_T59 l0 (i : Int)).f6.size = was) (S : Int) (hS : bytesSum l0 0 = S) (hS0 : 0 ≤ S) (hS1 : S ≤ 1000000) (hw1 : was ≤ 5000) (hn1 : n ≤ 5000) (hs : 0 < s.size) (hkn : k + s.size = n) (ca : w.cell? ⟨pa, 0, none⟩ = some (.int .i64 k)) (cp : w.cell? ⟨ps, 0, none⟩ = some (.string s)) (hlt : was < n) (hroom : S - was + n ≤ q) (nd : ByteArray) (hnd : (⟨(((rd_T59 l0 (i : Int)).f6.data.toList ++ List.replicate (n - was) 0).take k ++ (s.data.toList ++ ((rd_T59 l0 (i : Int)).f6.data.toList ++ List.replicate (n - was) 0).drop n)).toArray⟩ : ByteArray) = nd) :
    Calls Try.prog 27 #[.agg #[.slice (some ad) l0.length c0, .int .i64 m, .int .i64 q], .int .i64 i, .int .i64 n, .func (.func 28) #[] #[.pointer (some ⟨pa, 0, none⟩), .pointer (some ⟨ps, 0, none⟩)]] w fun e w' => ∃ (g cap : Nat) (cur : Array Value), e = .returned (.tuple #[.agg #[.slice (some ⟨g, 0, none⟩) l0.length cap, .int .i64 m, .int .i64 q], .int .i64 0]) ∧ w.heap.size ≤ g ∧ l0.length ≤ cap ∧ w'.heap[g]? = some (.cells cur 59 (0, 0)) ∧ cur.toList.take (l0.length * 8) = cs.take (i * 8) ++ ([.int .i64 (rd_T59 l0 (i : Int)).f0, .int .i64 (rd_T59 l0 (i : Int)).f1, .int .i64 (rd_T59 l0 (i : Int)).f2, .int .i64 (rd_T59 l0 (i : Int)).f3, .int .i64 (rd_T59 l0 (i : Int)).f4, .int .i64 (rd_T59 l0 (i : Int)).f5, .string nd, .slice A7 (rd_T59 l0 (i : Int)).f7.length c7] ++ cs.drop (i * 8 + 8)) ∧ Below w.heap.size w w' := by
  have HD := Aside0.mk hnd
  have CA := Aside0.mk ca
  have CP := Aside0.mk cp
  clear hnd ca cp
  have c1 : decide ((was : Int) < (n : Int)) = true := decide_eq_true (by omega)
  have c2 : decide (q < S - (was : Int) + (n : Int)) = false := decide_eq_false (by omega)
  have hu24 := Try.underlying24
  have hu59 := Try.underlying59
  have hB := Aside0.mk (below_alloc (below_alloc (Below.refl w.heap.size w) (.cells #[.slice (some ad) l0.length c0, .int .i64 m, .int .i64 q] 24)) (.cells #[.slice none 0 0, .int .i64 0, .int .i64 0] 24))
  have hT := Aside0.mk (show ((w.alloc (.cells #[.slice (some ad) l0.length c0, .int .i64 m, .int .i64 q] 24)).alloc (.cells #[.slice none 0 0, .int .i64 0, .int .i64 0] 24)).heap[w.heap.size]? = some (.cells #[.slice (some ad) l0.length c0, .int .i64 m, .int .i64 q] 24 (0, 0)) from blk_alloc (blk_new w _) _)
  have hR := Aside0.mk (show ((w.alloc (.cells #[.slice (some ad) l0.length c0, .int .i64 m, .int .i64 q] 24)).alloc (.cells #[.slice none 0 0, .int .i64 0, .int .i64 0] 24)).heap[w.heap.size + 1]? = some (.cells #[.slice none 0 0, .int .i64 0, .int .i64 0] 24 (0, 0)) from by simpa using blk_new (w.alloc (.cells #[.slice (some ad) l0.length c0, .int .i64 m, .int .i64 q] 24)) (.cells #[.slice none 0 0, .int .i64 0, .int .i64 0] 24))
  have HR := Aside0.mk (Kd.C_below hr hB.out)
  have H7 := Aside0.mk (pw_cell_below hB.out h7)
  have H0 := Aside0.mk h0
  have HC := Aside0.mk (fun (j : Nat) (u : Value) (hj : cs[j]? = some u) => pw_cell_below hB.out (hc j u hj))
  have H1 := Aside0.mk h1
  have HW := Aside0.mk hc
  have HL := Aside0.mk hl
  have HN := Aside0.mk hn
  have HS := Aside0.mk hS
  clear hr h7 h0 hc h1 hl hn hS
  go_enter Try.func27, Try.ntmps27
  go_upto_region 1 with (fail)
  generalize ((w.alloc (.cells #[.slice (some ad) l0.length c0, .int .i64 m, .int .i64 q] 24)).alloc (.cells #[.slice none 0 0, .int .i64 0, .int .i64 0] 24)) = w2 at hB hT hR HR H7 HC ⊢
  have t0 := (blk_cell hT.out 0).trans (show _ = some (Value.slice (some ad) l0.length c0) from rfl)
  have t1 := (blk_cell hT.out 1).trans (show _ = some (Value.int .i64 m) from rfl)
  have t2 := (blk_cell hT.out 2).trans (show _ = some (Value.int .i64 q) from rfl)
  go_upto_region 2 with (first
    | (go_at_call 24; refine (File_at ad c0 l0 m q i A7 c7 _ HR.out hi H0.out H7.out).mono ?_; rintro e w3 ⟨rfl, hb⟩;
        have T3 := Aside0.mk (blk_below hT.out hb); have R3 := Aside0.mk (blk_below hR.out hb); have B3 := Aside0.mk (below_step hB.out hb); have Z3 := Aside0.mk (blk_lt (blk_below hR.out hb));
        have M3 := Aside0.mk (And.intro (Kd.C_below HR.out hb) (fun (j : Nat) (u : Value) (hj : cs[j]? = some u) => pw_cell_below hb (HC.out j u hj)))))
  have N4 := Aside0.mk (blk_new w3 (.cells #[.int .i64 (rd_T59 l0 (i : Int)).f0, .int .i64 (rd_T59 l0 (i : Int)).f1, .int .i64 (rd_T59 l0 (i : Int)).f2, .int .i64 (rd_T59 l0 (i : Int)).f3, .int .i64 (rd_T59 l0 (i : Int)).f4, .int .i64 (rd_T59 l0 (i : Int)).f5, .string (rd_T59 l0 (i : Int)).f6, .slice A7 (rd_T59 l0 (i : Int)).f7.length c7] 59))
  have T4 := Aside0.mk (blk_alloc T3.out (.cells #[.int .i64 (rd_T59 l0 (i : Int)).f0, .int .i64 (rd_T59 l0 (i : Int)).f1, .int .i64 (rd_T59 l0 (i : Int)).f2, .int .i64 (rd_T59 l0 (i : Int)).f3, .int .i64 (rd_T59 l0 (i : Int)).f4, .int .i64 (rd_T59 l0 (i : Int)).f5, .string (rd_T59 l0 (i : Int)).f6, .slice A7 (rd_T59 l0 (i : Int)).f7.length c7] 59))
  have R4 := Aside0.mk (blk_alloc R3.out (.cells #[.int .i64 (rd_T59 l0 (i : Int)).f0, .int .i64 (rd_T59 l0 (i : Int)).f1, .int .i64 (rd_T59 l0 (i : Int)).f2, .int .i64 (rd_T59 l0 (i : Int)).f3, .int .i64 (rd_T59 l0 (i : Int)).f4, .int .i64 (rd_T59 l0 (i : Int)).f5, .string (rd_T59 l0 (i : Int)).f6, .slice A7 (rd_T59 l0 (i : Int)).f7.length c7] 59))
  have B4 := Aside0.mk (below_alloc B3.out (.cells #[.int .i64 (rd_T59 l0 (i : Int)).f0, .int .i64 (rd_T59 l0 (i : Int)).f1, .int .i64 (rd_T59 l0 (i : Int)).f2, .int .i64 (rd_T59 l0 (i : Int)).f3, .int .i64 (rd_T59 l0 (i : Int)).f4, .int .i64 (rd_T59 l0 (i : Int)).f5, .string (rd_T59 l0 (i : Int)).f6, .slice A7 (rd_T59 l0 (i : Int)).f7.length c7] 59))
  have M4 := Aside0.mk (And.intro (Kd.C_below M3.out.1 (below_alloc (Below.refl w3.heap.size w3) (.cells #[.int .i64 (rd_T59 l0 (i : Int)).f0, .int .i64 (rd_T59 l0 (i : Int)).f1, .int .i64 (rd_T59 l0 (i : Int)).f2, .int .i64 (rd_T59 l0 (i : Int)).f3, .int .i64 (rd_T59 l0 (i : Int)).f4, .int .i64 (rd_T59 l0 (i : Int)).f5, .string (rd_T59 l0 (i : Int)).f6, .slice A7 (rd_T59 l0 (i : Int)).f7.length c7] 59))) (fun (j : Nat) (u : Value) (hj : cs[j]? = some u) => pw_cell_below (below_alloc (Below.refl w3.heap.size w3) (.cells #[.int .i64 (rd_T59 l0 (i : Int)).f0, .int .i64 (rd_T59 l0 (i : Int)).f1, .int .i64 (rd_T59 l0 (i : Int)).f2, .int .i64 (rd_T59 l0 (i : Int)).f3, .int .i64 (rd_T59 l0 (i : Int)).f4, .int .i64 (rd_T59 l0 (i : Int)).f5, .string (rd_T59 l0 (i : Int)).f6, .slice A7 (rd_T59 l0 (i : Int)).f7.length c7] 59)) (M3.out.2 j u hj)))
  obtain ⟨gn, hgn⟩ : ∃ gn, gn = w3.heap.size := ⟨_, rfl⟩
  have G4 := Aside0.mk (show w.heap.size + 1 < gn by rw [hgn]; exact Z3.out)
  rw [← hgn] at N4 ⊢
  clear hgn T3 R3 B3 M3 Z3 hT hR hB HR HC H7 t0 t1 t2 hb
  generalize w3.alloc (.cells #[.int .i64 (rd_T59 l0 (i : Int)).f0, .int .i64 (rd_T59 l0 (i : Int)).f1, .int .i64 (rd_T59 l0 (i : Int)).f2, .int .i64 (rd_T59 l0 (i : Int)).f3, .int .i64 (rd_T59 l0 (i : Int)).f4, .int .i64 (rd_T59 l0 (i : Int)).f5, .string (rd_T59 l0 (i : Int)).f6, .slice A7 (rd_T59 l0 (i : Int)).f7.length c7] 59) = w4 at N4 T4 R4 B4 M4 ⊢
  have t0 := (blk_cell T4.out 0).trans (show _ = some (Value.slice (some ad) l0.length c0) from rfl)
  have t1 := (blk_cell T4.out 1).trans (show _ = some (Value.int .i64 m) from rfl)
  have t2 := (blk_cell T4.out 2).trans (show _ = some (Value.int .i64 q) from rfl)
  have n6 := (blk_cell N4.out 6).trans (show _ = some (Value.string (rd_T59 l0 (i : Int)).f6) from rfl)
  go_upto_region 5 with (fail)
  have s1 : IntKind.i64.wrap (S - (was : Int)) = S - (was : Int) := by rw [IntKind.wrap_i64]; omega
  have s2 : IntKind.i64.wrap (S - (was : Int) + (n : Int)) = S - (was : Int) + (n : Int) := by rw [IntKind.wrap_i64]; omega
  have BZ := Aside0.mk (Below.refl w4.heap.size w4)
  go_cut [40] (fun v40 wc => v40 = .bool false ∧ Aside0 (Below w4.heap.size w4 wc))
  case first =>
    go_region_with (first
      | (go_at_call 35; refine (Bytes_val (some ad) c0 l0 m q _ S HS.out (Kd.C_below M4.out.1 (by repeat (first | (with_reducible first | exact BZ.out | apply pw_below_drewN | apply below_drew1) | exact BZ.out))) HN.out).mono ?_; rintro e w5 ⟨rfl, hb⟩;
          have B5 := Aside0.mk (below_step (show Below w4.heap.size w4 _ by repeat (first | (with_reducible first | exact BZ.out | apply pw_below_drewN | apply below_drew1) | exact BZ.out)) hb); clear hb;
          have t5 := pw_cell_below B5.out t2))
    all_goals (
      go_wp2_with fail
      go_meet
      case rel => exact ⟨rfl, ⟨by repeat (first | (with_reducible first | exact B5.out | exact BZ.out | apply pw_below_drewN | apply below_drew1) | exact B5.out | exact BZ.out)⟩⟩)
  case rest =>
  obtain ⟨rfl, BC⟩ := hcut
  have T5 := Aside0.mk (blk_below T4.out BC.out)
  have N5 := Aside0.mk (blk_below N4.out BC.out)
  have R5 := Aside0.mk (blk_below R4.out BC.out)
  have B5 := Aside0.mk (below_step B4.out BC.out)
  have M5 := Aside0.mk (And.intro (Kd.C_below M4.out.1 BC.out) (fun (j : Nat) (u : Value) (hj : cs[j]? = some u) => pw_cell_below BC.out (M4.out.2 j u hj)))
  have L5 := Aside0.mk BC.out.size
  clear T4 N4 R4 B4 M4 BC BZ t0 t1 t2 n6
  have t0 := (blk_cell T5.out 0).trans (show _ = some (Value.slice (some ad) l0.length c0) from rfl)
  have t1 := (blk_cell T5.out 1).trans (show _ = some (Value.int .i64 m) from rfl)
  have t2 := (blk_cell T5.out 2).trans (show _ = some (Value.int .i64 q) from rfl)
  have n6 := (blk_cell N5.out 6).trans (show _ = some (Value.string (rd_T59 l0 (i : Int)).f6) from rfl)
  have hcv := fun (W : World) => Lib.run_convert_string_bytes (P := Try.prog) W 9 66 5 (rd_T59 l0 (i : Int)).f6 Try.underlying9 Try.underlying66 Try.underlying5
  have hsz : (rd_T59 l0 (i : Int)).f6.data.toList.length = was := by rw [← hwas]; simp
  go_upto_region 8 with (fail)
  have W6 := Aside0.mk (Row_bytes wc (rd_T59 l0 (i : Int)).f6)
  have O6 := Aside0.mk (hwas ▸ Room_bytes wc (rd_T59 l0 (i : Int)).f6)
  have B6 := Aside0.mk (below_bytes wc (rd_T59 l0 (i : Int)).f6)
  obtain ⟨gb, hgb⟩ : ∃ gb, gb = wc.heap.size := ⟨_, rfl⟩
  have GB := Aside0.mk (Nat.le_of_eq hgb.symm)
  rw [← hgb] at W6 O6 ⊢
  clear n6 t0 t1 t2 hcv
  obtain ⟨c6, ec6⟩ : ∃ c6, c6 = grownCap wc was 0 5 := ⟨_, rfl⟩
  rw [← ec6] at O6 ⊢
  have C6 := Aside0.mk (show was ≤ c6 by rw [ec6]; exact grownCap_ge wc was 0 5)
  have L6 := Aside0.mk (show gb < (Lib.bytesWorld wc 5 (rd_T59 l0 (i : Int)).f6).heap.size by rw [Lib.bytesWorld_size]; omega)
  clear hgb ec6
  generalize Lib.bytesWorld wc 5 (rd_T59 l0 (i : Int)).f6 = w6 at W6 O6 B6 L6 ⊢
  obtain ⟨w5, ew5⟩ : ∃ w5, w5 = wc := ⟨_, rfl⟩
  subst ew5
  have HZ := Aside0.mk hsz
  have HG := Aside0.mk (And.intro hlt hn1)
  go_upto_region 9 with (fail)
  go_cut [13] (fun v13 wx => ∃ (ga ca : Nat), v13 = .slice (some ⟨ga, 0, none⟩) n ca ∧ Aside0 (w5.heap.size ≤ ga ∧ n ≤ ca ∧ Row wx ga ((rd_T59 l0 (i : Int)).f6.data.toList ++ List.replicate (n - was) 0)) ∧ Aside0 (Below w5.heap.size w5 wx))
  case first =>
    go_wp2_with (first
      | (go_at_call 36; refine (Repeat_int ⟨w6.heap.size, 0, none⟩ _ (n - was) _ _ (by have := HG.out; omega) (by have := HG.out; omega) (by have := HG.out; omega) ((blk_cell (blk_new w6 (.cells #[.int .u8 0] 5)) 0).trans rfl)).mono ?_; rintro e w8 ⟨g, cur, rfl, hg, hcur, htk, hb⟩;
          have K8 := Aside0.mk (below_step (below_alloc (Below.refl w6.heap.size w6) (.cells #[.int .u8 0] 5)) hb); have D8 := Aside0.mk hcur; have P8 := Aside0.mk htk; clear hg hcur htk hb)
      | ((with_reducible refine wpList_append_row _ rfl (.tmp 48) (.tmp 53) rfl gb was c6 (rd_T59 l0 (i : Int)).f6.data.toList rfl HZ.out (Row_heap W6.out (K8.out.block gb L6.out)) (Room_heap O6.out (K8.out.block gb L6.out)) ⟨g, 0, none⟩ (n - was) (n - was) (List.replicate (n - was) 0) rfl (List.length_replicate ..) (news_cells D8.out P8.out) (by have := HG.out; omega) (by have := HG.out; omega) w5.heap.size w5 (below_step B6.out K8.out) GB.out (below_step B6.out K8.out).size ?_); intro ga ca w9 h9;
          have Q9 := Aside0.mk h9; clear h9))
    go_meet
    case rel =>
      have h9 : _ ∧ _ ∧ _ ∧ _ := Q9.out
      have e : was + (n - was) = n := by have := HG.out; omega
      rw [e] at h9 ⊢
      exact ⟨ga, ca, rfl, ⟨h9.1, h9.2.1, h9.2.2.1⟩, ⟨h9.2.2.2⟩⟩
  case rest =>
  clear W6 O6 B6 L6 C6 GB
  obtain ⟨gb, c6, rfl, X6, B6⟩ := hcut
  have GB := Aside0.mk X6.out.1
  have C6 := Aside0.mk X6.out.2.1
  have W6 := Aside0.mk X6.out.2.2
  have A6 := Aside0.mk (below_step B5.out B6.out)
  have hl6 : ((rd_T59 l0 (i : Int)).f6.data.toList ++ List.replicate (n - was) 0).length = n := by rw [List.length_append, List.length_replicate, hsz]; omega
  have hl7 : (((rd_T59 l0 (i : Int)).f6.data.toList ++ List.replicate (n - was) 0).take k ++ (s.data.toList ++ ((rd_T59 l0 (i : Int)).f6.data.toList ++ List.replicate (n - was) 0).drop n)).length = n := by simp only [List.length_append, List.length_take, List.length_drop, hl6]; rw [show s.data.toList.length = s.size by simp]; omega
  go_upto_region 11 with (first
    | (go_at_call 28; refine (turn28L n gb c6 k ((rd_T59 l0 (i : Int)).f6.data.toList ++ List.replicate (n - was) 0) s pa ps _ w5 w5.heap.size hl6 B6.out GB.out C6.out (by omega) W6.out hs (by omega) (pw_cell_below A6.out CA.out) (pw_cell_below A6.out CP.out)).mono ?_; rintro e w7 ⟨rfl, W7, B7⟩;
        rw [hkn] at W7; have V7 := HD.out ▸ Row_textL hl7 c6 W7; have N7 := Aside0.mk (blk_below N5.out B7); have T7 := Aside0.mk (blk_below T5.out B7); have R7 := Aside0.mk (blk_below R5.out B7); have A7' := Aside0.mk (below_step B5.out B7); clear W7 B7;
        have n7 := (blk_cell N7.out 6).trans (show _ = some (Value.string (rd_T59 l0 (i : Int)).f6) from rfl); have q7 := blk_frozen N7.out 6))
  have B := blk_set N7.out 6 (.string nd)
  simp only [List.setIfInBounds_toArray, List.set_cons_zero, List.set_cons_succ] at B
  have N8 := Aside0.mk B
  have T8 := Aside0.mk (blk_far (p := ⟨gn, 6, none⟩) T7.out (by have := G4.out; dsimp only; omega) (.string nd))
  have R8 := Aside0.mk (blk_far (p := ⟨gn, 6, none⟩) R7.out (by have := G4.out; dsimp only; omega) (.string nd))
  have B8 := Aside0.mk (below_set (g := gn) A7'.out (by have := G4.out; omega) (j := 6) (v := .string nd))
  clear B N7 T7 R7 A7' V7 n7 q7 W6 B6 A6 N5 T5 R5
  generalize w7.setCell ⟨gn, 6, none⟩ (.string nd) = w8 at N8 T8 R8 B8 ⊢
  have t0 := (blk_cell T8.out 0).trans (show _ = some (Value.slice (some ad) l0.length c0) from rfl)
  have t1 := (blk_cell T8.out 1).trans (show _ = some (Value.int .i64 m) from rfl)
  have t2 := (blk_cell T8.out 2).trans (show _ = some (Value.int .i64 q) from rfl)
  have n0 := (blk_cell N8.out 0).trans (show _ = some (Value.int .i64 (rd_T59 l0 (i : Int)).f0) from rfl)
  have n1 := (blk_cell N8.out 1).trans (show _ = some (Value.int .i64 (rd_T59 l0 (i : Int)).f1) from rfl)
  have n2 := (blk_cell N8.out 2).trans (show _ = some (Value.int .i64 (rd_T59 l0 (i : Int)).f2) from rfl)
  have n3 := (blk_cell N8.out 3).trans (show _ = some (Value.int .i64 (rd_T59 l0 (i : Int)).f3) from rfl)
  have n4 := (blk_cell N8.out 4).trans (show _ = some (Value.int .i64 (rd_T59 l0 (i : Int)).f4) from rfl)
  have n5 := (blk_cell N8.out 5).trans (show _ = some (Value.int .i64 (rd_T59 l0 (i : Int)).f5) from rfl)
  have n6 := (blk_cell N8.out 6).trans (show _ = some (Value.string nd) from rfl)
  have n7 := (blk_cell N8.out 7).trans (show _ = some (Value.slice A7 (rd_T59 l0 (i : Int)).f7.length c7) from rfl)
  go_wp2_with (first
    | (go_at_call 37; refine (Set_ok ad l0.length c0 cs m q i { (rd_T59 l0 (i : Int)) with f6 := nd } A7 (rd_T59 l0 (i : Int)).f7.length c7 _ HN.out hi HL.out (fun j u hj => pw_cell_below B8.out (HW.out j u hj)) H1.out).mono ?_; rintro e w9 ⟨g, cap, cur, rfl, hg, hcap, hcur, htk, hb⟩;
        have R9 := Aside0.mk (blk_below R8.out hb); have D9 := Aside0.mk hcur; have P9 := Aside0.mk htk; have G9 := Aside0.mk (And.intro (Nat.lt_of_lt_of_le (blk_lt R8.out) hg) hcap); have B9 := Aside0.mk (below_step B8.out hb); clear hg hcap hcur htk hb;
        have z0 := (blk_cell R9.out 0).trans (show _ = some (Value.slice none 0 0) from rfl);
        have z1 := (blk_cell R9.out 1).trans (show _ = some (Value.int .i64 0) from rfl);
        have z2 := (blk_cell R9.out 2).trans (show _ = some (Value.int .i64 0) from rfl);
        have qf := fun j => blk_frozen R9.out j))
  have B := blk_set (blk_set (blk_set R9.out 0 (.slice (some ⟨g, 0, none⟩) l0.length cap)) 1 (.int .i64 m)) 2 (.int .i64 q)
  have r0 := (blk_cell B 0).trans (show _ = some (Value.slice (some ⟨g, 0, none⟩) l0.length cap) from rfl)
  have r1 := (blk_cell B 1).trans (show _ = some (Value.int .i64 m) from rfl)
  have r2 := (blk_cell B 2).trans (show _ = some (Value.int .i64 q) from rfl)
  refine bodyPost_ret (v := .tuple #[.agg #[.slice (some ⟨g, 0, none⟩) l0.length cap, .int .i64 m, .int .i64 q], .int .i64 0]) (by simp [results, Try.results27, go_sem, r0, r1, r2]) rfl ?_
  have hG := G9.out
  exact ⟨g, cap, cur, rfl, by omega, hG.2, blk_far (p := ⟨w.heap.size + 1, 2, none⟩) (blk_far (p := ⟨w.heap.size + 1, 1, none⟩) (blk_far (p := ⟨w.heap.size + 1, 0, none⟩) D9.out (by dsimp only; omega) _) (by dsimp only; omega) _) (by dsimp only; omega) _, P9.out, below_set (g := w.heap.size + 1) (below_set (g := w.heap.size + 1) (below_set (g := w.heap.size + 1) B9.out (by omega) (j := 0) (v := .slice (some ⟨g, 0, none⟩) l0.length cap)) (by omega) (j := 1) (v := .int .i64 m)) (by omega) (j := 2) (v := .int .i64 q)⟩
end Go.Proofs.Ytpeelfambaedkaa.P
