-- Printed by a program of this session (inject.py) over the kit's print, with functions that were proved by hand in their places.
import Derived.Test.YtkecfdljodiifaaPK
import Derived.Test.YtkecfdljodiifaaPhandleTablerow
namespace Go.Proofs.Ytkecfdljodiifaa.P
open Go.RowKit Go.Proofs.YtkecfdljodiifaaW.PrintWords Go.Proofs.YtkecfdljodiifaaW.PrintLast Go.Proofs.YtkecfdljodiifaaW.PrintMore
attribute [local go_sem] max2_int min2_int max_two min_two max_three min_three max_four min_four   -- for this text's walks alone
set_option linter.unusedVariables false
set_option linter.unusedSimpArgs false

/-! ### handle_Get: function 20 -/
def handle_Get.f (l0_0 : List (S38)) (l0_1 : List (List Int)) (a1 : Int) (a2 : Int) : Option (Int × Int × Int × Bool × Bool × Int × Int × Bool) := (handle_Table_row.f l0_0 l0_1 a1).bind fun t127 => (if a2 < 0 then (some ((-1), 0, 0, false, false, 0, 0, false)) else (if a2 ≥ (t127.length : Int) then (some ((-1), 0, 0, false, false, 0, 0, false)) else (if 0 ≤ a2 then (if a2 < (t127.length : Int) then (if (rd t127 a2) = (-1) then (some ((-1), 0, 0, false, false, 0, 0, false)) else (if 0 ≤ (rd t127 a2) then (if (rd t127 a2) < (l0_0.length : Int) then (some (rd t127 a2, (rd_T38 l0_0 (rd t127 a2)).f0, (rd_T38 l0_0 (rd t127 a2)).f1, (rd_T38 l0_0 (rd t127 a2)).f2, (rd_T38 l0_0 (rd t127 a2)).f3, (rd_T38 l0_0 (rd t127 a2)).f4, (rd_T38 l0_0 (rd t127 a2)).f5, true)) else (none)) else (none))) else (none)) else (none))))
def handle_Get.T4 : Bool × List (List Nat × List Nat) := (true, [([], []), ([], []), ([0, 1], [0, 1]), ([2], [2]), ([], []), ([4], [4]), ([], []), ([], []), ([6, 7], [6, 7]), ([8], [8]), ([5, 9], [5, 9]), ([10], [10]), ([3, 0, 1, 2, 3], [3]), ([11, 12, 0, 1, 2, 3, 4, 5, 6, 7, 8, 9, 10, 11, 12], [11]), ([13, 0, 1, 2, 3, 4, 5, 6, 7, 8, 9, 10, 11, 12, 13], [])])
def handle_Get.B4 : List Nat := [0, 0, 3, 7, 0, 16, 0, 0, 192, 448, 1008, 2032, 15, 8191, 16383]
theorem handle_Get.tab4 : rtab .any (opsOf Try.f20 4) = handle_Get.T4 := by kernel_rfl
theorem handle_Get.bits4 : waitsOk handle_Get.T4.2 handle_Get.B4 = true := by kernel_rfl
set_option maxHeartbeats 8000000 in
set_option maxRecDepth 100000 in
theorem handle_Get.calls (A0_0 : Option Addr) (c0_0 : Nat) (l0_0 : List (S38)) (A0_1 : Option Addr) (c0_1 : Nat) (l0_1 : List (List Int)) (a1 : Int) (a2 : Int) (r1 : Int) (r2 : Int) (r3 : Int) (r4 : Bool) (r5 : Bool) (r6 : Int) (r7 : Int) (r8 : Bool) (w : World) (hr0_0 : Kd.C k38 w A0_0 l0_0.length l0_0) (hc0_0 : l0_0.length ≤ c0_0) (hr0_1 : Kd.C (Kd.slice 3 (Kd.int .i64)) w A0_1 l0_1.length l0_1) (hc0_1 : l0_1.length ≤ c0_1) (h : handle_Get.f l0_0 l0_1 a1 a2 = some (r1, r2, r3, r4, r5, r6, r7, r8)) :
  Calls Try.prog 20 #[.agg #[.slice A0_0 l0_0.length c0_0, .slice A0_1 l0_1.length c0_1], .int .i64 a1, .int .i64 a2] w fun e w' => e = .returned (.tuple #[.int .i64 r1, .agg #[.int .i64 r2, .int .i64 r3, .bool r4, .bool r5, .int .i64 r6, .int .i64 r7], .bool r8]) ∧ Below w.heap.size w w' := by
 have hu25 := Try.underlying25
 have hu38 := Try.underlying38
 have HR0_0 := Am_ hr0_0
 have HC0_0 := Am_ hc0_0
 clear hr0_0 hc0_0
 have HR0_1 := Am_ hr0_1
 have HC0_1 := Am_ hc0_1
 clear hr0_1 hc0_1
 have HB := Am_ (Below.refl w.heap.size w)
 have H : ((handle_Table_row.f l0_0 l0_1 a1).bind fun t127 => (if a2 < 0 then (some ((-1), 0, 0, false, false, 0, 0, false)) else (if a2 ≥ (t127.length : Int) then (some ((-1), 0, 0, false, false, 0, 0, false)) else (if 0 ≤ a2 then (if a2 < (t127.length : Int) then (if (rd t127 a2) = (-1) then (some ((-1), 0, 0, false, false, 0, 0, false)) else (if 0 ≤ (rd t127 a2) then (if (rd t127 a2) < (l0_0.length : Int) then (some (rd t127 a2, (rd_T38 l0_0 (rd t127 a2)).f0, (rd_T38 l0_0 (rd t127 a2)).f1, (rd_T38 l0_0 (rd t127 a2)).f2, (rd_T38 l0_0 (rd t127 a2)).f3, (rd_T38 l0_0 (rd t127 a2)).f4, (rd_T38 l0_0 (rd t127 a2)).f5, true)) else (none)) else (none))) else (none)) else (none))))) = some (r1, r2, r3, r4, r5, r6, r7, r8) := h
 clear h
 replace H := Option.bind_eq_some_iff.mp H
 obtain ⟨t127, A40, H⟩ := H
 replace H : (if a2 < 0 then (some ((-1), 0, 0, false, false, 0, 0, false)) else (if a2 ≥ (t127.length : Int) then (some ((-1), 0, 0, false, false, 0, 0, false)) else (if 0 ≤ a2 then (if a2 < (t127.length : Int) then (if (rd t127 a2) = (-1) then (some ((-1), 0, 0, false, false, 0, 0, false)) else (if 0 ≤ (rd t127 a2) then (if (rd t127 a2) < (l0_0.length : Int) then (some (rd t127 a2, (rd_T38 l0_0 (rd t127 a2)).f0, (rd_T38 l0_0 (rd t127 a2)).f1, (rd_T38 l0_0 (rd t127 a2)).f2, (rd_T38 l0_0 (rd t127 a2)).f3, (rd_T38 l0_0 (rd t127 a2)).f4, (rd_T38 l0_0 (rd t127 a2)).f5, true)) else (none)) else (none))) else (none)) else (none)))) = some (r1, r2, r3, r4, r5, r6, r7, r8) := H
 have A4 := Am_ A40
 clear A40
 by_cases c5 : a2 < 0
 ·rw [if_pos c5] at H
  have c5b0 : decide (a2 < 0) = true := Dt_ c5
  clear c5
  simp only [Option.some.injEq, Prod.mk.injEq] at H
  obtain ⟨rfl, rfl, rfl, rfl, rfl, rfl, rfl, rfl⟩ := H
  go_enter Try.func20, Try.ntmps20
  go_wp2_with (first | ((with_reducible refine gate_dst (N := 3) rfl ?_); (try (refine gate_guard (by rfl) ?_; dsimp only)); refine box_event ?hg (N := 3) ?hd (cs := #[.slice A0_0 l0_0.length c0_0, .slice A0_1 l0_1.length c0_1]) (t := 25) ?hr ?_; (case hd => rfl); (case hg => rfl); (case hr => go_simp; try rfl); intro gb125 hg w6 hbox hb; have n0_ := Am_ (Be_ (Pb0_ HB.out) hb); have n1_ := Am_ (hbox); have n2_ := Am_ ((by rw [hg]; exact (Bz_ (Pb0_ HB.out)) : w.heap.size ≤ gb125)); have n3_ := Am_ ((by rw [hg]; exact (Bz_ (Pb0_ HB.out)) : w.heap.size ≤ gb125)); clear HB; have HB := n0_; have BK125 := n1_; have GW125 := n2_; have GE125 := n3_; clear n0_ n1_ n2_ n3_; clear hb hbox hg) | ((with_reducible refine gate_dst (N := 7) rfl ?_); (try (refine gate_guard (by rfl) ?_; dsimp only)); refine box_event ?hg (N := 7) ?hd (cs := #[.int .i64 0, .int .i64 0, .bool false, .bool false, .int .i64 0, .int .i64 0]) (t := 38) ?hr ?_; (case hd => rfl); (case hg => rfl); (case hr => go_simp; try rfl); intro gb126 hg w7 hbox hb; have n0_ := Am_ (Bb_ (g := gb125) (o := .cells #[.slice A0_0 l0_0.length c0_0, .slice A0_1 l0_1.length c0_1] 25 (0, 0)) (Pk_ BK125.out) hb); have n1_ := Am_ (Be_ (Pb1_ HB.out GE125.out) hb); have n2_ := Am_ (hbox); have n3_ := Am_ ((by rw [hg]; exact (Bz_ (Pb1_ HB.out GE125.out)) : w.heap.size ≤ gb126)); have n4_ := Am_ ((by rw [hg]; exact (Bz_ (Pb1_ HB.out GE125.out)) : w.heap.size ≤ gb126)); have n5_ := Am_ ((by rw [hg]; exact Nat.ne_of_lt (blk_lt (g := gb125) (o := .cells #[.slice A0_0 l0_0.length c0_0, .slice A0_1 l0_1.length c0_1] 25 (0, 0)) (Pk_ BK125.out)) : gb125 ≠ gb126)); have n6_ := Am_ ((by rw [hg]; exact Nat.ne_of_gt (blk_lt (g := gb125) (o := .cells #[.slice A0_0 l0_0.length c0_0, .slice A0_1 l0_1.length c0_1] 25 (0, 0)) (Pk_ BK125.out)) : gb126 ≠ gb125)); clear BK125; clear HB; have BK125 := n0_; have HB := n1_; have BK126 := n2_; have GW126 := n3_; have GE126 := n4_; have NB125_126 := n5_; have NB126_125 := n6_; clear n0_ n1_ n2_ n3_ n4_ n5_ n6_; clear hb hbox hg; have hnb8 := NB125_126.out; have hnc8 := NB126_125.out; obtain ⟨hcz9_0, hcz9_1, hfz9_0, hfz9_1⟩ := Ce2_ BK125.out) | ((with_reducible refine gate_callee (f := 34) rfl ?_); refine goesL_ (some 12) rfl rfl Try.func34 (by kernel_rfl) rfl #[.agg #[.slice A0_0 l0_0.length c0_0, .slice A0_1 l0_1.length c0_1], .int .i64 a1] rfl (by (try simp only [List.map_toArray, List.map_cons, List.map_nil]); first | done | rfl | (simp only [List.length_drop, List.length_take]; rfl)) ?_; (with_reducible refine (handle_Table_row.calls _ _ l0_0 (fun k_ => k_ < w.heap.size) _ _ l0_1 a1 t127 _ ?side1 ?side2 ?side3 A4.out).mono ?_); (case side1 => repeat (first | exact (Kd.C_below HR0_0.out HB.out) | (with_reducible refine Kd.C_alloc ?_ _) | (with_reducible refine Kd.C_drewN ?_ _) | (with_reducible refine Kd.C_drew ?_))); (case side2 => exact HC0_0.out); (case side3 => exact Kd.V_mk HC0_1.out (Kd.F_below (Kd.C_F (Kd.heap_slice 3 (Kd.heap_int .i64)) HR0_1.out) (Pb2_ HB.out GE125.out GE126.out))); rintro e w10 ⟨v128, rfl, ho0, hb⟩; refine ⟨_, rfl, ?_⟩; have n0_ := Am_ (Vl_ (Vm_ (ok' := fun k_ => k_ ≠ gb125 ∧ k_ ≠ gb126) ho0 (fun k_ hk_ => ⟨Or.elim hk_ (fun hs_ => fun e_ => Nat.not_le.2 hs_ (by rw [e_]; exact GW125.out)) (fun hn_ => (Kd.freshB (g := gb125) (o := .cells #[.slice A0_0 l0_0.length c0_0, .slice A0_1 l0_1.length c0_1] 25 (0, 0)) (Pk_ BK125.out) k_ hn_)), Or.elim hk_ (fun hs_ => fun e_ => Nat.not_le.2 hs_ (by rw [e_]; exact GW126.out)) (fun hn_ => (Kd.freshB (g := gb126) (o := .cells #[.int .i64 0, .int .i64 0, .bool false, .bool false, .int .i64 0, .int .i64 0] 38 (0, 0)) (Pk_ BK126.out) k_ hn_))⟩)) (Bz_ (Pb2_ HB.out GE125.out GE126.out))); have n1_ := Am_ (Bb_ (g := gb125) (o := .cells #[.slice A0_0 l0_0.length c0_0, .slice A0_1 l0_1.length c0_1] 25 (0, 0)) (Pk_ BK125.out) hb); have n2_ := Am_ (Bb_ (g := gb126) (o := .cells #[.int .i64 0, .int .i64 0, .bool false, .bool false, .int .i64 0, .int .i64 0] 38 (0, 0)) (Pk_ BK126.out) hb); have n3_ := Am_ (Be_ (Pb2_ HB.out GE125.out GE126.out) hb); clear BK125; clear BK126; clear HB; have HO129 := n0_; have BK125 := n1_; have BK126 := n2_; have HB := n3_; clear n0_ n1_ n2_ n3_; (try clear hb); (try clear hb2); (try clear hk); (try clear hi); (try clear ho0); obtain ⟨hcz11_0, hcz11_1, hcz11_2, hcz11_3, hcz11_4, hcz11_5, hfz11_0, hfz11_1, hfz11_2, hfz11_3, hfz11_4, hfz11_5⟩ := Ce6_ BK126.out))
  refine bodyPost_ret (results_list (rs := [.tmp 6, .cell 7 38, .tmp 8]) rfl (by simp) (.tmp (.cell gb126 38 #[.int .i64 0, .int .i64 0, .bool false, .bool false, .int .i64 0, .int .i64 0] (0, 0) _ rfl (by (with_reducible repeat (first | refine Bn_ ?_ _ | refine Bd_ ?_ | refine Ba_ ?_ _)); refine Bp_ (cs := #[.int .i64 0, .int .i64 0, .bool false, .bool false, .int .i64 0, .int .i64 0]) ?_ 5 _ rfl; (with_reducible repeat (first | refine Bn_ ?_ _ | refine Bd_ ?_ | refine Ba_ ?_ _)); refine Bp_ (cs := #[.int .i64 0, .int .i64 0, .bool false, .bool false, .int .i64 0, .int .i64 0]) ?_ 4 _ rfl; (with_reducible repeat (first | refine Bn_ ?_ _ | refine Bd_ ?_ | refine Ba_ ?_ _)); refine Bp_ (cs := #[.int .i64 0, .int .i64 0, .bool false, .bool false, .int .i64 0, .int .i64 0]) ?_ 3 _ rfl; (with_reducible repeat (first | refine Bn_ ?_ _ | refine Bd_ ?_ | refine Ba_ ?_ _)); refine Bp_ (cs := #[.int .i64 0, .int .i64 0, .bool false, .bool false, .int .i64 0, .int .i64 0]) ?_ 2 _ rfl; (with_reducible repeat (first | refine Bn_ ?_ _ | refine Bd_ ?_ | refine Ba_ ?_ _)); refine Bp_ (cs := #[.int .i64 0, .int .i64 0, .bool false, .bool false, .int .i64 0, .int .i64 0]) ?_ 1 _ rfl; (with_reducible repeat (first | refine Bn_ ?_ _ | refine Bd_ ?_ | refine Ba_ ?_ _)); refine Bp_ (cs := #[.int .i64 0, .int .i64 0, .bool false, .bool false, .int .i64 0, .int .i64 0]) ?_ 0 _ rfl; (with_reducible repeat (first | refine Bn_ ?_ _ | refine Bd_ ?_ | refine Ba_ ?_ _)); exact BK126.out) Try.underlying38 rfl (by kernel_rfl) (.tmp .nil)))) rfl ?_
  exact ⟨by first | rfl | (simp [errW_none, errW_some] <;> rfl) | (simp [*, errW_none, errW_some] <;> rfl), by repeat (first | (with_reducible first | exact HB.out | apply Pa_ | apply Pn_ | apply Pd_ | refine Bs_ ?_ GE125.out | refine Bs_ ?_ GE126.out) | exact HB.out)⟩
 ·rw [if_neg c5] at H
  have c5b0 : decide (a2 < 0) = false := Df_ c5
  clear c5
  by_cases c12 : a2 ≥ (t127.length : Int)
  ·rw [if_pos c12] at H
   have c12b0 : decide ((t127.length : Int) ≤ a2) = true := Dt_ c12
   clear c12
   simp only [Option.some.injEq, Prod.mk.injEq] at H
   obtain ⟨rfl, rfl, rfl, rfl, rfl, rfl, rfl, rfl⟩ := H
   go_enter Try.func20, Try.ntmps20
   go_wp2_with (first | ((with_reducible refine gate_dst (N := 3) rfl ?_); (try (refine gate_guard (by rfl) ?_; dsimp only)); refine box_event ?hg (N := 3) ?hd (cs := #[.slice A0_0 l0_0.length c0_0, .slice A0_1 l0_1.length c0_1]) (t := 25) ?hr ?_; (case hd => rfl); (case hg => rfl); (case hr => go_simp; try rfl); intro gb125 hg w13 hbox hb; have n0_ := Am_ (Be_ (Pb0_ HB.out) hb); have n1_ := Am_ (hbox); have n2_ := Am_ ((by rw [hg]; exact (Bz_ (Pb0_ HB.out)) : w.heap.size ≤ gb125)); have n3_ := Am_ ((by rw [hg]; exact (Bz_ (Pb0_ HB.out)) : w.heap.size ≤ gb125)); clear HB; have HB := n0_; have BK125 := n1_; have GW125 := n2_; have GE125 := n3_; clear n0_ n1_ n2_ n3_; clear hb hbox hg) | ((with_reducible refine gate_dst (N := 7) rfl ?_); (try (refine gate_guard (by rfl) ?_; dsimp only)); refine box_event ?hg (N := 7) ?hd (cs := #[.int .i64 0, .int .i64 0, .bool false, .bool false, .int .i64 0, .int .i64 0]) (t := 38) ?hr ?_; (case hd => rfl); (case hg => rfl); (case hr => go_simp; try rfl); intro gb126 hg w14 hbox hb; have n0_ := Am_ (Bb_ (g := gb125) (o := .cells #[.slice A0_0 l0_0.length c0_0, .slice A0_1 l0_1.length c0_1] 25 (0, 0)) (Pk_ BK125.out) hb); have n1_ := Am_ (Be_ (Pb1_ HB.out GE125.out) hb); have n2_ := Am_ (hbox); have n3_ := Am_ ((by rw [hg]; exact (Bz_ (Pb1_ HB.out GE125.out)) : w.heap.size ≤ gb126)); have n4_ := Am_ ((by rw [hg]; exact (Bz_ (Pb1_ HB.out GE125.out)) : w.heap.size ≤ gb126)); have n5_ := Am_ ((by rw [hg]; exact Nat.ne_of_lt (blk_lt (g := gb125) (o := .cells #[.slice A0_0 l0_0.length c0_0, .slice A0_1 l0_1.length c0_1] 25 (0, 0)) (Pk_ BK125.out)) : gb125 ≠ gb126)); have n6_ := Am_ ((by rw [hg]; exact Nat.ne_of_gt (blk_lt (g := gb125) (o := .cells #[.slice A0_0 l0_0.length c0_0, .slice A0_1 l0_1.length c0_1] 25 (0, 0)) (Pk_ BK125.out)) : gb126 ≠ gb125)); clear BK125; clear HB; have BK125 := n0_; have HB := n1_; have BK126 := n2_; have GW126 := n3_; have GE126 := n4_; have NB125_126 := n5_; have NB126_125 := n6_; clear n0_ n1_ n2_ n3_ n4_ n5_ n6_; clear hb hbox hg; have hnb15 := NB125_126.out; have hnc15 := NB126_125.out; obtain ⟨hcz16_0, hcz16_1, hfz16_0, hfz16_1⟩ := Ce2_ BK125.out) | ((with_reducible refine gate_callee (f := 34) rfl ?_); refine goesL_ (some 12) rfl rfl Try.func34 (by kernel_rfl) rfl #[.agg #[.slice A0_0 l0_0.length c0_0, .slice A0_1 l0_1.length c0_1], .int .i64 a1] rfl (by (try simp only [List.map_toArray, List.map_cons, List.map_nil]); first | done | rfl | (simp only [List.length_drop, List.length_take]; rfl)) ?_; (with_reducible refine (handle_Table_row.calls _ _ l0_0 (fun k_ => k_ < w.heap.size) _ _ l0_1 a1 t127 _ ?side1 ?side2 ?side3 A4.out).mono ?_); (case side1 => repeat (first | exact (Kd.C_below HR0_0.out HB.out) | (with_reducible refine Kd.C_alloc ?_ _) | (with_reducible refine Kd.C_drewN ?_ _) | (with_reducible refine Kd.C_drew ?_))); (case side2 => exact HC0_0.out); (case side3 => exact Kd.V_mk HC0_1.out (Kd.F_below (Kd.C_F (Kd.heap_slice 3 (Kd.heap_int .i64)) HR0_1.out) (Pb2_ HB.out GE125.out GE126.out))); rintro e w17 ⟨v128, rfl, ho0, hb⟩; refine ⟨_, rfl, ?_⟩; have n0_ := Am_ (Vl_ (Vm_ (ok' := fun k_ => k_ ≠ gb125 ∧ k_ ≠ gb126) ho0 (fun k_ hk_ => ⟨Or.elim hk_ (fun hs_ => fun e_ => Nat.not_le.2 hs_ (by rw [e_]; exact GW125.out)) (fun hn_ => (Kd.freshB (g := gb125) (o := .cells #[.slice A0_0 l0_0.length c0_0, .slice A0_1 l0_1.length c0_1] 25 (0, 0)) (Pk_ BK125.out) k_ hn_)), Or.elim hk_ (fun hs_ => fun e_ => Nat.not_le.2 hs_ (by rw [e_]; exact GW126.out)) (fun hn_ => (Kd.freshB (g := gb126) (o := .cells #[.int .i64 0, .int .i64 0, .bool false, .bool false, .int .i64 0, .int .i64 0] 38 (0, 0)) (Pk_ BK126.out) k_ hn_))⟩)) (Bz_ (Pb2_ HB.out GE125.out GE126.out))); have n1_ := Am_ (Bb_ (g := gb125) (o := .cells #[.slice A0_0 l0_0.length c0_0, .slice A0_1 l0_1.length c0_1] 25 (0, 0)) (Pk_ BK125.out) hb); have n2_ := Am_ (Bb_ (g := gb126) (o := .cells #[.int .i64 0, .int .i64 0, .bool false, .bool false, .int .i64 0, .int .i64 0] 38 (0, 0)) (Pk_ BK126.out) hb); have n3_ := Am_ (Be_ (Pb2_ HB.out GE125.out GE126.out) hb); clear BK125; clear BK126; clear HB; have HO129 := n0_; have BK125 := n1_; have BK126 := n2_; have HB := n3_; clear n0_ n1_ n2_ n3_; (try clear hb); (try clear hb2); (try clear hk); (try clear hi); (try clear ho0); obtain ⟨Ao18, co18, eo18⟩ := Vx_ HO129.out; subst eo18; obtain ⟨hcz19_0, hcz19_1, hcz19_2, hcz19_3, hcz19_4, hcz19_5, hfz19_0, hfz19_1, hfz19_2, hfz19_3, hfz19_4, hfz19_5⟩ := Ce6_ BK126.out))
   refine bodyPost_ret (results_list (rs := [.tmp 6, .cell 7 38, .tmp 8]) rfl (by simp) (.tmp (.cell gb126 38 #[.int .i64 0, .int .i64 0, .bool false, .bool false, .int .i64 0, .int .i64 0] (0, 0) _ rfl (by (with_reducible repeat (first | refine Bn_ ?_ _ | refine Bd_ ?_ | refine Ba_ ?_ _)); refine Bp_ (cs := #[.int .i64 0, .int .i64 0, .bool false, .bool false, .int .i64 0, .int .i64 0]) ?_ 5 _ rfl; (with_reducible repeat (first | refine Bn_ ?_ _ | refine Bd_ ?_ | refine Ba_ ?_ _)); refine Bp_ (cs := #[.int .i64 0, .int .i64 0, .bool false, .bool false, .int .i64 0, .int .i64 0]) ?_ 4 _ rfl; (with_reducible repeat (first | refine Bn_ ?_ _ | refine Bd_ ?_ | refine Ba_ ?_ _)); refine Bp_ (cs := #[.int .i64 0, .int .i64 0, .bool false, .bool false, .int .i64 0, .int .i64 0]) ?_ 3 _ rfl; (with_reducible repeat (first | refine Bn_ ?_ _ | refine Bd_ ?_ | refine Ba_ ?_ _)); refine Bp_ (cs := #[.int .i64 0, .int .i64 0, .bool false, .bool false, .int .i64 0, .int .i64 0]) ?_ 2 _ rfl; (with_reducible repeat (first | refine Bn_ ?_ _ | refine Bd_ ?_ | refine Ba_ ?_ _)); refine Bp_ (cs := #[.int .i64 0, .int .i64 0, .bool false, .bool false, .int .i64 0, .int .i64 0]) ?_ 1 _ rfl; (with_reducible repeat (first | refine Bn_ ?_ _ | refine Bd_ ?_ | refine Ba_ ?_ _)); refine Bp_ (cs := #[.int .i64 0, .int .i64 0, .bool false, .bool false, .int .i64 0, .int .i64 0]) ?_ 0 _ rfl; (with_reducible repeat (first | refine Bn_ ?_ _ | refine Bd_ ?_ | refine Ba_ ?_ _)); exact BK126.out) Try.underlying38 rfl (by kernel_rfl) (.tmp .nil)))) rfl ?_
   exact ⟨by first | rfl | (simp [errW_none, errW_some] <;> rfl) | (simp [*, errW_none, errW_some] <;> rfl), by repeat (first | (with_reducible first | exact HB.out | apply Pa_ | apply Pn_ | apply Pd_ | refine Bs_ ?_ GE125.out | refine Bs_ ?_ GE126.out) | exact HB.out)⟩
  ·rw [if_neg c12] at H
   have c12b0 : decide ((t127.length : Int) ≤ a2) = false := Df_ c12
   clear c12
   by_cases c20 : 0 ≤ a2
   ·rw [if_pos c20] at H
    have c20b0 : decide (0 ≤ a2) = true := Dt_ c20
    clear c20
    by_cases c21 : a2 < (t127.length : Int)
    ·rw [if_pos c21] at H
     have c21b0 : decide (a2 < (t127.length : Int)) = true := Dt_ c21
     clear c21
     by_cases c22 : (rd t127 a2) = (-1)
     ·rw [if_pos c22] at H
      have c22b0 : ((rd t127 a2) == (-1)) = true := beq_iff_eq.mpr c22
      have c22b1 : ((rd t127 a2) != (-1)) = false := bne_eq_false_iff_eq.mpr c22
      clear c22
      simp only [Option.some.injEq, Prod.mk.injEq] at H
      obtain ⟨rfl, rfl, rfl, rfl, rfl, rfl, rfl, rfl⟩ := H
      go_enter Try.func20, Try.ntmps20
      go_wp2_with (first | ((with_reducible refine gate_dst (N := 3) rfl ?_); (try (refine gate_guard (by rfl) ?_; dsimp only)); refine box_event ?hg (N := 3) ?hd (cs := #[.slice A0_0 l0_0.length c0_0, .slice A0_1 l0_1.length c0_1]) (t := 25) ?hr ?_; (case hd => rfl); (case hg => rfl); (case hr => go_simp; try rfl); intro gb125 hg w23 hbox hb; have n0_ := Am_ (Be_ (Pb0_ HB.out) hb); have n1_ := Am_ (hbox); have n2_ := Am_ ((by rw [hg]; exact (Bz_ (Pb0_ HB.out)) : w.heap.size ≤ gb125)); have n3_ := Am_ ((by rw [hg]; exact (Bz_ (Pb0_ HB.out)) : w.heap.size ≤ gb125)); clear HB; have HB := n0_; have BK125 := n1_; have GW125 := n2_; have GE125 := n3_; clear n0_ n1_ n2_ n3_; clear hb hbox hg) | ((with_reducible refine gate_dst (N := 7) rfl ?_); (try (refine gate_guard (by rfl) ?_; dsimp only)); refine box_event ?hg (N := 7) ?hd (cs := #[.int .i64 0, .int .i64 0, .bool false, .bool false, .int .i64 0, .int .i64 0]) (t := 38) ?hr ?_; (case hd => rfl); (case hg => rfl); (case hr => go_simp; try rfl); intro gb126 hg w24 hbox hb; have n0_ := Am_ (Bb_ (g := gb125) (o := .cells #[.slice A0_0 l0_0.length c0_0, .slice A0_1 l0_1.length c0_1] 25 (0, 0)) (Pk_ BK125.out) hb); have n1_ := Am_ (Be_ (Pb1_ HB.out GE125.out) hb); have n2_ := Am_ (hbox); have n3_ := Am_ ((by rw [hg]; exact (Bz_ (Pb1_ HB.out GE125.out)) : w.heap.size ≤ gb126)); have n4_ := Am_ ((by rw [hg]; exact (Bz_ (Pb1_ HB.out GE125.out)) : w.heap.size ≤ gb126)); have n5_ := Am_ ((by rw [hg]; exact Nat.ne_of_lt (blk_lt (g := gb125) (o := .cells #[.slice A0_0 l0_0.length c0_0, .slice A0_1 l0_1.length c0_1] 25 (0, 0)) (Pk_ BK125.out)) : gb125 ≠ gb126)); have n6_ := Am_ ((by rw [hg]; exact Nat.ne_of_gt (blk_lt (g := gb125) (o := .cells #[.slice A0_0 l0_0.length c0_0, .slice A0_1 l0_1.length c0_1] 25 (0, 0)) (Pk_ BK125.out)) : gb126 ≠ gb125)); clear BK125; clear HB; have BK125 := n0_; have HB := n1_; have BK126 := n2_; have GW126 := n3_; have GE126 := n4_; have NB125_126 := n5_; have NB126_125 := n6_; clear n0_ n1_ n2_ n3_ n4_ n5_ n6_; clear hb hbox hg; have hnb25 := NB125_126.out; have hnc25 := NB126_125.out; obtain ⟨hcz26_0, hcz26_1, hfz26_0, hfz26_1⟩ := Ce2_ BK125.out) | ((with_reducible refine gate_callee (f := 34) rfl ?_); refine goesL_ (some 12) rfl rfl Try.func34 (by kernel_rfl) rfl #[.agg #[.slice A0_0 l0_0.length c0_0, .slice A0_1 l0_1.length c0_1], .int .i64 a1] rfl (by (try simp only [List.map_toArray, List.map_cons, List.map_nil]); first | done | rfl | (simp only [List.length_drop, List.length_take]; rfl)) ?_; (with_reducible refine (handle_Table_row.calls _ _ l0_0 (fun k_ => k_ < w.heap.size) _ _ l0_1 a1 t127 _ ?side1 ?side2 ?side3 A4.out).mono ?_); (case side1 => repeat (first | exact (Kd.C_below HR0_0.out HB.out) | (with_reducible refine Kd.C_alloc ?_ _) | (with_reducible refine Kd.C_drewN ?_ _) | (with_reducible refine Kd.C_drew ?_))); (case side2 => exact HC0_0.out); (case side3 => exact Kd.V_mk HC0_1.out (Kd.F_below (Kd.C_F (Kd.heap_slice 3 (Kd.heap_int .i64)) HR0_1.out) (Pb2_ HB.out GE125.out GE126.out))); rintro e w27 ⟨v128, rfl, ho0, hb⟩; refine ⟨_, rfl, ?_⟩; have n0_ := Am_ (Vl_ (Vm_ (ok' := fun k_ => k_ ≠ gb125 ∧ k_ ≠ gb126) ho0 (fun k_ hk_ => ⟨Or.elim hk_ (fun hs_ => fun e_ => Nat.not_le.2 hs_ (by rw [e_]; exact GW125.out)) (fun hn_ => (Kd.freshB (g := gb125) (o := .cells #[.slice A0_0 l0_0.length c0_0, .slice A0_1 l0_1.length c0_1] 25 (0, 0)) (Pk_ BK125.out) k_ hn_)), Or.elim hk_ (fun hs_ => fun e_ => Nat.not_le.2 hs_ (by rw [e_]; exact GW126.out)) (fun hn_ => (Kd.freshB (g := gb126) (o := .cells #[.int .i64 0, .int .i64 0, .bool false, .bool false, .int .i64 0, .int .i64 0] 38 (0, 0)) (Pk_ BK126.out) k_ hn_))⟩)) (Bz_ (Pb2_ HB.out GE125.out GE126.out))); have n1_ := Am_ (Bb_ (g := gb125) (o := .cells #[.slice A0_0 l0_0.length c0_0, .slice A0_1 l0_1.length c0_1] 25 (0, 0)) (Pk_ BK125.out) hb); have n2_ := Am_ (Bb_ (g := gb126) (o := .cells #[.int .i64 0, .int .i64 0, .bool false, .bool false, .int .i64 0, .int .i64 0] 38 (0, 0)) (Pk_ BK126.out) hb); have n3_ := Am_ (Be_ (Pb2_ HB.out GE125.out GE126.out) hb); clear BK125; clear BK126; clear HB; have HO129 := n0_; have BK125 := n1_; have BK126 := n2_; have HB := n3_; clear n0_ n1_ n2_ n3_; (try clear hb); (try clear hb2); (try clear hk); (try clear hi); (try clear ho0); obtain ⟨Ao28, co28, eo28⟩ := Vx_ HO129.out; subst eo28; have p130 : 0 ≤ (a2 : Int) := Ot_ (by first | (with_reducible assumption) | assumption); have q130 : a2 < (t127.length : Int) := Ot_ (by first | (with_reducible assumption) | assumption); obtain ⟨ad130, e130, hx130_0⟩ := Kd.at_int (Vr_ HO129.out).2.2 a2 p130 q130; cases e130; replace p130 := eq_true p130; replace q130 := eq_true q130; obtain ⟨hcz29_0, hcz29_1, hcz29_2, hcz29_3, hcz29_4, hcz29_5, hfz29_0, hfz29_1, hfz29_2, hfz29_3, hfz29_4, hfz29_5⟩ := Ce6_ BK126.out))
      refine bodyPost_ret (results_list (rs := [.tmp 6, .cell 7 38, .tmp 8]) rfl (by simp) (.tmp (.cell gb126 38 #[.int .i64 0, .int .i64 0, .bool false, .bool false, .int .i64 0, .int .i64 0] (0, 0) _ rfl (by (with_reducible repeat (first | refine Bn_ ?_ _ | refine Bd_ ?_ | refine Ba_ ?_ _)); refine Bp_ (cs := #[.int .i64 0, .int .i64 0, .bool false, .bool false, .int .i64 0, .int .i64 0]) ?_ 5 _ rfl; (with_reducible repeat (first | refine Bn_ ?_ _ | refine Bd_ ?_ | refine Ba_ ?_ _)); refine Bp_ (cs := #[.int .i64 0, .int .i64 0, .bool false, .bool false, .int .i64 0, .int .i64 0]) ?_ 4 _ rfl; (with_reducible repeat (first | refine Bn_ ?_ _ | refine Bd_ ?_ | refine Ba_ ?_ _)); refine Bp_ (cs := #[.int .i64 0, .int .i64 0, .bool false, .bool false, .int .i64 0, .int .i64 0]) ?_ 3 _ rfl; (with_reducible repeat (first | refine Bn_ ?_ _ | refine Bd_ ?_ | refine Ba_ ?_ _)); refine Bp_ (cs := #[.int .i64 0, .int .i64 0, .bool false, .bool false, .int .i64 0, .int .i64 0]) ?_ 2 _ rfl; (with_reducible repeat (first | refine Bn_ ?_ _ | refine Bd_ ?_ | refine Ba_ ?_ _)); refine Bp_ (cs := #[.int .i64 0, .int .i64 0, .bool false, .bool false, .int .i64 0, .int .i64 0]) ?_ 1 _ rfl; (with_reducible repeat (first | refine Bn_ ?_ _ | refine Bd_ ?_ | refine Ba_ ?_ _)); refine Bp_ (cs := #[.int .i64 0, .int .i64 0, .bool false, .bool false, .int .i64 0, .int .i64 0]) ?_ 0 _ rfl; (with_reducible repeat (first | refine Bn_ ?_ _ | refine Bd_ ?_ | refine Ba_ ?_ _)); exact BK126.out) Try.underlying38 rfl (by kernel_rfl) (.tmp .nil)))) rfl ?_
      exact ⟨by first | rfl | (simp [errW_none, errW_some] <;> rfl) | (simp [*, errW_none, errW_some] <;> rfl), by repeat (first | (with_reducible first | exact HB.out | apply Pa_ | apply Pn_ | apply Pd_ | refine Bs_ ?_ GE125.out | refine Bs_ ?_ GE126.out) | exact HB.out)⟩
     ·rw [if_neg c22] at H
      have c22b0 : ((rd t127 a2) == (-1)) = false := beq_eq_false_iff_ne.mpr c22
      have c22b1 : ((rd t127 a2) != (-1)) = true := bne_iff_ne.mpr c22
      by_cases c30 : 0 ≤ (rd t127 a2)
      ·rw [if_pos c30] at H
       have c30b0 : decide (0 ≤ (rd t127 a2)) = true := Dt_ c30
       clear c30
       by_cases c31 : (rd t127 a2) < (l0_0.length : Int)
       ·rw [if_pos c31] at H
        have c31b0 : decide ((rd t127 a2) < (l0_0.length : Int)) = true := Dt_ c31
        clear c31
        simp only [Option.some.injEq, Prod.mk.injEq] at H
        obtain ⟨rfl, rfl, rfl, rfl, rfl, rfl, rfl, rfl⟩ := H
        go_enter Try.func20, Try.ntmps20
        try go_wp2_with (first | ((with_reducible refine gate_dst (N := 3) rfl ?_); (try (refine gate_guard (by rfl) ?_; dsimp only)); refine box_event ?hg (N := 3) ?hd (cs := #[.slice A0_0 l0_0.length c0_0, .slice A0_1 l0_1.length c0_1]) (t := 25) ?hr ?_; (case hd => rfl); (case hg => rfl); (case hr => go_simp; try rfl); intro gb125 hg w32 hbox hb; have n0_ := Am_ (Be_ (Pb0_ HB.out) hb); have n1_ := Am_ (hbox); have n2_ := Am_ ((by rw [hg]; exact (Bz_ (Pb0_ HB.out)) : w.heap.size ≤ gb125)); have n3_ := Am_ ((by rw [hg]; exact (Bz_ (Pb0_ HB.out)) : w.heap.size ≤ gb125)); clear HB; have HB := n0_; have BK125 := n1_; have GW125 := n2_; have GE125 := n3_; clear n0_ n1_ n2_ n3_; clear hb hbox hg) | ((with_reducible refine gate_dst (N := 7) rfl ?_); (try (refine gate_guard (by rfl) ?_; dsimp only)); refine box_event ?hg (N := 7) ?hd (cs := #[.int .i64 0, .int .i64 0, .bool false, .bool false, .int .i64 0, .int .i64 0]) (t := 38) ?hr ?_; (case hd => rfl); (case hg => rfl); (case hr => go_simp; try rfl); intro gb126 hg w33 hbox hb; have n0_ := Am_ (Bb_ (g := gb125) (o := .cells #[.slice A0_0 l0_0.length c0_0, .slice A0_1 l0_1.length c0_1] 25 (0, 0)) (Pk_ BK125.out) hb); have n1_ := Am_ (Be_ (Pb1_ HB.out GE125.out) hb); have n2_ := Am_ (hbox); have n3_ := Am_ ((by rw [hg]; exact (Bz_ (Pb1_ HB.out GE125.out)) : w.heap.size ≤ gb126)); have n4_ := Am_ ((by rw [hg]; exact (Bz_ (Pb1_ HB.out GE125.out)) : w.heap.size ≤ gb126)); have n5_ := Am_ ((by rw [hg]; exact Nat.ne_of_lt (blk_lt (g := gb125) (o := .cells #[.slice A0_0 l0_0.length c0_0, .slice A0_1 l0_1.length c0_1] 25 (0, 0)) (Pk_ BK125.out)) : gb125 ≠ gb126)); have n6_ := Am_ ((by rw [hg]; exact Nat.ne_of_gt (blk_lt (g := gb125) (o := .cells #[.slice A0_0 l0_0.length c0_0, .slice A0_1 l0_1.length c0_1] 25 (0, 0)) (Pk_ BK125.out)) : gb126 ≠ gb125)); clear BK125; clear HB; have BK125 := n0_; have HB := n1_; have BK126 := n2_; have GW126 := n3_; have GE126 := n4_; have NB125_126 := n5_; have NB126_125 := n6_; clear n0_ n1_ n2_ n3_ n4_ n5_ n6_; clear hb hbox hg; have hnb34 := NB125_126.out; have hnc34 := NB126_125.out; obtain ⟨hcz35_0, hcz35_1, hfz35_0, hfz35_1⟩ := Ce2_ BK125.out) | ((with_reducible refine gate_callee (f := 34) rfl ?_); refine goesL_ (some 12) rfl rfl Try.func34 (by kernel_rfl) rfl #[.agg #[.slice A0_0 l0_0.length c0_0, .slice A0_1 l0_1.length c0_1], .int .i64 a1] rfl (by (try simp only [List.map_toArray, List.map_cons, List.map_nil]); first | done | rfl | (simp only [List.length_drop, List.length_take]; rfl)) ?_; (with_reducible refine (handle_Table_row.calls _ _ l0_0 (fun k_ => k_ < w.heap.size) _ _ l0_1 a1 t127 _ ?side1 ?side2 ?side3 A4.out).mono ?_); (case side1 => repeat (first | exact (Kd.C_below HR0_0.out HB.out) | (with_reducible refine Kd.C_alloc ?_ _) | (with_reducible refine Kd.C_drewN ?_ _) | (with_reducible refine Kd.C_drew ?_))); (case side2 => exact HC0_0.out); (case side3 => exact Kd.V_mk HC0_1.out (Kd.F_below (Kd.C_F (Kd.heap_slice 3 (Kd.heap_int .i64)) HR0_1.out) (Pb2_ HB.out GE125.out GE126.out))); rintro e w36 ⟨v128, rfl, ho0, hb⟩; refine ⟨_, rfl, ?_⟩; have n0_ := Am_ (Vl_ (Vm_ (ok' := fun k_ => k_ ≠ gb125 ∧ k_ ≠ gb126) ho0 (fun k_ hk_ => ⟨Or.elim hk_ (fun hs_ => fun e_ => Nat.not_le.2 hs_ (by rw [e_]; exact GW125.out)) (fun hn_ => (Kd.freshB (g := gb125) (o := .cells #[.slice A0_0 l0_0.length c0_0, .slice A0_1 l0_1.length c0_1] 25 (0, 0)) (Pk_ BK125.out) k_ hn_)), Or.elim hk_ (fun hs_ => fun e_ => Nat.not_le.2 hs_ (by rw [e_]; exact GW126.out)) (fun hn_ => (Kd.freshB (g := gb126) (o := .cells #[.int .i64 0, .int .i64 0, .bool false, .bool false, .int .i64 0, .int .i64 0] 38 (0, 0)) (Pk_ BK126.out) k_ hn_))⟩)) (Bz_ (Pb2_ HB.out GE125.out GE126.out))); have n1_ := Am_ (Bb_ (g := gb125) (o := .cells #[.slice A0_0 l0_0.length c0_0, .slice A0_1 l0_1.length c0_1] 25 (0, 0)) (Pk_ BK125.out) hb); have n2_ := Am_ (Bb_ (g := gb126) (o := .cells #[.int .i64 0, .int .i64 0, .bool false, .bool false, .int .i64 0, .int .i64 0] 38 (0, 0)) (Pk_ BK126.out) hb); have n3_ := Am_ (Be_ (Pb2_ HB.out GE125.out GE126.out) hb); clear BK125; clear BK126; clear HB; have HO129 := n0_; have BK125 := n1_; have BK126 := n2_; have HB := n3_; clear n0_ n1_ n2_ n3_; (try clear hb); (try clear hb2); (try clear hk); (try clear hi); (try clear ho0); obtain ⟨Ao37, co37, eo37⟩ := Vx_ HO129.out; subst eo37; have p130 : 0 ≤ (a2 : Int) := Ot_ (by first | (with_reducible assumption) | assumption); have q130 : a2 < (t127.length : Int) := Ot_ (by first | (with_reducible assumption) | assumption); obtain ⟨ad130, e130, hx130_0⟩ := Kd.at_int (Vr_ HO129.out).2.2 a2 p130 q130; cases e130; replace p130 := eq_true p130; replace q130 := eq_true q130))
        have n0_ := Am_ (Vd_ HO129.out)
        have n1_ := Am_ (Bd_ BK125.out)
        have n2_ := Am_ (Bd_ BK126.out)
        have n3_ := Am_ (Pd_ HB.out)
        clear HO129
        clear BK125
        clear BK126
        clear HB
        have HO129 := n0_
        have BK125 := n1_
        have BK126 := n2_
        have HB := n3_
        clear n0_ n1_ n2_ n3_
        have p131 : 0 ≤ (a2 : Int) := Ot_ (by first | (with_reducible assumption) | assumption)
        have q131 : a2 < (t127.length : Int) := Ot_ (by first | (with_reducible assumption) | assumption)
        obtain ⟨ad131, e131, hx131_0⟩ := Kd.at_int (Vr_ HO129.out).2.2 a2 p131 q131
        obtain rfl : ad130 = ad131 := (by injection e131)
        replace p131 := eq_true p131
        replace q131 := eq_true q131
        have p132 : 0 ≤ (a2 : Int) := Ot_ (by first | (with_reducible assumption) | assumption)
        have q132 : a2 < (t127.length : Int) := Ot_ (by first | (with_reducible assumption) | assumption)
        obtain ⟨ad132, e132, hx132_0⟩ := Kd.at_int (Vr_ HO129.out).2.2 a2 p132 q132
        obtain rfl : ad130 = ad132 := (by injection e132)
        replace p132 := eq_true p132
        replace q132 := eq_true q132
        have p133 : 0 ≤ ((rd t127 a2) : Int) := Ot_ (by first | (with_reducible assumption) | assumption)
        have q133 : (rd t127 a2) < (l0_0.length : Int) := Ot_ (by first | (with_reducible assumption) | assumption)
        obtain ⟨ad133, e133, hx133_0, hx133_1, hx133_2, hx133_3, hx133_4, hx133_5⟩ := at_T38 HR0_0.out (rd t127 a2) p133 q133
        have hw133_5 := hx133_5
        have hw133_4 := hx133_4
        have hw133_3 := hx133_3
        have hw133_2 := hx133_2
        have hw133_1 := hx133_1
        have hw133_0 := hx133_0
        cases e133
        replace hx133_0 := (HB.out.cell (Bl_ w _ hx133_0)).trans hx133_0
        replace hx133_1 := (HB.out.cell (Bl_ w _ hx133_1)).trans hx133_1
        replace hx133_2 := (HB.out.cell (Bl_ w _ hx133_2)).trans hx133_2
        replace hx133_3 := (HB.out.cell (Bl_ w _ hx133_3)).trans hx133_3
        replace hx133_4 := (HB.out.cell (Bl_ w _ hx133_4)).trans hx133_4
        replace hx133_5 := (HB.out.cell (Bl_ w _ hx133_5)).trans hx133_5
        replace p133 := eq_true p133
        replace q133 := eq_true q133
        refine start_ (n := 15) (S := fun w' => w'.cell? ⟨gb125, 0, none⟩ = some (.slice (some ad133) l0_0.length c0_0) ∧ w'.cell? ⟨gb125, 1, none⟩ = some (.slice A0_1 l0_1.length c0_1) ∧ w'.cell? (ad130.add (a2).toNat) = some (.int .i64 (rd t127 a2)) ∧ w'.cell? (ad130.add (a2).toNat) = some (.int .i64 (rd t127 a2)) ∧ w'.cell? (ad133.add (((rd t127 a2)).toNat * 6)) = some (.int .i64 ((rd_T38 l0_0 (rd t127 a2)).f0)) ∧ w'.cell? ⟨(ad133.add (((rd t127 a2)).toNat * 6)).block, (ad133.add (((rd t127 a2)).toNat * 6)).off + 1, none⟩ = some (.int .i64 ((rd_T38 l0_0 (rd t127 a2)).f1)) ∧ w'.cell? ⟨(ad133.add (((rd t127 a2)).toNat * 6)).block, (ad133.add (((rd t127 a2)).toNat * 6)).off + 2, none⟩ = some (.bool ((rd_T38 l0_0 (rd t127 a2)).f2)) ∧ w'.cell? ⟨(ad133.add (((rd t127 a2)).toNat * 6)).block, (ad133.add (((rd t127 a2)).toNat * 6)).off + 3, none⟩ = some (.bool ((rd_T38 l0_0 (rd t127 a2)).f3)) ∧ w'.cell? ⟨(ad133.add (((rd t127 a2)).toNat * 6)).block, (ad133.add (((rd t127 a2)).toNat * 6)).off + 4, none⟩ = some (.int .i64 ((rd_T38 l0_0 (rd t127 a2)).f4)) ∧ w'.cell? ⟨(ad133.add (((rd t127 a2)).toNat * 6)).block, (ad133.add (((rd t127 a2)).toNat * 6)).off + 5, none⟩ = some (.int .i64 ((rd_T38 l0_0 (rd t127 a2)).f5))) (ds := []) #[f_,f_,f_,f_,f_,f_,f_,f_,f_,f_,f_,f_,f_,f_,f_] (by kernel_rfl) rfl rfl ⟨(Bc_ BK125.out 0).trans rfl, (Bc_ BK125.out 1).trans rfl, hx131_0, hx132_0, ((HB.out.cell (Bl_ w _ hw133_0)).trans hw133_0), ((HB.out.cell (Bl_ w _ hw133_1)).trans hw133_1), ((HB.out.cell (Bl_ w _ hw133_2)).trans hw133_2), ((HB.out.cell (Bl_ w _ hw133_3)).trans hw133_3), ((HB.out.cell (Bl_ w _ hw133_4)).trans hw133_4), ((HB.out.cell (Bl_ w _ hw133_5)).trans hw133_5)⟩ (fun hHeld => ?_); refine with_tabW handle_Get.tab4 handle_Get.bits4 (fun HT_ HW_ => ?_)
        generalize w36.drew = w38 at HO129 BK125 BK126 HB hx131_0 hx132_0 hx133_0 hx133_1 hx133_2 hx133_3 hx133_4 hx133_5 hHeld ⊢
        refine pure_ (i := 0) (N := some 29) (v := ?_) (a' := ?_) #[t_,f_,f_,f_,f_,f_,f_,f_,f_,f_,f_,f_,f_,f_,f_] rfl rfl (any_of HT_.out (by kernel_rfl)) (fun _ _ _ h => h) (Or.inl ⟨by rfl, ?_⟩) ?_ ?_
        rotate_left
        ·intro w'
         go_simp
         with_reducible rfl
        rotate_left
        ·simp only [Act.put, La_, Lb_, Lc_, i64_w, i32_w]
         rfl
        refine pure_ (i := 1) (N := some 30) (v := ?_) (a' := ?_) #[t_,t_,f_,f_,f_,f_,f_,f_,f_,f_,f_,f_,f_,f_,f_] rfl rfl (any_of HT_.out (by kernel_rfl)) (fun _ _ _ h => h) (Or.inl ⟨by rfl, ?_⟩) ?_ ?_
        rotate_left
        ·intro w'
         go_simp
         with_reducible rfl
        rotate_left
        ·simp only [Act.put, La_, Lb_, Lc_, i64_w, i32_w]
         rfl
        refine pure_ (i := 2) (N := some 31) (v := ?_) (a' := ?_) #[t_,t_,t_,f_,f_,f_,f_,f_,f_,f_,f_,f_,f_,f_,f_] rfl rfl (any_of HT_.out (by kernel_rfl)) (fun _ _ _ h => h) (Or.inl ⟨by rfl, ?_⟩) ?_ ?_
        rotate_left
        ·intro w'
         go_simp
         with_reducible rfl
        rotate_left
        ·simp only [Act.put, La_, Lb_, Lc_, i64_w, i32_w]
         rfl
        refine pure_ (i := 4) (N := some 33) (v := ?_) (a' := ?_) #[t_,t_,t_,f_,t_,f_,f_,f_,f_,f_,f_,f_,f_,f_,f_] rfl rfl (any_of HT_.out (by kernel_rfl)) (fun _ _ _ h => h) (Or.inl ⟨by rfl, ?_⟩) ?_ ?_
        rotate_left
        ·intro w'
         go_simp
         with_reducible rfl
        rotate_left
        ·simp only [Act.put, La_, Lb_, Lc_, i64_w, i32_w]
         rfl
        refine pure_ (i := 6) (N := some 35) (v := ?_) (a' := ?_) #[t_,t_,t_,f_,t_,f_,t_,f_,f_,f_,f_,f_,f_,f_,f_] rfl rfl (any_of HT_.out (by kernel_rfl)) (fun _ _ _ h => h) (Or.inl ⟨by rfl, ?_⟩) ?_ ?_
        rotate_left
        ·intro w'
         go_simp
         with_reducible rfl
        rotate_left
        ·simp only [Act.put, La_, Lb_, Lc_, i64_w, i32_w]
         rfl
        refine pure_ (i := 7) (N := some 36) (v := ?_) (a' := ?_) #[t_,t_,t_,f_,t_,f_,t_,t_,f_,f_,f_,f_,f_,f_,f_] rfl rfl (any_of HT_.out (by kernel_rfl)) (fun _ _ _ h => h) (Or.inl ⟨by rfl, ?_⟩) ?_ ?_
        rotate_left
        ·intro w'
         go_simp
         with_reducible rfl
        rotate_left
        ·simp only [Act.put, La_, Lb_, Lc_, i64_w, i32_w]
         rfl
        refine pure_ (i := 8) (N := some 37) (v := ?_) (a' := ?_) #[t_,t_,t_,f_,t_,f_,t_,t_,t_,f_,f_,f_,f_,f_,f_] rfl rfl (any_of HT_.out (by kernel_rfl)) (fun _ _ _ h => h) (Or.inl ⟨by rfl, ?_⟩) ?_ ?_
        rotate_left
        ·intro w'
         go_simp
         with_reducible rfl
        rotate_left
        ·simp only [Act.put, La_, Lb_, Lc_, i64_w, i32_w]
         rfl
        refine take_ (i := 3) (N := some 32) (v := ?_) (a' := ?_) #[t_,t_,t_,t_,t_,f_,t_,t_,t_,f_,f_,f_,f_,f_,f_] rfl rfl (take_ofW HT_.out HW_.out (by kernel_rfl)) (fun _ _ _ h => h) (Or.inl ⟨by rfl, ?_⟩) hHeld ?_ ?_
        rotate_left
        ·rintro w' ⟨s0, s1, s2, s3, s4, s5, s6, s7, s8, s9⟩
         go_simp
         with_reducible rfl
        rotate_left
        ·simp only [Act.put, La_, Lb_, Lc_, i64_w, i32_w]
         rfl
        refine pure_ (i := 12) (N := some 6) (v := ?_) (a' := ?_) #[t_,t_,t_,t_,t_,f_,t_,t_,t_,f_,f_,f_,t_,f_,f_] rfl rfl (any_of HT_.out (by kernel_rfl)) (fun _ _ _ h => h) (Or.inl ⟨by rfl, ?_⟩) ?_ ?_
        rotate_left
        ·intro w'
         go_simp
         with_reducible rfl
        rotate_left
        ·simp only [Act.put, La_, Lb_, Lc_, i64_w, i32_w]
         rfl
        refine take_ (i := 5) (N := some 34) (v := ?_) (a' := ?_) #[t_,t_,t_,t_,t_,t_,t_,t_,t_,f_,f_,f_,t_,f_,f_] rfl rfl (take_ofW HT_.out HW_.out (by kernel_rfl)) (fun _ _ _ h => h) (Or.inl ⟨by rfl, ?_⟩) hHeld ?_ ?_
        rotate_left
        ·rintro w' ⟨s0, s1, s2, s3, s4, s5, s6, s7, s8, s9⟩
         go_simp
         with_reducible rfl
        rotate_left
        ·simp only [Act.put, La_, Lb_, Lc_, i64_w, i32_w]
         rfl
        refine take_ (i := 9) (N := some 38) (v := ?_) (a' := ?_) #[t_,t_,t_,t_,t_,t_,t_,t_,t_,t_,f_,f_,t_,f_,f_] rfl rfl (take_ofW HT_.out HW_.out (by kernel_rfl)) (fun _ _ _ h => h) (Or.inl ⟨by rfl, ?_⟩) hHeld ?_ ?_
        rotate_left
        ·rintro w' ⟨s0, s1, s2, s3, s4, s5, s6, s7, s8, s9⟩
         go_simp
         with_reducible rfl
        rotate_left
        ·simp only [Act.put, La_, Lb_, Lc_, i64_w, i32_w]
         rfl
        refine pure_ (i := 10) (N := some 39) (v := ?_) (a' := ?_) #[t_,t_,t_,t_,t_,t_,t_,t_,t_,t_,t_,f_,t_,f_,f_] rfl rfl (any_of HT_.out (by kernel_rfl)) (fun _ _ _ h => h) (Or.inl ⟨by rfl, ?_⟩) ?_ ?_
        rotate_left
        ·intro w'
         go_simp
         with_reducible rfl
        rotate_left
        ·simp only [Act.put, La_, Lb_, Lc_, i64_w, i32_w]
         rfl
        refine take_ (i := 11) (N := some 40) (v := ?_) (a' := ?_) #[t_,t_,t_,t_,t_,t_,t_,t_,t_,t_,t_,t_,t_,f_,f_] rfl rfl (take_ofW HT_.out HW_.out (by kernel_rfl)) (fun _ _ _ h => h) (Or.inl ⟨by rfl, ?_⟩) hHeld ?_ ?_
        rotate_left
        ·rintro w' ⟨s0, s1, s2, s3, s4, s5, s6, s7, s8, s9⟩
         go_simp
         with_reducible rfl
        rotate_left
        ·simp only [Act.put, La_, Lb_, Lc_, i64_w, i32_w]
         rfl
        refine one_ (i := 13) (N := none) #[t_,t_,t_,t_,t_,t_,t_,t_,t_,t_,t_,t_,t_,t_,f_] rfl rfl (one_of HT_.out (by kernel_rfl)) (by decide) (fun K hK => ?_)
        have hs39 : w38.cell? ⟨gb126, 0, none⟩ = some (.int .i64 0) := (Bc_ BK126.out 0).trans rfl
        have hfs39 := Bf_ BK126.out 0
        have hns39_0 := NB125_126.out
        have hms39_0 := NB126_125.out
        have hs40 : w38.cell? ⟨gb126, 1, none⟩ = some (.int .i64 0) := (Bc_ BK126.out 1).trans rfl
        have hfs40 := Bf_ BK126.out 1
        have hns40_0 := NB125_126.out
        have hms40_0 := NB126_125.out
        have hs41 : w38.cell? ⟨gb126, 2, none⟩ = some (.bool false) := (Bc_ BK126.out 2).trans rfl
        have hfs41 := Bf_ BK126.out 2
        have hns41_0 := NB125_126.out
        have hms41_0 := NB126_125.out
        have hs42 : w38.cell? ⟨gb126, 3, none⟩ = some (.bool false) := (Bc_ BK126.out 3).trans rfl
        have hfs42 := Bf_ BK126.out 3
        have hns42_0 := NB125_126.out
        have hms42_0 := NB126_125.out
        have hs43 : w38.cell? ⟨gb126, 4, none⟩ = some (.int .i64 0) := (Bc_ BK126.out 4).trans rfl
        have hfs43 := Bf_ BK126.out 4
        have hns43_0 := NB125_126.out
        have hms43_0 := NB126_125.out
        have hs44 : w38.cell? ⟨gb126, 5, none⟩ = some (.int .i64 0) := (Bc_ BK126.out 5).trans rfl
        have hfs44 := Bf_ BK126.out 5
        have hns44_0 := NB125_126.out
        have hms44_0 := NB126_125.out
        refine skip_ (w1 := ?_) (by rfl) rfl ?_ ?_
        rotate_left
        ·go_simp
         rfl
        refine hK.out _ _ ⟨(Cc6_ (g := gb126) NB125_126.out (hHeld.1)), (Cc6_ (g := gb126) NB125_126.out (hHeld.2.1)), (Cc6_ (g := gb126) (Nx_ ((Kd.F_in (Kd.V_F HO129.out) rfl (Int.ofNat_lt.1 (Int.lt_of_le_of_lt (of_eq_true p130) (of_eq_true q130))) Nat.zero_lt_one).2)) (hHeld.2.2.1)), (Cc6_ (g := gb126) (Nx_ ((Kd.F_in (Kd.V_F HO129.out) rfl (Int.ofNat_lt.1 (Int.lt_of_le_of_lt (of_eq_true p130) (of_eq_true q130))) Nat.zero_lt_one).2)) (hHeld.2.2.2.1)), (Cc6_ (g := gb126) (by first | exact Nat.ne_of_lt (Nat.lt_of_lt_of_le (by have := Bl_ _ _ hw133_0; first | rwa [Ab_] at this | exact this) GW126.out) | (rw [Ab_]; exact Nat.ne_of_lt (Nat.lt_of_lt_of_le (by have := Bl_ _ _ hw133_0; first | rwa [Ab_] at this | exact this) GW126.out)) | (show (Addr.add _ _).block ≠ _; rw [Ab_]; exact Nat.ne_of_lt (Nat.lt_of_lt_of_le (by have := Bl_ _ _ hw133_0; first | rwa [Ab_] at this | exact this) GW126.out)) | (dsimp only; exact Nat.ne_of_lt (Nat.lt_of_lt_of_le (by have := Bl_ _ _ hw133_0; first | rwa [Ab_] at this | exact this) GW126.out))) (hHeld.2.2.2.2.1)), (Cc6_ (g := gb126) (by first | exact Nat.ne_of_lt (Nat.lt_of_lt_of_le (by have := Bl_ _ _ hw133_1; first | rwa [Ab_] at this | exact this) GW126.out) | (rw [Ab_]; exact Nat.ne_of_lt (Nat.lt_of_lt_of_le (by have := Bl_ _ _ hw133_1; first | rwa [Ab_] at this | exact this) GW126.out)) | (show (Addr.add _ _).block ≠ _; rw [Ab_]; exact Nat.ne_of_lt (Nat.lt_of_lt_of_le (by have := Bl_ _ _ hw133_1; first | rwa [Ab_] at this | exact this) GW126.out)) | (dsimp only; exact Nat.ne_of_lt (Nat.lt_of_lt_of_le (by have := Bl_ _ _ hw133_1; first | rwa [Ab_] at this | exact this) GW126.out))) (hHeld.2.2.2.2.2.1)), (Cc6_ (g := gb126) (by first | exact Nat.ne_of_lt (Nat.lt_of_lt_of_le (by have := Bl_ _ _ hw133_2; first | rwa [Ab_] at this | exact this) GW126.out) | (rw [Ab_]; exact Nat.ne_of_lt (Nat.lt_of_lt_of_le (by have := Bl_ _ _ hw133_2; first | rwa [Ab_] at this | exact this) GW126.out)) | (show (Addr.add _ _).block ≠ _; rw [Ab_]; exact Nat.ne_of_lt (Nat.lt_of_lt_of_le (by have := Bl_ _ _ hw133_2; first | rwa [Ab_] at this | exact this) GW126.out)) | (dsimp only; exact Nat.ne_of_lt (Nat.lt_of_lt_of_le (by have := Bl_ _ _ hw133_2; first | rwa [Ab_] at this | exact this) GW126.out))) (hHeld.2.2.2.2.2.2.1)), (Cc6_ (g := gb126) (by first | exact Nat.ne_of_lt (Nat.lt_of_lt_of_le (by have := Bl_ _ _ hw133_3; first | rwa [Ab_] at this | exact this) GW126.out) | (rw [Ab_]; exact Nat.ne_of_lt (Nat.lt_of_lt_of_le (by have := Bl_ _ _ hw133_3; first | rwa [Ab_] at this | exact this) GW126.out)) | (show (Addr.add _ _).block ≠ _; rw [Ab_]; exact Nat.ne_of_lt (Nat.lt_of_lt_of_le (by have := Bl_ _ _ hw133_3; first | rwa [Ab_] at this | exact this) GW126.out)) | (dsimp only; exact Nat.ne_of_lt (Nat.lt_of_lt_of_le (by have := Bl_ _ _ hw133_3; first | rwa [Ab_] at this | exact this) GW126.out))) (hHeld.2.2.2.2.2.2.2.1)), (Cc6_ (g := gb126) (by first | exact Nat.ne_of_lt (Nat.lt_of_lt_of_le (by have := Bl_ _ _ hw133_4; first | rwa [Ab_] at this | exact this) GW126.out) | (rw [Ab_]; exact Nat.ne_of_lt (Nat.lt_of_lt_of_le (by have := Bl_ _ _ hw133_4; first | rwa [Ab_] at this | exact this) GW126.out)) | (show (Addr.add _ _).block ≠ _; rw [Ab_]; exact Nat.ne_of_lt (Nat.lt_of_lt_of_le (by have := Bl_ _ _ hw133_4; first | rwa [Ab_] at this | exact this) GW126.out)) | (dsimp only; exact Nat.ne_of_lt (Nat.lt_of_lt_of_le (by have := Bl_ _ _ hw133_4; first | rwa [Ab_] at this | exact this) GW126.out))) (hHeld.2.2.2.2.2.2.2.2.1)), (Cc6_ (g := gb126) (by first | exact Nat.ne_of_lt (Nat.lt_of_lt_of_le (by have := Bl_ _ _ hw133_5; first | rwa [Ab_] at this | exact this) GW126.out) | (rw [Ab_]; exact Nat.ne_of_lt (Nat.lt_of_lt_of_le (by have := Bl_ _ _ hw133_5; first | rwa [Ab_] at this | exact this) GW126.out)) | (show (Addr.add _ _).block ≠ _; rw [Ab_]; exact Nat.ne_of_lt (Nat.lt_of_lt_of_le (by have := Bl_ _ _ hw133_5; first | rwa [Ab_] at this | exact this) GW126.out)) | (dsimp only; exact Nat.ne_of_lt (Nat.lt_of_lt_of_le (by have := Bl_ _ _ hw133_5; first | rwa [Ab_] at this | exact this) GW126.out))) (hHeld.2.2.2.2.2.2.2.2.2))⟩ (fun hHeld => ?_)
        clear hK K
        refine pure_ (i := 14) (N := some 8) (v := ?_) (a' := ?_) #[t_,t_,t_,t_,t_,t_,t_,t_,t_,t_,t_,t_,t_,t_,t_] rfl rfl (any_of HT_.out (by kernel_rfl)) (fun _ _ _ h => h) (Or.inl ⟨by rfl, ?_⟩) ?_ ?_
        rotate_left
        ·intro w'
         go_simp
         with_reducible rfl
        rotate_left
        ·simp only [Act.put, La_, Lb_, Lc_, i64_w, i32_w]
         rfl
        refine done_ (done_of HT_.out (by kernel_rfl)) ?_
        try go_wp2
        refine bodyPost_ret (results_list (rs := [.tmp 6, .cell 7 38, .tmp 8]) rfl (by simp) (.tmp (.cell gb126 38 #[.int .i64 ((rd_T38 l0_0 (rd t127 a2)).f0), .int .i64 ((rd_T38 l0_0 (rd t127 a2)).f1), .bool ((rd_T38 l0_0 (rd t127 a2)).f2), .bool ((rd_T38 l0_0 (rd t127 a2)).f3), .int .i64 ((rd_T38 l0_0 (rd t127 a2)).f4), .int .i64 ((rd_T38 l0_0 (rd t127 a2)).f5)] (0, 0) _ rfl (by (with_reducible repeat (first | refine Bn_ ?_ _ | refine Bd_ ?_ | refine Ba_ ?_ _)); refine Bp_ (cs := #[.int .i64 ((rd_T38 l0_0 (rd t127 a2)).f0), .int .i64 ((rd_T38 l0_0 (rd t127 a2)).f1), .bool ((rd_T38 l0_0 (rd t127 a2)).f2), .bool ((rd_T38 l0_0 (rd t127 a2)).f3), .int .i64 ((rd_T38 l0_0 (rd t127 a2)).f4), .int .i64 0]) ?_ 5 _ rfl; (with_reducible repeat (first | refine Bn_ ?_ _ | refine Bd_ ?_ | refine Ba_ ?_ _)); refine Bp_ (cs := #[.int .i64 ((rd_T38 l0_0 (rd t127 a2)).f0), .int .i64 ((rd_T38 l0_0 (rd t127 a2)).f1), .bool ((rd_T38 l0_0 (rd t127 a2)).f2), .bool ((rd_T38 l0_0 (rd t127 a2)).f3), .int .i64 0, .int .i64 0]) ?_ 4 _ rfl; (with_reducible repeat (first | refine Bn_ ?_ _ | refine Bd_ ?_ | refine Ba_ ?_ _)); refine Bp_ (cs := #[.int .i64 ((rd_T38 l0_0 (rd t127 a2)).f0), .int .i64 ((rd_T38 l0_0 (rd t127 a2)).f1), .bool ((rd_T38 l0_0 (rd t127 a2)).f2), .bool false, .int .i64 0, .int .i64 0]) ?_ 3 _ rfl; (with_reducible repeat (first | refine Bn_ ?_ _ | refine Bd_ ?_ | refine Ba_ ?_ _)); refine Bp_ (cs := #[.int .i64 ((rd_T38 l0_0 (rd t127 a2)).f0), .int .i64 ((rd_T38 l0_0 (rd t127 a2)).f1), .bool false, .bool false, .int .i64 0, .int .i64 0]) ?_ 2 _ rfl; (with_reducible repeat (first | refine Bn_ ?_ _ | refine Bd_ ?_ | refine Ba_ ?_ _)); refine Bp_ (cs := #[.int .i64 ((rd_T38 l0_0 (rd t127 a2)).f0), .int .i64 0, .bool false, .bool false, .int .i64 0, .int .i64 0]) ?_ 1 _ rfl; (with_reducible repeat (first | refine Bn_ ?_ _ | refine Bd_ ?_ | refine Ba_ ?_ _)); refine Bp_ (cs := #[.int .i64 0, .int .i64 0, .bool false, .bool false, .int .i64 0, .int .i64 0]) ?_ 0 _ rfl; (with_reducible repeat (first | refine Bn_ ?_ _ | refine Bd_ ?_ | refine Ba_ ?_ _)); exact BK126.out) Try.underlying38 rfl (by kernel_rfl) (.tmp .nil)))) rfl ?_
        exact ⟨by first | rfl | (simp [errW_none, errW_some] <;> rfl) | (simp [*, errW_none, errW_some] <;> rfl), by repeat (first | (with_reducible first | exact HB.out | apply Pa_ | apply Pn_ | apply Pd_ | refine Bs_ ?_ GE125.out | refine Bs_ ?_ GE126.out) | exact HB.out)⟩
       ·rw [if_neg c31] at H
        exact absurd H (by simp)
      ·rw [if_neg c30] at H
       exact absurd H (by simp)
    ·rw [if_neg c21] at H
     exact absurd H (by simp)
   ·rw [if_neg c20] at H
    exact absurd H (by simp)

end Go.Proofs.Ytkecfdljodiifaa.P
