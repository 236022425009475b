-- Printed by a program of this session (inject.py) over the kit's print, with functions that were proved by hand in their places.
import Derived.Test.YtkecfdljodiifaaPK
namespace Go.Proofs.Ytkecfdljodiifaa.P
open Go.RowKit Go.Proofs.YtkecfdljodiifaaW.PrintWords Go.Proofs.YtkecfdljodiifaaW.PrintLast Go.Proofs.YtkecfdljodiifaaW.PrintMore
attribute [local go_sem] max2_int min2_int max_two min_two max_three min_three max_four min_four   -- for this text's walks alone
set_option linter.unusedVariables false
set_option linter.unusedSimpArgs false

/-! ### flagstoneref10_Get: function 28 -/
def flagstoneref10_Get.f (l0_0 : List (S54)) (l0_1 : List (List Int)) (a1 : Int) (a2 : Int) : Option (Int × Int × Int × Bool × Bool × Int × Int × Bool) := if a1 < 0 then (some ((-1), 0, 0, false, false, 0, 0, false)) else (if a1 ≥ (l0_1.length : Int) then (some ((-1), 0, 0, false, false, 0, 0, false)) else (if a2 < 0 then (some ((-1), 0, 0, false, false, 0, 0, false)) else (if 0 ≤ a1 then (if a1 < (l0_1.length : Int) then (if a2 ≥ ((rd_L1 l0_1 a1).length : Int) then (some ((-1), 0, 0, false, false, 0, 0, false)) else (if 0 ≤ a2 then (if a2 < ((rd_L1 l0_1 a1).length : Int) then (if (rd (rd_L1 l0_1 a1) a2) < 0 then (some ((-1), 0, 0, false, false, 0, 0, false)) else (if 0 ≤ (rd (rd_L1 l0_1 a1) a2) then (if (rd (rd_L1 l0_1 a1) a2) < (l0_0.length : Int) then (some (rd (rd_L1 l0_1 a1) a2, (rd_T54 l0_0 (rd (rd_L1 l0_1 a1) a2)).f0, (rd_T54 l0_0 (rd (rd_L1 l0_1 a1) a2)).f1, (rd_T54 l0_0 (rd (rd_L1 l0_1 a1) a2)).f2, (rd_T54 l0_0 (rd (rd_L1 l0_1 a1) a2)).f3, (rd_T54 l0_0 (rd (rd_L1 l0_1 a1) a2)).f4, (rd_T54 l0_0 (rd (rd_L1 l0_1 a1) a2)).f5, true)) else (none)) else (none))) else (none)) else (none))) else (none)) else (none))))
def flagstoneref10_Get.T4 : Bool × List (List Nat × List Nat) := (true, [([], []), ([], []), ([1], [1]), ([], []), ([2, 3], [2, 3]), ([4], [4]), ([0, 0], [0]), ([5, 6, 0, 1, 2, 3, 4, 5, 6], [5]), ([7, 0, 1, 2, 3, 4, 5, 6, 7], [])])
def flagstoneref10_Get.B4 : List Nat := [0, 0, 2, 0, 14, 30, 1, 127, 255]
theorem flagstoneref10_Get.tab4 : rtab .any (opsOf Try.f28 4) = flagstoneref10_Get.T4 := by kernel_rfl
theorem flagstoneref10_Get.bits4 : waitsOk flagstoneref10_Get.T4.2 flagstoneref10_Get.B4 = true := by kernel_rfl
set_option maxHeartbeats 8000000 in
set_option maxRecDepth 100000 in
theorem flagstoneref10_Get.calls (A0_0 : Option Addr) (c0_0 : Nat) (l0_0 : List (S54)) (A0_1 : Option Addr) (c0_1 : Nat) (l0_1 : List (List Int)) (a1 : Int) (a2 : Int) (r1 : Int) (r2 : Int) (r3 : Int) (r4 : Bool) (r5 : Bool) (r6 : Int) (r7 : Int) (r8 : Bool) (w : World) (hr0_0 : Kd.C k54 w A0_0 l0_0.length l0_0) (hc0_0 : l0_0.length ≤ c0_0) (hr0_1 : Kd.C (Kd.slice 3 (Kd.int .i64)) w A0_1 l0_1.length l0_1) (hc0_1 : l0_1.length ≤ c0_1) (h : flagstoneref10_Get.f l0_0 l0_1 a1 a2 = some (r1, r2, r3, r4, r5, r6, r7, r8)) :
  Calls Try.prog 28 #[.agg #[.slice A0_0 l0_0.length c0_0, .slice A0_1 l0_1.length c0_1], .int .i64 a1, .int .i64 a2] w fun e w' => e = .returned (.tuple #[.int .i64 r1, .agg #[.int .i64 r2, .int .i64 r3, .bool r4, .bool r5, .int .i64 r6, .int .i64 r7], .bool r8]) ∧ Below w.heap.size w w' := by
 have hu31 := Try.underlying31
 have hu54 := Try.underlying54
 have HR0_0 := Am_ hr0_0
 have HC0_0 := Am_ hc0_0
 clear hr0_0 hc0_0
 have HR0_1 := Am_ hr0_1
 have HC0_1 := Am_ hc0_1
 clear hr0_1 hc0_1
 have HB := Am_ (Below.refl w.heap.size w)
 have H : (if a1 < 0 then (some ((-1), 0, 0, false, false, 0, 0, false)) else (if a1 ≥ (l0_1.length : Int) then (some ((-1), 0, 0, false, false, 0, 0, false)) else (if a2 < 0 then (some ((-1), 0, 0, false, false, 0, 0, false)) else (if 0 ≤ a1 then (if a1 < (l0_1.length : Int) then (if a2 ≥ ((rd_L1 l0_1 a1).length : Int) then (some ((-1), 0, 0, false, false, 0, 0, false)) else (if 0 ≤ a2 then (if a2 < ((rd_L1 l0_1 a1).length : Int) then (if (rd (rd_L1 l0_1 a1) a2) < 0 then (some ((-1), 0, 0, false, false, 0, 0, false)) else (if 0 ≤ (rd (rd_L1 l0_1 a1) a2) then (if (rd (rd_L1 l0_1 a1) a2) < (l0_0.length : Int) then (some (rd (rd_L1 l0_1 a1) a2, (rd_T54 l0_0 (rd (rd_L1 l0_1 a1) a2)).f0, (rd_T54 l0_0 (rd (rd_L1 l0_1 a1) a2)).f1, (rd_T54 l0_0 (rd (rd_L1 l0_1 a1) a2)).f2, (rd_T54 l0_0 (rd (rd_L1 l0_1 a1) a2)).f3, (rd_T54 l0_0 (rd (rd_L1 l0_1 a1) a2)).f4, (rd_T54 l0_0 (rd (rd_L1 l0_1 a1) a2)).f5, true)) else (none)) else (none))) else (none)) else (none))) else (none)) else (none))))) = some (r1, r2, r3, r4, r5, r6, r7, r8) := h
 clear h
 by_cases c4 : a1 < 0
 ·rw [if_pos c4] at H
  have c4b0 : decide (a1 < 0) = true := Dt_ c4
  clear c4
  simp only [Option.some.injEq, Prod.mk.injEq] at H
  obtain ⟨rfl, rfl, rfl, rfl, rfl, rfl, rfl, rfl⟩ := H
  go_enter Try.func28, Try.ntmps28
  go_wp2_with (first | ((with_reducible refine gate_dst (N := 3) rfl ?_); (try (refine gate_guard (by rfl) ?_; dsimp only)); refine box_event ?hg (N := 3) ?hd (cs := #[.slice A0_0 l0_0.length c0_0, .slice A0_1 l0_1.length c0_1]) (t := 31) ?hr ?_; (case hd => rfl); (case hg => rfl); (case hr => go_simp; try rfl); intro gb314 hg w5 hbox hb; have n0_ := Am_ (Be_ (Pb0_ HB.out) hb); have n1_ := Am_ (hbox); have n2_ := Am_ ((by rw [hg]; exact (Bz_ (Pb0_ HB.out)) : w.heap.size ≤ gb314)); have n3_ := Am_ ((by rw [hg]; exact (Bz_ (Pb0_ HB.out)) : w.heap.size ≤ gb314)); clear HB; have HB := n0_; have BK314 := n1_; have GW314 := n2_; have GE314 := n3_; clear n0_ n1_ n2_ n3_; clear hb hbox hg) | ((with_reducible refine gate_dst (N := 7) rfl ?_); (try (refine gate_guard (by rfl) ?_; dsimp only)); refine box_event ?hg (N := 7) ?hd (cs := #[.int .i64 0, .int .i64 0, .bool false, .bool false, .int .i64 0, .int .i64 0]) (t := 54) ?hr ?_; (case hd => rfl); (case hg => rfl); (case hr => go_simp; try rfl); intro gb315 hg w6 hbox hb; have n0_ := Am_ (Bb_ (g := gb314) (o := .cells #[.slice A0_0 l0_0.length c0_0, .slice A0_1 l0_1.length c0_1] 31 (0, 0)) (Pk_ BK314.out) hb); have n1_ := Am_ (Be_ (Pb1_ HB.out GE314.out) hb); have n2_ := Am_ (hbox); have n3_ := Am_ ((by rw [hg]; exact (Bz_ (Pb1_ HB.out GE314.out)) : w.heap.size ≤ gb315)); have n4_ := Am_ ((by rw [hg]; exact (Bz_ (Pb1_ HB.out GE314.out)) : w.heap.size ≤ gb315)); have n5_ := Am_ ((by rw [hg]; exact Nat.ne_of_lt (blk_lt (g := gb314) (o := .cells #[.slice A0_0 l0_0.length c0_0, .slice A0_1 l0_1.length c0_1] 31 (0, 0)) (Pk_ BK314.out)) : gb314 ≠ gb315)); have n6_ := Am_ ((by rw [hg]; exact Nat.ne_of_gt (blk_lt (g := gb314) (o := .cells #[.slice A0_0 l0_0.length c0_0, .slice A0_1 l0_1.length c0_1] 31 (0, 0)) (Pk_ BK314.out)) : gb315 ≠ gb314)); clear BK314; clear HB; have BK314 := n0_; have HB := n1_; have BK315 := n2_; have GW315 := n3_; have GE315 := n4_; have NB314_315 := n5_; have NB315_314 := n6_; clear n0_ n1_ n2_ n3_ n4_ n5_ n6_; clear hb hbox hg; have hnb7 := NB315_314.out; have hnc7 := NB314_315.out; obtain ⟨hcz8_0, hcz8_1, hcz8_2, hcz8_3, hcz8_4, hcz8_5, hfz8_0, hfz8_1, hfz8_2, hfz8_3, hfz8_4, hfz8_5⟩ := Ce6_ BK315.out))
  refine bodyPost_ret (results_list (rs := [.tmp 6, .cell 7 54, .tmp 8]) rfl (by simp) (.tmp (.cell gb315 54 #[.int .i64 0, .int .i64 0, .bool false, .bool false, .int .i64 0, .int .i64 0] (0, 0) _ rfl (by (with_reducible repeat (first | refine Bn_ ?_ _ | refine Bd_ ?_ | refine Ba_ ?_ _)); refine Bp_ (cs := #[.int .i64 0, .int .i64 0, .bool false, .bool false, .int .i64 0, .int .i64 0]) ?_ 5 _ rfl; (with_reducible repeat (first | refine Bn_ ?_ _ | refine Bd_ ?_ | refine Ba_ ?_ _)); refine Bp_ (cs := #[.int .i64 0, .int .i64 0, .bool false, .bool false, .int .i64 0, .int .i64 0]) ?_ 4 _ rfl; (with_reducible repeat (first | refine Bn_ ?_ _ | refine Bd_ ?_ | refine Ba_ ?_ _)); refine Bp_ (cs := #[.int .i64 0, .int .i64 0, .bool false, .bool false, .int .i64 0, .int .i64 0]) ?_ 3 _ rfl; (with_reducible repeat (first | refine Bn_ ?_ _ | refine Bd_ ?_ | refine Ba_ ?_ _)); refine Bp_ (cs := #[.int .i64 0, .int .i64 0, .bool false, .bool false, .int .i64 0, .int .i64 0]) ?_ 2 _ rfl; (with_reducible repeat (first | refine Bn_ ?_ _ | refine Bd_ ?_ | refine Ba_ ?_ _)); refine Bp_ (cs := #[.int .i64 0, .int .i64 0, .bool false, .bool false, .int .i64 0, .int .i64 0]) ?_ 1 _ rfl; (with_reducible repeat (first | refine Bn_ ?_ _ | refine Bd_ ?_ | refine Ba_ ?_ _)); refine Bp_ (cs := #[.int .i64 0, .int .i64 0, .bool false, .bool false, .int .i64 0, .int .i64 0]) ?_ 0 _ rfl; (with_reducible repeat (first | refine Bn_ ?_ _ | refine Bd_ ?_ | refine Ba_ ?_ _)); exact BK315.out) Try.underlying54 rfl (by kernel_rfl) (.tmp .nil)))) rfl ?_
  exact ⟨by first | rfl | (simp [errW_none, errW_some] <;> rfl) | (simp [*, errW_none, errW_some] <;> rfl), by repeat (first | (with_reducible first | exact HB.out | apply Pa_ | apply Pn_ | apply Pd_ | refine Bs_ ?_ GE314.out | refine Bs_ ?_ GE315.out) | exact HB.out)⟩
 ·rw [if_neg c4] at H
  have c4b0 : decide (a1 < 0) = false := Df_ c4
  clear c4
  by_cases c9 : a1 ≥ (l0_1.length : Int)
  ·rw [if_pos c9] at H
   have c9b0 : decide ((l0_1.length : Int) ≤ a1) = true := Dt_ c9
   clear c9
   simp only [Option.some.injEq, Prod.mk.injEq] at H
   obtain ⟨rfl, rfl, rfl, rfl, rfl, rfl, rfl, rfl⟩ := H
   go_enter Try.func28, Try.ntmps28
   go_wp2_with (first | ((with_reducible refine gate_dst (N := 3) rfl ?_); (try (refine gate_guard (by rfl) ?_; dsimp only)); refine box_event ?hg (N := 3) ?hd (cs := #[.slice A0_0 l0_0.length c0_0, .slice A0_1 l0_1.length c0_1]) (t := 31) ?hr ?_; (case hd => rfl); (case hg => rfl); (case hr => go_simp; try rfl); intro gb314 hg w10 hbox hb; have n0_ := Am_ (Be_ (Pb0_ HB.out) hb); have n1_ := Am_ (hbox); have n2_ := Am_ ((by rw [hg]; exact (Bz_ (Pb0_ HB.out)) : w.heap.size ≤ gb314)); have n3_ := Am_ ((by rw [hg]; exact (Bz_ (Pb0_ HB.out)) : w.heap.size ≤ gb314)); clear HB; have HB := n0_; have BK314 := n1_; have GW314 := n2_; have GE314 := n3_; clear n0_ n1_ n2_ n3_; clear hb hbox hg) | ((with_reducible refine gate_dst (N := 7) rfl ?_); (try (refine gate_guard (by rfl) ?_; dsimp only)); refine box_event ?hg (N := 7) ?hd (cs := #[.int .i64 0, .int .i64 0, .bool false, .bool false, .int .i64 0, .int .i64 0]) (t := 54) ?hr ?_; (case hd => rfl); (case hg => rfl); (case hr => go_simp; try rfl); intro gb315 hg w11 hbox hb; have n0_ := Am_ (Bb_ (g := gb314) (o := .cells #[.slice A0_0 l0_0.length c0_0, .slice A0_1 l0_1.length c0_1] 31 (0, 0)) (Pk_ BK314.out) hb); have n1_ := Am_ (Be_ (Pb1_ HB.out GE314.out) hb); have n2_ := Am_ (hbox); have n3_ := Am_ ((by rw [hg]; exact (Bz_ (Pb1_ HB.out GE314.out)) : w.heap.size ≤ gb315)); have n4_ := Am_ ((by rw [hg]; exact (Bz_ (Pb1_ HB.out GE314.out)) : w.heap.size ≤ gb315)); have n5_ := Am_ ((by rw [hg]; exact Nat.ne_of_lt (blk_lt (g := gb314) (o := .cells #[.slice A0_0 l0_0.length c0_0, .slice A0_1 l0_1.length c0_1] 31 (0, 0)) (Pk_ BK314.out)) : gb314 ≠ gb315)); have n6_ := Am_ ((by rw [hg]; exact Nat.ne_of_gt (blk_lt (g := gb314) (o := .cells #[.slice A0_0 l0_0.length c0_0, .slice A0_1 l0_1.length c0_1] 31 (0, 0)) (Pk_ BK314.out)) : gb315 ≠ gb314)); clear BK314; clear HB; have BK314 := n0_; have HB := n1_; have BK315 := n2_; have GW315 := n3_; have GE315 := n4_; have NB314_315 := n5_; have NB315_314 := n6_; clear n0_ n1_ n2_ n3_ n4_ n5_ n6_; clear hb hbox hg; have hnb12 := NB314_315.out; have hnc12 := NB315_314.out; obtain ⟨hcz13_0, hcz13_1, hfz13_0, hfz13_1⟩ := Ce2_ BK314.out; obtain ⟨hcz14_0, hcz14_1, hcz14_2, hcz14_3, hcz14_4, hcz14_5, hfz14_0, hfz14_1, hfz14_2, hfz14_3, hfz14_4, hfz14_5⟩ := Ce6_ BK315.out))
   refine bodyPost_ret (results_list (rs := [.tmp 6, .cell 7 54, .tmp 8]) rfl (by simp) (.tmp (.cell gb315 54 #[.int .i64 0, .int .i64 0, .bool false, .bool false, .int .i64 0, .int .i64 0] (0, 0) _ rfl (by (with_reducible repeat (first | refine Bn_ ?_ _ | refine Bd_ ?_ | refine Ba_ ?_ _)); refine Bp_ (cs := #[.int .i64 0, .int .i64 0, .bool false, .bool false, .int .i64 0, .int .i64 0]) ?_ 5 _ rfl; (with_reducible repeat (first | refine Bn_ ?_ _ | refine Bd_ ?_ | refine Ba_ ?_ _)); refine Bp_ (cs := #[.int .i64 0, .int .i64 0, .bool false, .bool false, .int .i64 0, .int .i64 0]) ?_ 4 _ rfl; (with_reducible repeat (first | refine Bn_ ?_ _ | refine Bd_ ?_ | refine Ba_ ?_ _)); refine Bp_ (cs := #[.int .i64 0, .int .i64 0, .bool false, .bool false, .int .i64 0, .int .i64 0]) ?_ 3 _ rfl; (with_reducible repeat (first | refine Bn_ ?_ _ | refine Bd_ ?_ | refine Ba_ ?_ _)); refine Bp_ (cs := #[.int .i64 0, .int .i64 0, .bool false, .bool false, .int .i64 0, .int .i64 0]) ?_ 2 _ rfl; (with_reducible repeat (first | refine Bn_ ?_ _ | refine Bd_ ?_ | refine Ba_ ?_ _)); refine Bp_ (cs := #[.int .i64 0, .int .i64 0, .bool false, .bool false, .int .i64 0, .int .i64 0]) ?_ 1 _ rfl; (with_reducible repeat (first | refine Bn_ ?_ _ | refine Bd_ ?_ | refine Ba_ ?_ _)); refine Bp_ (cs := #[.int .i64 0, .int .i64 0, .bool false, .bool false, .int .i64 0, .int .i64 0]) ?_ 0 _ rfl; (with_reducible repeat (first | refine Bn_ ?_ _ | refine Bd_ ?_ | refine Ba_ ?_ _)); exact BK315.out) Try.underlying54 rfl (by kernel_rfl) (.tmp .nil)))) rfl ?_
   exact ⟨by first | rfl | (simp [errW_none, errW_some] <;> rfl) | (simp [*, errW_none, errW_some] <;> rfl), by repeat (first | (with_reducible first | exact HB.out | apply Pa_ | apply Pn_ | apply Pd_ | refine Bs_ ?_ GE314.out | refine Bs_ ?_ GE315.out) | exact HB.out)⟩
  ·rw [if_neg c9] at H
   have c9b0 : decide ((l0_1.length : Int) ≤ a1) = false := Df_ c9
   clear c9
   by_cases c15 : a2 < 0
   ·rw [if_pos c15] at H
    have c15b0 : decide (a2 < 0) = true := Dt_ c15
    clear c15
    simp only [Option.some.injEq, Prod.mk.injEq] at H
    obtain ⟨rfl, rfl, rfl, rfl, rfl, rfl, rfl, rfl⟩ := H
    go_enter Try.func28, Try.ntmps28
    go_wp2_with (first | ((with_reducible refine gate_dst (N := 3) rfl ?_); (try (refine gate_guard (by rfl) ?_; dsimp only)); refine box_event ?hg (N := 3) ?hd (cs := #[.slice A0_0 l0_0.length c0_0, .slice A0_1 l0_1.length c0_1]) (t := 31) ?hr ?_; (case hd => rfl); (case hg => rfl); (case hr => go_simp; try rfl); intro gb314 hg w16 hbox hb; have n0_ := Am_ (Be_ (Pb0_ HB.out) hb); have n1_ := Am_ (hbox); have n2_ := Am_ ((by rw [hg]; exact (Bz_ (Pb0_ HB.out)) : w.heap.size ≤ gb314)); have n3_ := Am_ ((by rw [hg]; exact (Bz_ (Pb0_ HB.out)) : w.heap.size ≤ gb314)); clear HB; have HB := n0_; have BK314 := n1_; have GW314 := n2_; have GE314 := n3_; clear n0_ n1_ n2_ n3_; clear hb hbox hg) | ((with_reducible refine gate_dst (N := 7) rfl ?_); (try (refine gate_guard (by rfl) ?_; dsimp only)); refine box_event ?hg (N := 7) ?hd (cs := #[.int .i64 0, .int .i64 0, .bool false, .bool false, .int .i64 0, .int .i64 0]) (t := 54) ?hr ?_; (case hd => rfl); (case hg => rfl); (case hr => go_simp; try rfl); intro gb315 hg w17 hbox hb; have n0_ := Am_ (Bb_ (g := gb314) (o := .cells #[.slice A0_0 l0_0.length c0_0, .slice A0_1 l0_1.length c0_1] 31 (0, 0)) (Pk_ BK314.out) hb); have n1_ := Am_ (Be_ (Pb1_ HB.out GE314.out) hb); have n2_ := Am_ (hbox); have n3_ := Am_ ((by rw [hg]; exact (Bz_ (Pb1_ HB.out GE314.out)) : w.heap.size ≤ gb315)); have n4_ := Am_ ((by rw [hg]; exact (Bz_ (Pb1_ HB.out GE314.out)) : w.heap.size ≤ gb315)); have n5_ := Am_ ((by rw [hg]; exact Nat.ne_of_lt (blk_lt (g := gb314) (o := .cells #[.slice A0_0 l0_0.length c0_0, .slice A0_1 l0_1.length c0_1] 31 (0, 0)) (Pk_ BK314.out)) : gb314 ≠ gb315)); have n6_ := Am_ ((by rw [hg]; exact Nat.ne_of_gt (blk_lt (g := gb314) (o := .cells #[.slice A0_0 l0_0.length c0_0, .slice A0_1 l0_1.length c0_1] 31 (0, 0)) (Pk_ BK314.out)) : gb315 ≠ gb314)); clear BK314; clear HB; have BK314 := n0_; have HB := n1_; have BK315 := n2_; have GW315 := n3_; have GE315 := n4_; have NB314_315 := n5_; have NB315_314 := n6_; clear n0_ n1_ n2_ n3_ n4_ n5_ n6_; clear hb hbox hg; have hnb18 := NB314_315.out; have hnc18 := NB315_314.out; obtain ⟨hcz19_0, hcz19_1, hfz19_0, hfz19_1⟩ := Ce2_ BK314.out; obtain ⟨hcz20_0, hcz20_1, hcz20_2, hcz20_3, hcz20_4, hcz20_5, hfz20_0, hfz20_1, hfz20_2, hfz20_3, hfz20_4, hfz20_5⟩ := Ce6_ BK315.out))
    refine bodyPost_ret (results_list (rs := [.tmp 6, .cell 7 54, .tmp 8]) rfl (by simp) (.tmp (.cell gb315 54 #[.int .i64 0, .int .i64 0, .bool false, .bool false, .int .i64 0, .int .i64 0] (0, 0) _ rfl (by (with_reducible repeat (first | refine Bn_ ?_ _ | refine Bd_ ?_ | refine Ba_ ?_ _)); refine Bp_ (cs := #[.int .i64 0, .int .i64 0, .bool false, .bool false, .int .i64 0, .int .i64 0]) ?_ 5 _ rfl; (with_reducible repeat (first | refine Bn_ ?_ _ | refine Bd_ ?_ | refine Ba_ ?_ _)); refine Bp_ (cs := #[.int .i64 0, .int .i64 0, .bool false, .bool false, .int .i64 0, .int .i64 0]) ?_ 4 _ rfl; (with_reducible repeat (first | refine Bn_ ?_ _ | refine Bd_ ?_ | refine Ba_ ?_ _)); refine Bp_ (cs := #[.int .i64 0, .int .i64 0, .bool false, .bool false, .int .i64 0, .int .i64 0]) ?_ 3 _ rfl; (with_reducible repeat (first | refine Bn_ ?_ _ | refine Bd_ ?_ | refine Ba_ ?_ _)); refine Bp_ (cs := #[.int .i64 0, .int .i64 0, .bool false, .bool false, .int .i64 0, .int .i64 0]) ?_ 2 _ rfl; (with_reducible repeat (first | refine Bn_ ?_ _ | refine Bd_ ?_ | refine Ba_ ?_ _)); refine Bp_ (cs := #[.int .i64 0, .int .i64 0, .bool false, .bool false, .int .i64 0, .int .i64 0]) ?_ 1 _ rfl; (with_reducible repeat (first | refine Bn_ ?_ _ | refine Bd_ ?_ | refine Ba_ ?_ _)); refine Bp_ (cs := #[.int .i64 0, .int .i64 0, .bool false, .bool false, .int .i64 0, .int .i64 0]) ?_ 0 _ rfl; (with_reducible repeat (first | refine Bn_ ?_ _ | refine Bd_ ?_ | refine Ba_ ?_ _)); exact BK315.out) Try.underlying54 rfl (by kernel_rfl) (.tmp .nil)))) rfl ?_
    exact ⟨by first | rfl | (simp [errW_none, errW_some] <;> rfl) | (simp [*, errW_none, errW_some] <;> rfl), by repeat (first | (with_reducible first | exact HB.out | apply Pa_ | apply Pn_ | apply Pd_ | refine Bs_ ?_ GE314.out | refine Bs_ ?_ GE315.out) | exact HB.out)⟩
   ·rw [if_neg c15] at H
    have c15b0 : decide (a2 < 0) = false := Df_ c15
    clear c15
    by_cases c21 : 0 ≤ a1
    ·rw [if_pos c21] at H
     have c21b0 : decide (0 ≤ a1) = true := Dt_ c21
     clear c21
     by_cases c22 : a1 < (l0_1.length : Int)
     ·rw [if_pos c22] at H
      have c22b0 : decide (a1 < (l0_1.length : Int)) = true := Dt_ c22
      clear c22
      by_cases c23 : a2 ≥ ((rd_L1 l0_1 a1).length : Int)
      ·rw [if_pos c23] at H
       have c23b0 : decide (((rd_L1 l0_1 a1).length : Int) ≤ a2) = true := Dt_ c23
       clear c23
       simp only [Option.some.injEq, Prod.mk.injEq] at H
       obtain ⟨rfl, rfl, rfl, rfl, rfl, rfl, rfl, rfl⟩ := H
       go_enter Try.func28, Try.ntmps28
       go_wp2_with (first | ((with_reducible refine gate_dst (N := 3) rfl ?_); (try (refine gate_guard (by rfl) ?_; dsimp only)); refine box_event ?hg (N := 3) ?hd (cs := #[.slice A0_0 l0_0.length c0_0, .slice A0_1 l0_1.length c0_1]) (t := 31) ?hr ?_; (case hd => rfl); (case hg => rfl); (case hr => go_simp; try rfl); intro gb314 hg w24 hbox hb; have n0_ := Am_ (Be_ (Pb0_ HB.out) hb); have n1_ := Am_ (hbox); have n2_ := Am_ ((by rw [hg]; exact (Bz_ (Pb0_ HB.out)) : w.heap.size ≤ gb314)); have n3_ := Am_ ((by rw [hg]; exact (Bz_ (Pb0_ HB.out)) : w.heap.size ≤ gb314)); clear HB; have HB := n0_; have BK314 := n1_; have GW314 := n2_; have GE314 := n3_; clear n0_ n1_ n2_ n3_; clear hb hbox hg) | ((with_reducible refine gate_dst (N := 7) rfl ?_); (try (refine gate_guard (by rfl) ?_; dsimp only)); refine box_event ?hg (N := 7) ?hd (cs := #[.int .i64 0, .int .i64 0, .bool false, .bool false, .int .i64 0, .int .i64 0]) (t := 54) ?hr ?_; (case hd => rfl); (case hg => rfl); (case hr => go_simp; try rfl); intro gb315 hg w25 hbox hb; have n0_ := Am_ (Bb_ (g := gb314) (o := .cells #[.slice A0_0 l0_0.length c0_0, .slice A0_1 l0_1.length c0_1] 31 (0, 0)) (Pk_ BK314.out) hb); have n1_ := Am_ (Be_ (Pb1_ HB.out GE314.out) hb); have n2_ := Am_ (hbox); have n3_ := Am_ ((by rw [hg]; exact (Bz_ (Pb1_ HB.out GE314.out)) : w.heap.size ≤ gb315)); have n4_ := Am_ ((by rw [hg]; exact (Bz_ (Pb1_ HB.out GE314.out)) : w.heap.size ≤ gb315)); have n5_ := Am_ ((by rw [hg]; exact Nat.ne_of_lt (blk_lt (g := gb314) (o := .cells #[.slice A0_0 l0_0.length c0_0, .slice A0_1 l0_1.length c0_1] 31 (0, 0)) (Pk_ BK314.out)) : gb314 ≠ gb315)); have n6_ := Am_ ((by rw [hg]; exact Nat.ne_of_gt (blk_lt (g := gb314) (o := .cells #[.slice A0_0 l0_0.length c0_0, .slice A0_1 l0_1.length c0_1] 31 (0, 0)) (Pk_ BK314.out)) : gb315 ≠ gb314)); clear BK314; clear HB; have BK314 := n0_; have HB := n1_; have BK315 := n2_; have GW315 := n3_; have GE315 := n4_; have NB314_315 := n5_; have NB315_314 := n6_; clear n0_ n1_ n2_ n3_ n4_ n5_ n6_; clear hb hbox hg; have hnb26 := NB314_315.out; have hnc26 := NB315_314.out; obtain ⟨hcz27_0, hcz27_1, hfz27_0, hfz27_1⟩ := Ce2_ BK314.out; have p316 : 0 ≤ (a1 : Int) := Ot_ (by first | (with_reducible assumption) | assumption); have q316 : a1 < (l0_1.length : Int) := Ot_ (by first | (with_reducible assumption) | assumption); obtain ⟨ad316, A316_0, c316_0, e316, hx316_0, hl316_0, hi316_0⟩ := at_L1 HR0_1.out a1 p316 q316; cases e316; replace hx316_0 := (HB.out.cell (Bl_ w _ hx316_0)).trans hx316_0; have HR316_0 := Am_ hi316_0; have HC316_0 := Am_ hl316_0; clear hi316_0 hl316_0; replace p316 := eq_true p316; replace q316 := eq_true q316; obtain ⟨hcz28_0, hcz28_1, hcz28_2, hcz28_3, hcz28_4, hcz28_5, hfz28_0, hfz28_1, hfz28_2, hfz28_3, hfz28_4, hfz28_5⟩ := Ce6_ BK315.out))
       refine bodyPost_ret (results_list (rs := [.tmp 6, .cell 7 54, .tmp 8]) rfl (by simp) (.tmp (.cell gb315 54 #[.int .i64 0, .int .i64 0, .bool false, .bool false, .int .i64 0, .int .i64 0] (0, 0) _ rfl (by (with_reducible repeat (first | refine Bn_ ?_ _ | refine Bd_ ?_ | refine Ba_ ?_ _)); refine Bp_ (cs := #[.int .i64 0, .int .i64 0, .bool false, .bool false, .int .i64 0, .int .i64 0]) ?_ 5 _ rfl; (with_reducible repeat (first | refine Bn_ ?_ _ | refine Bd_ ?_ | refine Ba_ ?_ _)); refine Bp_ (cs := #[.int .i64 0, .int .i64 0, .bool false, .bool false, .int .i64 0, .int .i64 0]) ?_ 4 _ rfl; (with_reducible repeat (first | refine Bn_ ?_ _ | refine Bd_ ?_ | refine Ba_ ?_ _)); refine Bp_ (cs := #[.int .i64 0, .int .i64 0, .bool false, .bool false, .int .i64 0, .int .i64 0]) ?_ 3 _ rfl; (with_reducible repeat (first | refine Bn_ ?_ _ | refine Bd_ ?_ | refine Ba_ ?_ _)); refine Bp_ (cs := #[.int .i64 0, .int .i64 0, .bool false, .bool false, .int .i64 0, .int .i64 0]) ?_ 2 _ rfl; (with_reducible repeat (first | refine Bn_ ?_ _ | refine Bd_ ?_ | refine Ba_ ?_ _)); refine Bp_ (cs := #[.int .i64 0, .int .i64 0, .bool false, .bool false, .int .i64 0, .int .i64 0]) ?_ 1 _ rfl; (with_reducible repeat (first | refine Bn_ ?_ _ | refine Bd_ ?_ | refine Ba_ ?_ _)); refine Bp_ (cs := #[.int .i64 0, .int .i64 0, .bool false, .bool false, .int .i64 0, .int .i64 0]) ?_ 0 _ rfl; (with_reducible repeat (first | refine Bn_ ?_ _ | refine Bd_ ?_ | refine Ba_ ?_ _)); exact BK315.out) Try.underlying54 rfl (by kernel_rfl) (.tmp .nil)))) rfl ?_
       exact ⟨by first | rfl | (simp [errW_none, errW_some] <;> rfl) | (simp [*, errW_none, errW_some] <;> rfl), by repeat (first | (with_reducible first | exact HB.out | apply Pa_ | apply Pn_ | apply Pd_ | refine Bs_ ?_ GE314.out | refine Bs_ ?_ GE315.out) | exact HB.out)⟩
      ·rw [if_neg c23] at H
       have c23b0 : decide (((rd_L1 l0_1 a1).length : Int) ≤ a2) = false := Df_ c23
       clear c23
       by_cases c29 : 0 ≤ a2
       ·rw [if_pos c29] at H
        have c29b0 : decide (0 ≤ a2) = true := Dt_ c29
        clear c29
        by_cases c30 : a2 < ((rd_L1 l0_1 a1).length : Int)
        ·rw [if_pos c30] at H
         have c30b0 : decide (a2 < ((rd_L1 l0_1 a1).length : Int)) = true := Dt_ c30
         clear c30
         by_cases c31 : (rd (rd_L1 l0_1 a1) a2) < 0
         ·rw [if_pos c31] at H
          have c31b0 : decide ((rd (rd_L1 l0_1 a1) a2) < 0) = true := Dt_ c31
          clear c31
          simp only [Option.some.injEq, Prod.mk.injEq] at H
          obtain ⟨rfl, rfl, rfl, rfl, rfl, rfl, rfl, rfl⟩ := H
          go_enter Try.func28, Try.ntmps28
          go_wp2_with (first | ((with_reducible refine gate_dst (N := 3) rfl ?_); (try (refine gate_guard (by rfl) ?_; dsimp only)); refine box_event ?hg (N := 3) ?hd (cs := #[.slice A0_0 l0_0.length c0_0, .slice A0_1 l0_1.length c0_1]) (t := 31) ?hr ?_; (case hd => rfl); (case hg => rfl); (case hr => go_simp; try rfl); intro gb314 hg w32 hbox hb; have n0_ := Am_ (Be_ (Pb0_ HB.out) hb); have n1_ := Am_ (hbox); have n2_ := Am_ ((by rw [hg]; exact (Bz_ (Pb0_ HB.out)) : w.heap.size ≤ gb314)); have n3_ := Am_ ((by rw [hg]; exact (Bz_ (Pb0_ HB.out)) : w.heap.size ≤ gb314)); clear HB; have HB := n0_; have BK314 := n1_; have GW314 := n2_; have GE314 := n3_; clear n0_ n1_ n2_ n3_; clear hb hbox hg) | ((with_reducible refine gate_dst (N := 7) rfl ?_); (try (refine gate_guard (by rfl) ?_; dsimp only)); refine box_event ?hg (N := 7) ?hd (cs := #[.int .i64 0, .int .i64 0, .bool false, .bool false, .int .i64 0, .int .i64 0]) (t := 54) ?hr ?_; (case hd => rfl); (case hg => rfl); (case hr => go_simp; try rfl); intro gb315 hg w33 hbox hb; have n0_ := Am_ (Bb_ (g := gb314) (o := .cells #[.slice A0_0 l0_0.length c0_0, .slice A0_1 l0_1.length c0_1] 31 (0, 0)) (Pk_ BK314.out) hb); have n1_ := Am_ (Be_ (Pb1_ HB.out GE314.out) hb); have n2_ := Am_ (hbox); have n3_ := Am_ ((by rw [hg]; exact (Bz_ (Pb1_ HB.out GE314.out)) : w.heap.size ≤ gb315)); have n4_ := Am_ ((by rw [hg]; exact (Bz_ (Pb1_ HB.out GE314.out)) : w.heap.size ≤ gb315)); have n5_ := Am_ ((by rw [hg]; exact Nat.ne_of_lt (blk_lt (g := gb314) (o := .cells #[.slice A0_0 l0_0.length c0_0, .slice A0_1 l0_1.length c0_1] 31 (0, 0)) (Pk_ BK314.out)) : gb314 ≠ gb315)); have n6_ := Am_ ((by rw [hg]; exact Nat.ne_of_gt (blk_lt (g := gb314) (o := .cells #[.slice A0_0 l0_0.length c0_0, .slice A0_1 l0_1.length c0_1] 31 (0, 0)) (Pk_ BK314.out)) : gb315 ≠ gb314)); clear BK314; clear HB; have BK314 := n0_; have HB := n1_; have BK315 := n2_; have GW315 := n3_; have GE315 := n4_; have NB314_315 := n5_; have NB315_314 := n6_; clear n0_ n1_ n2_ n3_ n4_ n5_ n6_; clear hb hbox hg; have hnb34 := NB314_315.out; have hnc34 := NB315_314.out; obtain ⟨hcz35_0, hcz35_1, hfz35_0, hfz35_1⟩ := Ce2_ BK314.out; have p316 : 0 ≤ (a1 : Int) := Ot_ (by first | (with_reducible assumption) | assumption); have q316 : a1 < (l0_1.length : Int) := Ot_ (by first | (with_reducible assumption) | assumption); obtain ⟨ad316, A316_0, c316_0, e316, hx316_0, hl316_0, hi316_0⟩ := at_L1 HR0_1.out a1 p316 q316; cases e316; replace hx316_0 := (HB.out.cell (Bl_ w _ hx316_0)).trans hx316_0; have HR316_0 := Am_ hi316_0; have HC316_0 := Am_ hl316_0; clear hi316_0 hl316_0; replace p316 := eq_true p316; replace q316 := eq_true q316; have p317 : 0 ≤ (a1 : Int) := Ot_ (by first | (with_reducible assumption) | assumption); have q317 : a1 < (l0_1.length : Int) := Ot_ (by first | (with_reducible assumption) | assumption); obtain ⟨ad317, A317_0, c317_0, e317, hx317_0, hl317_0, hi317_0⟩ := at_L1 HR0_1.out a1 p317 q317; obtain rfl : ad316 = ad317 := (by injection e317); replace hx317_0 := (HB.out.cell (Bl_ w _ hx317_0)).trans hx317_0; have HR317_0 := Am_ hi317_0; have HC317_0 := Am_ hl317_0; clear hi317_0 hl317_0; replace p317 := eq_true p317; replace q317 := eq_true q317; have ea_ := Option.some.inj (hx316_0.symm.trans hx317_0); injection ea_ with ea_ en_ ec_; subst ea_; subst ec_; clear en_; have p318 : 0 ≤ (a2 : Int) := Ot_ (by first | (with_reducible assumption) | assumption); have q318 : a2 < ((rd_L1 l0_1 a1).length : Int) := Ot_ (by first | (with_reducible assumption) | assumption); obtain ⟨ad318, e318, hx318_0⟩ := Kd.at_int HR317_0.out a2 p318 q318; cases e318; replace hx318_0 := (HB.out.cell (Bl_ w _ hx318_0)).trans hx318_0; replace p318 := eq_true p318; replace q318 := eq_true q318; obtain ⟨hcz36_0, hcz36_1, hcz36_2, hcz36_3, hcz36_4, hcz36_5, hfz36_0, hfz36_1, hfz36_2, hfz36_3, hfz36_4, hfz36_5⟩ := Ce6_ BK315.out))
          refine bodyPost_ret (results_list (rs := [.tmp 6, .cell 7 54, .tmp 8]) rfl (by simp) (.tmp (.cell gb315 54 #[.int .i64 0, .int .i64 0, .bool false, .bool false, .int .i64 0, .int .i64 0] (0, 0) _ rfl (by (with_reducible repeat (first | refine Bn_ ?_ _ | refine Bd_ ?_ | refine Ba_ ?_ _)); refine Bp_ (cs := #[.int .i64 0, .int .i64 0, .bool false, .bool false, .int .i64 0, .int .i64 0]) ?_ 5 _ rfl; (with_reducible repeat (first | refine Bn_ ?_ _ | refine Bd_ ?_ | refine Ba_ ?_ _)); refine Bp_ (cs := #[.int .i64 0, .int .i64 0, .bool false, .bool false, .int .i64 0, .int .i64 0]) ?_ 4 _ rfl; (with_reducible repeat (first | refine Bn_ ?_ _ | refine Bd_ ?_ | refine Ba_ ?_ _)); refine Bp_ (cs := #[.int .i64 0, .int .i64 0, .bool false, .bool false, .int .i64 0, .int .i64 0]) ?_ 3 _ rfl; (with_reducible repeat (first | refine Bn_ ?_ _ | refine Bd_ ?_ | refine Ba_ ?_ _)); refine Bp_ (cs := #[.int .i64 0, .int .i64 0, .bool false, .bool false, .int .i64 0, .int .i64 0]) ?_ 2 _ rfl; (with_reducible repeat (first | refine Bn_ ?_ _ | refine Bd_ ?_ | refine Ba_ ?_ _)); refine Bp_ (cs := #[.int .i64 0, .int .i64 0, .bool false, .bool false, .int .i64 0, .int .i64 0]) ?_ 1 _ rfl; (with_reducible repeat (first | refine Bn_ ?_ _ | refine Bd_ ?_ | refine Ba_ ?_ _)); refine Bp_ (cs := #[.int .i64 0, .int .i64 0, .bool false, .bool false, .int .i64 0, .int .i64 0]) ?_ 0 _ rfl; (with_reducible repeat (first | refine Bn_ ?_ _ | refine Bd_ ?_ | refine Ba_ ?_ _)); exact BK315.out) Try.underlying54 rfl (by kernel_rfl) (.tmp .nil)))) rfl ?_
          exact ⟨by first | rfl | (simp [errW_none, errW_some] <;> rfl) | (simp [*, errW_none, errW_some] <;> rfl), by repeat (first | (with_reducible first | exact HB.out | apply Pa_ | apply Pn_ | apply Pd_ | refine Bs_ ?_ GE314.out | refine Bs_ ?_ GE315.out) | exact HB.out)⟩
         ·rw [if_neg c31] at H
          have c31b0 : decide ((rd (rd_L1 l0_1 a1) a2) < 0) = false := Df_ c31
          clear c31
          by_cases c37 : 0 ≤ (rd (rd_L1 l0_1 a1) a2)
          ·rw [if_pos c37] at H
           have c37b0 : decide (0 ≤ (rd (rd_L1 l0_1 a1) a2)) = true := Dt_ c37
           clear c37
           by_cases c38 : (rd (rd_L1 l0_1 a1) a2) < (l0_0.length : Int)
           ·rw [if_pos c38] at H
            have c38b0 : decide ((rd (rd_L1 l0_1 a1) a2) < (l0_0.length : Int)) = true := Dt_ c38
            clear c38
            simp only [Option.some.injEq, Prod.mk.injEq] at H
            obtain ⟨rfl, rfl, rfl, rfl, rfl, rfl, rfl, rfl⟩ := H
            go_enter Try.func28, Try.ntmps28
            try go_wp2_with (first | ((with_reducible refine gate_dst (N := 3) rfl ?_); (try (refine gate_guard (by rfl) ?_; dsimp only)); refine box_event ?hg (N := 3) ?hd (cs := #[.slice A0_0 l0_0.length c0_0, .slice A0_1 l0_1.length c0_1]) (t := 31) ?hr ?_; (case hd => rfl); (case hg => rfl); (case hr => go_simp; try rfl); intro gb314 hg w39 hbox hb; have n0_ := Am_ (Be_ (Pb0_ HB.out) hb); have n1_ := Am_ (hbox); have n2_ := Am_ ((by rw [hg]; exact (Bz_ (Pb0_ HB.out)) : w.heap.size ≤ gb314)); have n3_ := Am_ ((by rw [hg]; exact (Bz_ (Pb0_ HB.out)) : w.heap.size ≤ gb314)); clear HB; have HB := n0_; have BK314 := n1_; have GW314 := n2_; have GE314 := n3_; clear n0_ n1_ n2_ n3_; clear hb hbox hg) | ((with_reducible refine gate_dst (N := 7) rfl ?_); (try (refine gate_guard (by rfl) ?_; dsimp only)); refine box_event ?hg (N := 7) ?hd (cs := #[.int .i64 0, .int .i64 0, .bool false, .bool false, .int .i64 0, .int .i64 0]) (t := 54) ?hr ?_; (case hd => rfl); (case hg => rfl); (case hr => go_simp; try rfl); intro gb315 hg w40 hbox hb; have n0_ := Am_ (Bb_ (g := gb314) (o := .cells #[.slice A0_0 l0_0.length c0_0, .slice A0_1 l0_1.length c0_1] 31 (0, 0)) (Pk_ BK314.out) hb); have n1_ := Am_ (Be_ (Pb1_ HB.out GE314.out) hb); have n2_ := Am_ (hbox); have n3_ := Am_ ((by rw [hg]; exact (Bz_ (Pb1_ HB.out GE314.out)) : w.heap.size ≤ gb315)); have n4_ := Am_ ((by rw [hg]; exact (Bz_ (Pb1_ HB.out GE314.out)) : w.heap.size ≤ gb315)); have n5_ := Am_ ((by rw [hg]; exact Nat.ne_of_lt (blk_lt (g := gb314) (o := .cells #[.slice A0_0 l0_0.length c0_0, .slice A0_1 l0_1.length c0_1] 31 (0, 0)) (Pk_ BK314.out)) : gb314 ≠ gb315)); have n6_ := Am_ ((by rw [hg]; exact Nat.ne_of_gt (blk_lt (g := gb314) (o := .cells #[.slice A0_0 l0_0.length c0_0, .slice A0_1 l0_1.length c0_1] 31 (0, 0)) (Pk_ BK314.out)) : gb315 ≠ gb314)); clear BK314; clear HB; have BK314 := n0_; have HB := n1_; have BK315 := n2_; have GW315 := n3_; have GE315 := n4_; have NB314_315 := n5_; have NB315_314 := n6_; clear n0_ n1_ n2_ n3_ n4_ n5_ n6_; clear hb hbox hg; have hnb41 := NB314_315.out; have hnc41 := NB315_314.out; obtain ⟨hcz42_0, hcz42_1, hfz42_0, hfz42_1⟩ := Ce2_ BK314.out; have p316 : 0 ≤ (a1 : Int) := Ot_ (by first | (with_reducible assumption) | assumption); have q316 : a1 < (l0_1.length : Int) := Ot_ (by first | (with_reducible assumption) | assumption); obtain ⟨ad316, A316_0, c316_0, e316, hx316_0, hl316_0, hi316_0⟩ := at_L1 HR0_1.out a1 p316 q316; cases e316; replace hx316_0 := (HB.out.cell (Bl_ w _ hx316_0)).trans hx316_0; have HR316_0 := Am_ hi316_0; have HC316_0 := Am_ hl316_0; clear hi316_0 hl316_0; replace p316 := eq_true p316; replace q316 := eq_true q316; have p317 : 0 ≤ (a1 : Int) := Ot_ (by first | (with_reducible assumption) | assumption); have q317 : a1 < (l0_1.length : Int) := Ot_ (by first | (with_reducible assumption) | assumption); obtain ⟨ad317, A317_0, c317_0, e317, hx317_0, hl317_0, hi317_0⟩ := at_L1 HR0_1.out a1 p317 q317; obtain rfl : ad316 = ad317 := (by injection e317); replace hx317_0 := (HB.out.cell (Bl_ w _ hx317_0)).trans hx317_0; have HR317_0 := Am_ hi317_0; have HC317_0 := Am_ hl317_0; clear hi317_0 hl317_0; replace p317 := eq_true p317; replace q317 := eq_true q317; have ea_ := Option.some.inj (hx316_0.symm.trans hx317_0); injection ea_ with ea_ en_ ec_; subst ea_; subst ec_; clear en_; have p318 : 0 ≤ (a2 : Int) := Ot_ (by first | (with_reducible assumption) | assumption); have q318 : a2 < ((rd_L1 l0_1 a1).length : Int) := Ot_ (by first | (with_reducible assumption) | assumption); obtain ⟨ad318, e318, hx318_0⟩ := Kd.at_int HR317_0.out a2 p318 q318; cases e318; replace hx318_0 := (HB.out.cell (Bl_ w _ hx318_0)).trans hx318_0; replace p318 := eq_true p318; replace q318 := eq_true q318; have p319 : 0 ≤ (a1 : Int) := Ot_ (by first | (with_reducible assumption) | assumption); have q319 : a1 < (l0_1.length : Int) := Ot_ (by first | (with_reducible assumption) | assumption); obtain ⟨ad319, A319_0, c319_0, e319, hx319_0, hl319_0, hi319_0⟩ := at_L1 HR0_1.out a1 p319 q319; obtain rfl : ad316 = ad319 := (by injection e319); replace hx319_0 := (HB.out.cell (Bl_ w _ hx319_0)).trans hx319_0; have HR319_0 := Am_ hi319_0; have HC319_0 := Am_ hl319_0; clear hi319_0 hl319_0; replace p319 := eq_true p319; replace q319 := eq_true q319; have ea_ := Option.some.inj (hx316_0.symm.trans hx319_0); injection ea_ with ea_ en_ ec_; subst ea_; subst ec_; clear en_; have p320 : 0 ≤ (a2 : Int) := Ot_ (by first | (with_reducible assumption) | assumption); have q320 : a2 < ((rd_L1 l0_1 a1).length : Int) := Ot_ (by first | (with_reducible assumption) | assumption); obtain ⟨ad320, e320, hx320_0⟩ := Kd.at_int HR319_0.out a2 p320 q320; cases e320; replace hx320_0 := (HB.out.cell (Bl_ w _ hx320_0)).trans hx320_0; replace p320 := eq_true p320; replace q320 := eq_true q320))
            have n0_ := Am_ (Bd_ BK314.out)
            have n1_ := Am_ (Bd_ BK315.out)
            have n2_ := Am_ (Pd_ HB.out)
            clear BK314
            clear BK315
            clear HB
            have BK314 := n0_
            have BK315 := n1_
            have HB := n2_
            clear n0_ n1_ n2_
            have p321 : 0 ≤ ((rd (rd_L1 l0_1 a1) a2) : Int) := Ot_ (by first | (with_reducible assumption) | assumption)
            have q321 : (rd (rd_L1 l0_1 a1) a2) < (l0_0.length : Int) := Ot_ (by first | (with_reducible assumption) | assumption)
            obtain ⟨ad321, e321, hx321_0, hx321_1, hx321_2, hx321_3, hx321_4, hx321_5⟩ := at_T54 HR0_0.out (rd (rd_L1 l0_1 a1) a2) p321 q321
            have hw321_5 := hx321_5
            have hw321_4 := hx321_4
            have hw321_3 := hx321_3
            have hw321_2 := hx321_2
            have hw321_1 := hx321_1
            have hw321_0 := hx321_0
            cases e321
            replace hx321_0 := (HB.out.cell (Bl_ w _ hx321_0)).trans hx321_0
            replace hx321_1 := (HB.out.cell (Bl_ w _ hx321_1)).trans hx321_1
            replace hx321_2 := (HB.out.cell (Bl_ w _ hx321_2)).trans hx321_2
            replace hx321_3 := (HB.out.cell (Bl_ w _ hx321_3)).trans hx321_3
            replace hx321_4 := (HB.out.cell (Bl_ w _ hx321_4)).trans hx321_4
            replace hx321_5 := (HB.out.cell (Bl_ w _ hx321_5)).trans hx321_5
            replace p321 := eq_true p321
            replace q321 := eq_true q321
            refine start_ (n := 9) (S := fun w' => w'.cell? ⟨gb314, 0, none⟩ = some (.slice (some ad321) l0_0.length c0_0) ∧ w'.cell? ⟨gb314, 1, none⟩ = some (.slice (some ad316) l0_1.length c0_1) ∧ w'.cell? (ad321.add (((rd (rd_L1 l0_1 a1) a2)).toNat * 6)) = some (.int .i64 ((rd_T54 l0_0 (rd (rd_L1 l0_1 a1) a2)).f0)) ∧ w'.cell? ⟨(ad321.add (((rd (rd_L1 l0_1 a1) a2)).toNat * 6)).block, (ad321.add (((rd (rd_L1 l0_1 a1) a2)).toNat * 6)).off + 1, none⟩ = some (.int .i64 ((rd_T54 l0_0 (rd (rd_L1 l0_1 a1) a2)).f1)) ∧ w'.cell? ⟨(ad321.add (((rd (rd_L1 l0_1 a1) a2)).toNat * 6)).block, (ad321.add (((rd (rd_L1 l0_1 a1) a2)).toNat * 6)).off + 2, none⟩ = some (.bool ((rd_T54 l0_0 (rd (rd_L1 l0_1 a1) a2)).f2)) ∧ w'.cell? ⟨(ad321.add (((rd (rd_L1 l0_1 a1) a2)).toNat * 6)).block, (ad321.add (((rd (rd_L1 l0_1 a1) a2)).toNat * 6)).off + 3, none⟩ = some (.bool ((rd_T54 l0_0 (rd (rd_L1 l0_1 a1) a2)).f3)) ∧ w'.cell? ⟨(ad321.add (((rd (rd_L1 l0_1 a1) a2)).toNat * 6)).block, (ad321.add (((rd (rd_L1 l0_1 a1) a2)).toNat * 6)).off + 4, none⟩ = some (.int .i64 ((rd_T54 l0_0 (rd (rd_L1 l0_1 a1) a2)).f4)) ∧ w'.cell? ⟨(ad321.add (((rd (rd_L1 l0_1 a1) a2)).toNat * 6)).block, (ad321.add (((rd (rd_L1 l0_1 a1) a2)).toNat * 6)).off + 5, none⟩ = some (.int .i64 ((rd_T54 l0_0 (rd (rd_L1 l0_1 a1) a2)).f5))) (ds := []) #[f_,f_,f_,f_,f_,f_,f_,f_,f_] (by kernel_rfl) rfl rfl ⟨(Bc_ BK314.out 0).trans rfl, (Bc_ BK314.out 1).trans rfl, ((HB.out.cell (Bl_ w _ hw321_0)).trans hw321_0), ((HB.out.cell (Bl_ w _ hw321_1)).trans hw321_1), ((HB.out.cell (Bl_ w _ hw321_2)).trans hw321_2), ((HB.out.cell (Bl_ w _ hw321_3)).trans hw321_3), ((HB.out.cell (Bl_ w _ hw321_4)).trans hw321_4), ((HB.out.cell (Bl_ w _ hw321_5)).trans hw321_5)⟩ (fun hHeld => ?_); refine with_tabW flagstoneref10_Get.tab4 flagstoneref10_Get.bits4 (fun HT_ HW_ => ?_)
            generalize w40.drew = w43 at BK314 BK315 HB hx321_0 hx321_1 hx321_2 hx321_3 hx321_4 hx321_5 hHeld ⊢
            refine pure_ (i := 0) (N := some 53) (v := ?_) (a' := ?_) #[t_,f_,f_,f_,f_,f_,f_,f_,f_] rfl rfl (any_of HT_.out (by kernel_rfl)) (fun _ _ _ h => h) (Or.inl ⟨by rfl, ?_⟩) ?_ ?_
            rotate_left
            ·intro w'
             go_simp
             with_reducible rfl
            rotate_left
            ·simp only [Act.put, La_, Lb_, Lc_, i64_w, i32_w]
             rfl
            refine pure_ (i := 1) (N := some 54) (v := ?_) (a' := ?_) #[t_,t_,f_,f_,f_,f_,f_,f_,f_] rfl rfl (any_of HT_.out (by kernel_rfl)) (fun _ _ _ h => h) (Or.inl ⟨by rfl, ?_⟩) ?_ ?_
            rotate_left
            ·intro w'
             go_simp
             with_reducible rfl
            rotate_left
            ·simp only [Act.put, La_, Lb_, Lc_, i64_w, i32_w]
             rfl
            refine pure_ (i := 3) (N := some 56) (v := ?_) (a' := ?_) #[t_,t_,f_,t_,f_,f_,f_,f_,f_] rfl rfl (any_of HT_.out (by kernel_rfl)) (fun _ _ _ h => h) (Or.inl ⟨by rfl, ?_⟩) ?_ ?_
            rotate_left
            ·intro w'
             go_simp
             with_reducible rfl
            rotate_left
            ·simp only [Act.put, La_, Lb_, Lc_, i64_w, i32_w]
             rfl
            refine pure_ (i := 6) (N := some 6) (v := ?_) (a' := ?_) #[t_,t_,f_,t_,f_,f_,t_,f_,f_] rfl rfl (any_of HT_.out (by kernel_rfl)) (fun _ _ _ h => h) (Or.inl ⟨by rfl, ?_⟩) ?_ ?_
            rotate_left
            ·intro w'
             go_simp
             with_reducible rfl
            rotate_left
            ·simp only [Act.put, La_, Lb_, Lc_, i64_w, i32_w]
             rfl
            refine take_ (i := 2) (N := some 55) (v := ?_) (a' := ?_) #[t_,t_,t_,t_,f_,f_,t_,f_,f_] rfl rfl (take_ofW HT_.out HW_.out (by kernel_rfl)) (fun _ _ _ h => h) (Or.inl ⟨by rfl, ?_⟩) hHeld ?_ ?_
            rotate_left
            ·rintro w' ⟨s0, s1, s2, s3, s4, s5, s6, s7⟩
             go_simp
             with_reducible rfl
            rotate_left
            ·simp only [Act.put, La_, Lb_, Lc_, i64_w, i32_w]
             rfl
            refine pure_ (i := 4) (N := some 57) (v := ?_) (a' := ?_) #[t_,t_,t_,t_,t_,f_,t_,f_,f_] rfl rfl (any_of HT_.out (by kernel_rfl)) (fun _ _ _ h => h) (Or.inl ⟨by rfl, ?_⟩) ?_ ?_
            rotate_left
            ·intro w'
             go_simp
             with_reducible rfl
            rotate_left
            ·simp only [Act.put, La_, Lb_, Lc_, i64_w, i32_w]
             rfl
            refine take_ (i := 5) (N := some 58) (v := ?_) (a' := ?_) #[t_,t_,t_,t_,t_,t_,t_,f_,f_] rfl rfl (take_ofW HT_.out HW_.out (by kernel_rfl)) (fun _ _ _ h => h) (Or.inl ⟨by rfl, ?_⟩) hHeld ?_ ?_
            rotate_left
            ·rintro w' ⟨s0, s1, s2, s3, s4, s5, s6, s7⟩
             go_simp
             with_reducible rfl
            rotate_left
            ·simp only [Act.put, La_, Lb_, Lc_, i64_w, i32_w]
             rfl
            refine one_ (i := 7) (N := none) #[t_,t_,t_,t_,t_,t_,t_,t_,f_] rfl rfl (one_of HT_.out (by kernel_rfl)) (by decide) (fun K hK => ?_)
            have hs44 : w43.cell? ⟨gb315, 0, none⟩ = some (.int .i64 0) := (Bc_ BK315.out 0).trans rfl
            have hfs44 := Bf_ BK315.out 0
            have hns44_0 := NB314_315.out
            have hms44_0 := NB315_314.out
            have hs45 : w43.cell? ⟨gb315, 1, none⟩ = some (.int .i64 0) := (Bc_ BK315.out 1).trans rfl
            have hfs45 := Bf_ BK315.out 1
            have hns45_0 := NB314_315.out
            have hms45_0 := NB315_314.out
            have hs46 : w43.cell? ⟨gb315, 2, none⟩ = some (.bool false) := (Bc_ BK315.out 2).trans rfl
            have hfs46 := Bf_ BK315.out 2
            have hns46_0 := NB314_315.out
            have hms46_0 := NB315_314.out
            have hs47 : w43.cell? ⟨gb315, 3, none⟩ = some (.bool false) := (Bc_ BK315.out 3).trans rfl
            have hfs47 := Bf_ BK315.out 3
            have hns47_0 := NB314_315.out
            have hms47_0 := NB315_314.out
            have hs48 : w43.cell? ⟨gb315, 4, none⟩ = some (.int .i64 0) := (Bc_ BK315.out 4).trans rfl
            have hfs48 := Bf_ BK315.out 4
            have hns48_0 := NB314_315.out
            have hms48_0 := NB315_314.out
            have hs49 : w43.cell? ⟨gb315, 5, none⟩ = some (.int .i64 0) := (Bc_ BK315.out 5).trans rfl
            have hfs49 := Bf_ BK315.out 5
            have hns49_0 := NB314_315.out
            have hms49_0 := NB315_314.out
            refine skip_ (w1 := ?_) (by rfl) rfl ?_ ?_
            rotate_left
            ·go_simp
             rfl
            refine hK.out _ _ ⟨(Cc6_ (g := gb315) NB314_315.out (hHeld.1)), (Cc6_ (g := gb315) NB314_315.out (hHeld.2.1)), (Cc6_ (g := gb315) (by first | exact Nat.ne_of_lt (Nat.lt_of_lt_of_le (by have := Bl_ _ _ hw321_0; first | rwa [Ab_] at this | exact this) GW315.out) | (rw [Ab_]; exact Nat.ne_of_lt (Nat.lt_of_lt_of_le (by have := Bl_ _ _ hw321_0; first | rwa [Ab_] at this | exact this) GW315.out)) | (show (Addr.add _ _).block ≠ _; rw [Ab_]; exact Nat.ne_of_lt (Nat.lt_of_lt_of_le (by have := Bl_ _ _ hw321_0; first | rwa [Ab_] at this | exact this) GW315.out)) | (dsimp only; exact Nat.ne_of_lt (Nat.lt_of_lt_of_le (by have := Bl_ _ _ hw321_0; first | rwa [Ab_] at this | exact this) GW315.out))) (hHeld.2.2.1)), (Cc6_ (g := gb315) (by first | exact Nat.ne_of_lt (Nat.lt_of_lt_of_le (by have := Bl_ _ _ hw321_1; first | rwa [Ab_] at this | exact this) GW315.out) | (rw [Ab_]; exact Nat.ne_of_lt (Nat.lt_of_lt_of_le (by have := Bl_ _ _ hw321_1; first | rwa [Ab_] at this | exact this) GW315.out)) | (show (Addr.add _ _).block ≠ _; rw [Ab_]; exact Nat.ne_of_lt (Nat.lt_of_lt_of_le (by have := Bl_ _ _ hw321_1; first | rwa [Ab_] at this | exact this) GW315.out)) | (dsimp only; exact Nat.ne_of_lt (Nat.lt_of_lt_of_le (by have := Bl_ _ _ hw321_1; first | rwa [Ab_] at this | exact this) GW315.out))) (hHeld.2.2.2.1)), (Cc6_ (g := gb315) (by first | exact Nat.ne_of_lt (Nat.lt_of_lt_of_le (by have := Bl_ _ _ hw321_2; first | rwa [Ab_] at this | exact this) GW315.out) | (rw [Ab_]; exact Nat.ne_of_lt (Nat.lt_of_lt_of_le (by have := Bl_ _ _ hw321_2; first | rwa [Ab_] at this | exact this) GW315.out)) | (show (Addr.add _ _).block ≠ _; rw [Ab_]; exact Nat.ne_of_lt (Nat.lt_of_lt_of_le (by have := Bl_ _ _ hw321_2; first | rwa [Ab_] at this | exact this) GW315.out)) | (dsimp only; exact Nat.ne_of_lt (Nat.lt_of_lt_of_le (by have := Bl_ _ _ hw321_2; first | rwa [Ab_] at this | exact this) GW315.out))) (hHeld.2.2.2.2.1)), (Cc6_ (g := gb315) (by first | exact Nat.ne_of_lt (Nat.lt_of_lt_of_le (by have := Bl_ _ _ hw321_3; first | rwa [Ab_] at this | exact this) GW315.out) | (rw [Ab_]; exact Nat.ne_of_lt (Nat.lt_of_lt_of_le (by have := Bl_ _ _ hw321_3; first | rwa [Ab_] at this | exact this) GW315.out)) | (show (Addr.add _ _).block ≠ _; rw [Ab_]; exact Nat.ne_of_lt (Nat.lt_of_lt_of_le (by have := Bl_ _ _ hw321_3; first | rwa [Ab_] at this | exact this) GW315.out)) | (dsimp only; exact Nat.ne_of_lt (Nat.lt_of_lt_of_le (by have := Bl_ _ _ hw321_3; first | rwa [Ab_] at this | exact this) GW315.out))) (hHeld.2.2.2.2.2.1)), (Cc6_ (g := gb315) (by first | exact Nat.ne_of_lt (Nat.lt_of_lt_of_le (by have := Bl_ _ _ hw321_4; first | rwa [Ab_] at this | exact this) GW315.out) | (rw [Ab_]; exact Nat.ne_of_lt (Nat.lt_of_lt_of_le (by have := Bl_ _ _ hw321_4; first | rwa [Ab_] at this | exact this) GW315.out)) | (show (Addr.add _ _).block ≠ _; rw [Ab_]; exact Nat.ne_of_lt (Nat.lt_of_lt_of_le (by have := Bl_ _ _ hw321_4; first | rwa [Ab_] at this | exact this) GW315.out)) | (dsimp only; exact Nat.ne_of_lt (Nat.lt_of_lt_of_le (by have := Bl_ _ _ hw321_4; first | rwa [Ab_] at this | exact this) GW315.out))) (hHeld.2.2.2.2.2.2.1)), (Cc6_ (g := gb315) (by first | exact Nat.ne_of_lt (Nat.lt_of_lt_of_le (by have := Bl_ _ _ hw321_5; first | rwa [Ab_] at this | exact this) GW315.out) | (rw [Ab_]; exact Nat.ne_of_lt (Nat.lt_of_lt_of_le (by have := Bl_ _ _ hw321_5; first | rwa [Ab_] at this | exact this) GW315.out)) | (show (Addr.add _ _).block ≠ _; rw [Ab_]; exact Nat.ne_of_lt (Nat.lt_of_lt_of_le (by have := Bl_ _ _ hw321_5; first | rwa [Ab_] at this | exact this) GW315.out)) | (dsimp only; exact Nat.ne_of_lt (Nat.lt_of_lt_of_le (by have := Bl_ _ _ hw321_5; first | rwa [Ab_] at this | exact this) GW315.out))) (hHeld.2.2.2.2.2.2.2))⟩ (fun hHeld => ?_)
            clear hK K
            refine pure_ (i := 8) (N := some 8) (v := ?_) (a' := ?_) #[t_,t_,t_,t_,t_,t_,t_,t_,t_] rfl rfl (any_of HT_.out (by kernel_rfl)) (fun _ _ _ h => h) (Or.inl ⟨by rfl, ?_⟩) ?_ ?_
            rotate_left
            ·intro w'
             go_simp
             with_reducible rfl
            rotate_left
            ·simp only [Act.put, La_, Lb_, Lc_, i64_w, i32_w]
             rfl
            refine done_ (done_of HT_.out (by kernel_rfl)) ?_
            try go_wp2
            refine bodyPost_ret (results_list (rs := [.tmp 6, .cell 7 54, .tmp 8]) rfl (by simp) (.tmp (.cell gb315 54 #[.int .i64 ((rd_T54 l0_0 (rd (rd_L1 l0_1 a1) a2)).f0), .int .i64 ((rd_T54 l0_0 (rd (rd_L1 l0_1 a1) a2)).f1), .bool ((rd_T54 l0_0 (rd (rd_L1 l0_1 a1) a2)).f2), .bool ((rd_T54 l0_0 (rd (rd_L1 l0_1 a1) a2)).f3), .int .i64 ((rd_T54 l0_0 (rd (rd_L1 l0_1 a1) a2)).f4), .int .i64 ((rd_T54 l0_0 (rd (rd_L1 l0_1 a1) a2)).f5)] (0, 0) _ rfl (by (with_reducible repeat (first | refine Bn_ ?_ _ | refine Bd_ ?_ | refine Ba_ ?_ _)); refine Bp_ (cs := #[.int .i64 ((rd_T54 l0_0 (rd (rd_L1 l0_1 a1) a2)).f0), .int .i64 ((rd_T54 l0_0 (rd (rd_L1 l0_1 a1) a2)).f1), .bool ((rd_T54 l0_0 (rd (rd_L1 l0_1 a1) a2)).f2), .bool ((rd_T54 l0_0 (rd (rd_L1 l0_1 a1) a2)).f3), .int .i64 ((rd_T54 l0_0 (rd (rd_L1 l0_1 a1) a2)).f4), .int .i64 0]) ?_ 5 _ rfl; (with_reducible repeat (first | refine Bn_ ?_ _ | refine Bd_ ?_ | refine Ba_ ?_ _)); refine Bp_ (cs := #[.int .i64 ((rd_T54 l0_0 (rd (rd_L1 l0_1 a1) a2)).f0), .int .i64 ((rd_T54 l0_0 (rd (rd_L1 l0_1 a1) a2)).f1), .bool ((rd_T54 l0_0 (rd (rd_L1 l0_1 a1) a2)).f2), .bool ((rd_T54 l0_0 (rd (rd_L1 l0_1 a1) a2)).f3), .int .i64 0, .int .i64 0]) ?_ 4 _ rfl; (with_reducible repeat (first | refine Bn_ ?_ _ | refine Bd_ ?_ | refine Ba_ ?_ _)); refine Bp_ (cs := #[.int .i64 ((rd_T54 l0_0 (rd (rd_L1 l0_1 a1) a2)).f0), .int .i64 ((rd_T54 l0_0 (rd (rd_L1 l0_1 a1) a2)).f1), .bool ((rd_T54 l0_0 (rd (rd_L1 l0_1 a1) a2)).f2), .bool false, .int .i64 0, .int .i64 0]) ?_ 3 _ rfl; (with_reducible repeat (first | refine Bn_ ?_ _ | refine Bd_ ?_ | refine Ba_ ?_ _)); refine Bp_ (cs := #[.int .i64 ((rd_T54 l0_0 (rd (rd_L1 l0_1 a1) a2)).f0), .int .i64 ((rd_T54 l0_0 (rd (rd_L1 l0_1 a1) a2)).f1), .bool false, .bool false, .int .i64 0, .int .i64 0]) ?_ 2 _ rfl; (with_reducible repeat (first | refine Bn_ ?_ _ | refine Bd_ ?_ | refine Ba_ ?_ _)); refine Bp_ (cs := #[.int .i64 ((rd_T54 l0_0 (rd (rd_L1 l0_1 a1) a2)).f0), .int .i64 0, .bool false, .bool false, .int .i64 0, .int .i64 0]) ?_ 1 _ rfl; (with_reducible repeat (first | refine Bn_ ?_ _ | refine Bd_ ?_ | refine Ba_ ?_ _)); refine Bp_ (cs := #[.int .i64 0, .int .i64 0, .bool false, .bool false, .int .i64 0, .int .i64 0]) ?_ 0 _ rfl; (with_reducible repeat (first | refine Bn_ ?_ _ | refine Bd_ ?_ | refine Ba_ ?_ _)); exact BK315.out) Try.underlying54 rfl (by kernel_rfl) (.tmp .nil)))) rfl ?_
            exact ⟨by first | rfl | (simp [errW_none, errW_some] <;> rfl) | (simp [*, errW_none, errW_some] <;> rfl), by repeat (first | (with_reducible first | exact HB.out | apply Pa_ | apply Pn_ | apply Pd_ | refine Bs_ ?_ GE314.out | refine Bs_ ?_ GE315.out) | exact HB.out)⟩
           ·rw [if_neg c38] at H
            exact absurd H (by simp)
          ·rw [if_neg c37] at H
           exact absurd H (by simp)
        ·rw [if_neg c30] at H
         exact absurd H (by simp)
       ·rw [if_neg c29] at H
        exact absurd H (by simp)
     ·rw [if_neg c22] at H
      exact absurd H (by simp)
    ·rw [if_neg c21] at H
     exact absurd H (by simp)

end Go.Proofs.Ytkecfdljodiifaa.P
