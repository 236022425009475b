-- Printed by a program of this session (inject.py) over the kit's print, with functions that were proved by hand in their places.
import Derived.Test.YtbfjakhloabhmaaPK
import Derived.Test.YtbfjakhloabhmaaPEq52
namespace Go.Proofs.Ytbfjakhloabhmaa.P
open Go.RowKit Go.Proofs.YtbfjakhloabhmaaW.PrintWords Go.Proofs.YtbfjakhloabhmaaW.PrintLast Go.Proofs.YtbfjakhloabhmaaW.PrintMore
attribute [local go_sem] max2_int min2_int max_two min_two max_three min_three max_four min_four   -- for this text's walks alone
set_option linter.unusedVariables false
set_option linter.unusedSimpArgs false

attribute [local go_sem high] eqA52
/-! ### flagstoneref10_Same: function 16 -/
mutual
def flagstoneref10_Same.j0 : Nat → Bool → List (S52) → List (List Int) → List (S52) → List (List Int) → Option (Bool)
 | 0, _, _, _, _, _ => none
 | k + 1, x23, x243000, x243001, x244000, x244001 => if x23 = true then (some false) else (flagstoneref10_Same.l0 k 0 x243000 x243001 x244000 x244001)
def flagstoneref10_Same.l0 : Nat → Int → List (S52) → List (List Int) → List (S52) → List (List Int) → Option (Bool)
 | 0, _, _, _, _, _ => none
 | k + 1, x5, x243000, x243001, x244000, x244001 => if x5 < (x243000.length : Int) then (if 0 ≤ x5 then (if x5 < (x244000.length : Int) then (if (!(((rd_T52 x243000 x5).f0) == ((rd_T52 x244000 x5).f0)) || (!(((rd_T52 x243000 x5).f1) == ((rd_T52 x244000 x5).f1)) || (!(((rd_T52 x243000 x5).f2) == ((rd_T52 x244000 x5).f2)) || (!(((rd_T52 x243000 x5).f3) == ((rd_T52 x244000 x5).f3)) || (!(((rd_T52 x243000 x5).f4) == ((rd_T52 x244000 x5).f4)) || (!(((rd_T52 x243000 x5).f5) == ((rd_T52 x244000 x5).f5)))))))) = true then (some false) else (flagstoneref10_Same.l0 k (wrap64 (x5 + 1)) x243000 x243001 x244000 x244001)) else (none)) else (none)) else (flagstoneref10_Same.l1 k 0 x243000 x243001 x244000 x244001)
def flagstoneref10_Same.l1 : Nat → Int → List (S52) → List (List Int) → List (S52) → List (List Int) → Option (Bool)
 | 0, _, _, _, _, _ => none
 | k + 1, x6, x243000, x243001, x244000, x244001 => if x6 < (x243001.length : Int) then (if 0 ≤ x6 then (if x6 < (x244001.length : Int) then (if ((rd_L4 x243001 x6).length : Int) = ((rd_L4 x244001 x6).length : Int) then (flagstoneref10_Same.l2 k x6 0 x243000 x243001 x244000 x244001) else (some false)) else (none)) else (none)) else (some true)
def flagstoneref10_Same.l2 : Nat → Int → Int → List (S52) → List (List Int) → List (S52) → List (List Int) → Option (Bool)
 | 0, _, _, _, _, _, _ => none
 | k + 1, x6, x7, x243000, x243001, x244000, x244001 => if 0 ≤ x6 then (if x6 < (x243001.length : Int) then (if x7 < ((rd_L4 x243001 x6).length : Int) then (if 0 ≤ x7 then (if x6 < (x244001.length : Int) then (if x7 < ((rd_L4 x244001 x6).length : Int) then (if (rd (rd_L4 x243001 x6) x7) = (rd (rd_L4 x244001 x6) x7) then (flagstoneref10_Same.l2 k x6 (wrap64 (x7 + 1)) x243000 x243001 x244000 x244001) else (some false)) else (none)) else (none)) else (none)) else (flagstoneref10_Same.l1 k (wrap64 (x6 + 1)) x243000 x243001 x244000 x244001)) else (none)) else (none)
end
def flagstoneref10_Same.f (k : Nat) (l0_0 : List (S52)) (l0_1 : List (List Int)) (l1_0 : List (S52)) (l1_1 : List (List Int)) : Option (Bool) := if (l0_0.length : Int) = (l1_0.length : Int) then (flagstoneref10_Same.j0 k ((l0_1.length : Int) != (l1_1.length : Int)) l0_0 l0_1 l1_0 l1_1) else (flagstoneref10_Same.j0 k true l0_0 l0_1 l1_0 l1_1)
theorem flagstoneref10_Same.mono_l : ∀ k, (∀ y0 y1 y2 y3 y4, LeO (flagstoneref10_Same.j0 k y0 y1 y2 y3 y4) (flagstoneref10_Same.j0 (k + 1) y0 y1 y2 y3 y4)) ∧ (∀ y0 y1 y2 y3 y4, LeO (flagstoneref10_Same.l0 k y0 y1 y2 y3 y4) (flagstoneref10_Same.l0 (k + 1) y0 y1 y2 y3 y4)) ∧ (∀ y0 y1 y2 y3 y4, LeO (flagstoneref10_Same.l1 k y0 y1 y2 y3 y4) (flagstoneref10_Same.l1 (k + 1) y0 y1 y2 y3 y4)) ∧ (∀ y0 y1 y2 y3 y4 y5, LeO (flagstoneref10_Same.l2 k y0 y1 y2 y3 y4 y5) (flagstoneref10_Same.l2 (k + 1) y0 y1 y2 y3 y4 y5))
 | 0 => ⟨fun _ _ _ _ _ r h => by simp [flagstoneref10_Same.j0] at h, fun _ _ _ _ _ r h => by simp [flagstoneref10_Same.l0] at h, fun _ _ _ _ _ r h => by simp [flagstoneref10_Same.l1] at h, fun _ _ _ _ _ _ r h => by simp [flagstoneref10_Same.l2] at h⟩
 | k + 1 => by
  obtain ⟨ih0, ih1, ih2, ih3⟩ := flagstoneref10_Same.mono_l k
  refine ⟨?_, ?_, ?_, ?_⟩
  ·intro y0 y1 y2 y3 y4
   unfold flagstoneref10_Same.j0
   repeat' first
   | (with_reducible exact ih0 _ _ _ _ _)
   | (with_reducible exact ih1 _ _ _ _ _)
   | (with_reducible exact ih2 _ _ _ _ _)
   | (with_reducible exact ih3 _ _ _ _ _ _)
   | (with_reducible exact LeO.refl _)
   | (with_reducible exact LeO.none _)
   | (with_reducible refine LeO.ite ?_ ?_)
   | (with_reducible refine LeO.bind ?_ (fun _ => ?_))
   | exact ih0 _ _ _ _ _
   | exact ih1 _ _ _ _ _
   | exact ih2 _ _ _ _ _
   | exact ih3 _ _ _ _ _ _
   | exact LeO.none _
   | refine LeO.ite ?_ ?_
   | refine LeO.bind ?_ (fun _ => ?_)
  ·intro y0 y1 y2 y3 y4
   unfold flagstoneref10_Same.l0
   repeat' first
   | (with_reducible exact ih0 _ _ _ _ _)
   | (with_reducible exact ih1 _ _ _ _ _)
   | (with_reducible exact ih2 _ _ _ _ _)
   | (with_reducible exact ih3 _ _ _ _ _ _)
   | (with_reducible exact LeO.refl _)
   | (with_reducible exact LeO.none _)
   | (with_reducible refine LeO.ite ?_ ?_)
   | (with_reducible refine LeO.bind ?_ (fun _ => ?_))
   | exact ih0 _ _ _ _ _
   | exact ih1 _ _ _ _ _
   | exact ih2 _ _ _ _ _
   | exact ih3 _ _ _ _ _ _
   | exact LeO.none _
   | refine LeO.ite ?_ ?_
   | refine LeO.bind ?_ (fun _ => ?_)
  ·intro y0 y1 y2 y3 y4
   unfold flagstoneref10_Same.l1
   repeat' first
   | (with_reducible exact ih0 _ _ _ _ _)
   | (with_reducible exact ih1 _ _ _ _ _)
   | (with_reducible exact ih2 _ _ _ _ _)
   | (with_reducible exact ih3 _ _ _ _ _ _)
   | (with_reducible exact LeO.refl _)
   | (with_reducible exact LeO.none _)
   | (with_reducible refine LeO.ite ?_ ?_)
   | (with_reducible refine LeO.bind ?_ (fun _ => ?_))
   | exact ih0 _ _ _ _ _
   | exact ih1 _ _ _ _ _
   | exact ih2 _ _ _ _ _
   | exact ih3 _ _ _ _ _ _
   | exact LeO.none _
   | refine LeO.ite ?_ ?_
   | refine LeO.bind ?_ (fun _ => ?_)
  ·intro y0 y1 y2 y3 y4 y5
   unfold flagstoneref10_Same.l2
   repeat' first
   | (with_reducible exact ih0 _ _ _ _ _)
   | (with_reducible exact ih1 _ _ _ _ _)
   | (with_reducible exact ih2 _ _ _ _ _)
   | (with_reducible exact ih3 _ _ _ _ _ _)
   | (with_reducible exact LeO.refl _)
   | (with_reducible exact LeO.none _)
   | (with_reducible refine LeO.ite ?_ ?_)
   | (with_reducible refine LeO.bind ?_ (fun _ => ?_))
   | exact ih0 _ _ _ _ _
   | exact ih1 _ _ _ _ _
   | exact ih2 _ _ _ _ _
   | exact ih3 _ _ _ _ _ _
   | exact LeO.none _
   | refine LeO.ite ?_ ?_
   | refine LeO.bind ?_ (fun _ => ?_)
theorem flagstoneref10_Same.mono : ∀ a0 a1 a2 a3 k, LeO (flagstoneref10_Same.f k a0 a1 a2 a3) (flagstoneref10_Same.f (k + 1) a0 a1 a2 a3) := by
 intro a0 a1 a2 a3 k
 obtain ⟨ih0, ih1, ih2, ih3⟩ := flagstoneref10_Same.mono_l k
 unfold flagstoneref10_Same.f
 repeat' first
   | (with_reducible exact ih0 _ _ _ _ _)
   | (with_reducible exact ih1 _ _ _ _ _)
   | (with_reducible exact ih2 _ _ _ _ _)
   | (with_reducible exact ih3 _ _ _ _ _ _)
   | (with_reducible exact LeO.refl _)
   | (with_reducible exact LeO.none _)
   | (with_reducible refine LeO.ite ?_ ?_)
   | (with_reducible refine LeO.bind ?_ (fun _ => ?_))
   | exact ih0 _ _ _ _ _
   | exact ih1 _ _ _ _ _
   | exact ih2 _ _ _ _ _
   | exact ih3 _ _ _ _ _ _
   | exact LeO.none _
   | refine LeO.ite ?_ ?_
   | refine LeO.bind ?_ (fun _ => ?_)
set_option maxHeartbeats 8000000 in
set_option maxRecDepth 100000 in
theorem flagstoneref10_Same.calls (k : Nat) (A0_0 : Option Addr) (c0_0 : Nat) (l0_0 : List (S52)) (A0_1 : Option Addr) (c0_1 : Nat) (l0_1 : List (List Int)) (A1_0 : Option Addr) (c1_0 : Nat) (l1_0 : List (S52)) (A1_1 : Option Addr) (c1_1 : Nat) (l1_1 : List (List Int)) (r : Bool) (w : World) (hr0_0 : Kd.C k52 w A0_0 l0_0.length l0_0) (hc0_0 : l0_0.length ≤ c0_0) (hr0_1 : Kd.C (Kd.slice 3 (Kd.int .i64)) w A0_1 l0_1.length l0_1) (hc0_1 : l0_1.length ≤ c0_1) (hr1_0 : Kd.C k52 w A1_0 l1_0.length l1_0) (hc1_0 : l1_0.length ≤ c1_0) (hr1_1 : Kd.C (Kd.slice 3 (Kd.int .i64)) w A1_1 l1_1.length l1_1) (hc1_1 : l1_1.length ≤ c1_1) (h : flagstoneref10_Same.f k l0_0 l0_1 l1_0 l1_1 = some r) :
  Calls Try.prog 16 #[.agg #[.slice A0_0 l0_0.length c0_0, .slice A0_1 l0_1.length c0_1], .agg #[.slice A1_0 l1_0.length c1_0, .slice A1_1 l1_1.length c1_1]] w fun e w' => e = .returned (.bool r) ∧ Below w.heap.size w w' := by
 have hu33 := Try.underlying33
 have hu52 := Try.underlying52
 have HR0_0 := Am_ hr0_0
 have HC0_0 := Am_ hc0_0
 clear hr0_0 hc0_0
 have HR0_1 := Am_ hr0_1
 have HC0_1 := Am_ hc0_1
 clear hr0_1 hc0_1
 have HR1_0 := Am_ hr1_0
 have HC1_0 := Am_ hc1_0
 clear hr1_0 hc1_0
 have HR1_1 := Am_ hr1_1
 have HC1_1 := Am_ hc1_1
 clear hr1_1 hc1_1
 have HB := Am_ (Below.refl w.heap.size w)
 have H : (if (l0_0.length : Int) = (l1_0.length : Int) then (flagstoneref10_Same.j0 k ((l0_1.length : Int) != (l1_1.length : Int)) l0_0 l0_1 l1_0 l1_1) else (flagstoneref10_Same.j0 k true l0_0 l0_1 l1_0 l1_1)) = some r := h
 clear h
 have HC3 := Am_ H
 clear H
 go_enter Try.func16, Try.ntmps16
 go_upto_region 1 with (first | ((with_reducible refine gate_dst (N := 2) rfl ?_); (try (refine gate_guard (by rfl) ?_; dsimp only)); refine box_event ?hg (N := 2) ?hd (cs := #[.slice A0_0 l0_0.length c0_0, .slice A0_1 l0_1.length c0_1]) (t := 33) ?hr ?_; (case hd => rfl); (case hg => rfl); (case hr => first | (go_simp; done) | (go_simp; rfl)); intro gb242 hg w4 hbox hb; have n0_ := Am_ (Be_ (by repeat (first | (with_reducible first | exact HB.out | apply Pa_ | apply Pn_ | apply Pd_) | exact HB.out)) hb); have n1_ := Am_ (hbox); have n2_ := Am_ ((by rw [hg]; exact (Bz_ (by repeat (first | (with_reducible first | exact HB.out | apply Pa_ | apply Pn_ | apply Pd_) | exact HB.out))) : w.heap.size ≤ gb242)); have n3_ := Am_ ((by rw [hg]; exact (Bz_ (by repeat (first | (with_reducible first | exact HB.out | apply Pa_ | apply Pn_ | apply Pd_) | exact HB.out))) : w.heap.size ≤ gb242)); clear HB; have HB := n0_; have BK242 := n1_; have GW242 := n2_; have GE242 := n3_; clear n0_ n1_ n2_ n3_; clear hb hbox hg) | ((with_reducible refine gate_dst (N := 3) rfl ?_); (try (refine gate_guard (by rfl) ?_; dsimp only)); refine box_event ?hg (N := 3) ?hd (cs := #[.slice A1_0 l1_0.length c1_0, .slice A1_1 l1_1.length c1_1]) (t := 33) ?hr ?_; (case hd => rfl); (case hg => rfl); (case hr => first | (go_simp; done) | (go_simp; rfl)); intro gb243 hg w5 hbox hb; have n0_ := Am_ (Bb_ (g := gb242) (o := .cells #[.slice A0_0 l0_0.length c0_0, .slice A0_1 l0_1.length c0_1] 33 (0, 0)) (by (with_reducible repeat (first | refine Bn_ ?_ _ | refine Bd_ ?_ | refine Ba_ ?_ _)); exact BK242.out) hb); have n1_ := Am_ (Be_ (by repeat (first | (with_reducible first | exact HB.out | apply Pa_ | apply Pn_ | apply Pd_ | refine Bs_ ?_ GE242.out) | exact HB.out)) hb); have n2_ := Am_ (hbox); have n3_ := Am_ ((by rw [hg]; exact (Bz_ (by repeat (first | (with_reducible first | exact HB.out | apply Pa_ | apply Pn_ | apply Pd_ | refine Bs_ ?_ GE242.out) | exact HB.out))) : w.heap.size ≤ gb243)); have n4_ := Am_ ((by rw [hg]; exact (Bz_ (by repeat (first | (with_reducible first | exact HB.out | apply Pa_ | apply Pn_ | apply Pd_ | refine Bs_ ?_ GE242.out) | exact HB.out))) : w.heap.size ≤ gb243)); have n5_ := Am_ ((by rw [hg]; exact Nat.ne_of_lt (blk_lt (g := gb242) (o := .cells #[.slice A0_0 l0_0.length c0_0, .slice A0_1 l0_1.length c0_1] 33 (0, 0)) (by (with_reducible repeat (first | refine Bn_ ?_ _ | refine Bd_ ?_ | refine Ba_ ?_ _)); exact BK242.out)) : gb242 ≠ gb243)); have n6_ := Am_ ((by rw [hg]; exact Nat.ne_of_gt (blk_lt (g := gb242) (o := .cells #[.slice A0_0 l0_0.length c0_0, .slice A0_1 l0_1.length c0_1] 33 (0, 0)) (by (with_reducible repeat (first | refine Bn_ ?_ _ | refine Bd_ ?_ | refine Ba_ ?_ _)); exact BK242.out)) : gb243 ≠ gb242)); clear BK242; clear HB; have BK242 := n0_; have HB := n1_; have BK243 := n2_; have GW243 := n3_; have GE243 := n4_; have NB242_243 := n5_; have NB243_242 := n6_; clear n0_ n1_ n2_ n3_ n4_ n5_ n6_; clear hb hbox hg))
 repeat (go_quiet (first | ((with_reducible refine gate_dst (N := 2) rfl ?_); (try (refine gate_guard (by rfl) ?_; dsimp only)); refine box_event ?hg (N := 2) ?hd (cs := #[.slice A0_0 l0_0.length c0_0, .slice A0_1 l0_1.length c0_1]) (t := 33) ?hr ?_; (case hd => rfl); (case hg => rfl); (case hr => first | (go_simp; done) | (go_simp; rfl)); intro gb242 hg w4 hbox hb; have n0_ := Am_ (Be_ (by repeat (first | (with_reducible first | exact HB.out | apply Pa_ | apply Pn_ | apply Pd_) | exact HB.out)) hb); have n1_ := Am_ (hbox); have n2_ := Am_ ((by rw [hg]; exact (Bz_ (by repeat (first | (with_reducible first | exact HB.out | apply Pa_ | apply Pn_ | apply Pd_) | exact HB.out))) : w.heap.size ≤ gb242)); have n3_ := Am_ ((by rw [hg]; exact (Bz_ (by repeat (first | (with_reducible first | exact HB.out | apply Pa_ | apply Pn_ | apply Pd_) | exact HB.out))) : w.heap.size ≤ gb242)); clear HB; have HB := n0_; have BK242 := n1_; have GW242 := n2_; have GE242 := n3_; clear n0_ n1_ n2_ n3_; clear hb hbox hg) | ((with_reducible refine gate_dst (N := 3) rfl ?_); (try (refine gate_guard (by rfl) ?_; dsimp only)); refine box_event ?hg (N := 3) ?hd (cs := #[.slice A1_0 l1_0.length c1_0, .slice A1_1 l1_1.length c1_1]) (t := 33) ?hr ?_; (case hd => rfl); (case hg => rfl); (case hr => first | (go_simp; done) | (go_simp; rfl)); intro gb243 hg w5 hbox hb; have n0_ := Am_ (Bb_ (g := gb242) (o := .cells #[.slice A0_0 l0_0.length c0_0, .slice A0_1 l0_1.length c0_1] 33 (0, 0)) (by (with_reducible repeat (first | refine Bn_ ?_ _ | refine Bd_ ?_ | refine Ba_ ?_ _)); exact BK242.out) hb); have n1_ := Am_ (Be_ (by repeat (first | (with_reducible first | exact HB.out | apply Pa_ | apply Pn_ | apply Pd_ | refine Bs_ ?_ GE242.out) | exact HB.out)) hb); have n2_ := Am_ (hbox); have n3_ := Am_ ((by rw [hg]; exact (Bz_ (by repeat (first | (with_reducible first | exact HB.out | apply Pa_ | apply Pn_ | apply Pd_ | refine Bs_ ?_ GE242.out) | exact HB.out))) : w.heap.size ≤ gb243)); have n4_ := Am_ ((by rw [hg]; exact (Bz_ (by repeat (first | (with_reducible first | exact HB.out | apply Pa_ | apply Pn_ | apply Pd_ | refine Bs_ ?_ GE242.out) | exact HB.out))) : w.heap.size ≤ gb243)); have n5_ := Am_ ((by rw [hg]; exact Nat.ne_of_lt (blk_lt (g := gb242) (o := .cells #[.slice A0_0 l0_0.length c0_0, .slice A0_1 l0_1.length c0_1] 33 (0, 0)) (by (with_reducible repeat (first | refine Bn_ ?_ _ | refine Bd_ ?_ | refine Ba_ ?_ _)); exact BK242.out)) : gb242 ≠ gb243)); have n6_ := Am_ ((by rw [hg]; exact Nat.ne_of_gt (blk_lt (g := gb242) (o := .cells #[.slice A0_0 l0_0.length c0_0, .slice A0_1 l0_1.length c0_1] 33 (0, 0)) (by (with_reducible repeat (first | refine Bn_ ?_ _ | refine Bd_ ?_ | refine Ba_ ?_ _)); exact BK242.out)) : gb243 ≠ gb242)); clear BK242; clear HB; have BK242 := n0_; have HB := n1_; have BK243 := n2_; have GW243 := n3_; have GE243 := n4_; have NB242_243 := n5_; have NB243_242 := n6_; clear n0_ n1_ n2_ n3_ n4_ n5_ n6_; clear hb hbox hg)); go_upto_region 1 with (first | ((with_reducible refine gate_dst (N := 2) rfl ?_); (try (refine gate_guard (by rfl) ?_; dsimp only)); refine box_event ?hg (N := 2) ?hd (cs := #[.slice A0_0 l0_0.length c0_0, .slice A0_1 l0_1.length c0_1]) (t := 33) ?hr ?_; (case hd => rfl); (case hg => rfl); (case hr => first | (go_simp; done) | (go_simp; rfl)); intro gb242 hg w4 hbox hb; have n0_ := Am_ (Be_ (by repeat (first | (with_reducible first | exact HB.out | apply Pa_ | apply Pn_ | apply Pd_) | exact HB.out)) hb); have n1_ := Am_ (hbox); have n2_ := Am_ ((by rw [hg]; exact (Bz_ (by repeat (first | (with_reducible first | exact HB.out | apply Pa_ | apply Pn_ | apply Pd_) | exact HB.out))) : w.heap.size ≤ gb242)); have n3_ := Am_ ((by rw [hg]; exact (Bz_ (by repeat (first | (with_reducible first | exact HB.out | apply Pa_ | apply Pn_ | apply Pd_) | exact HB.out))) : w.heap.size ≤ gb242)); clear HB; have HB := n0_; have BK242 := n1_; have GW242 := n2_; have GE242 := n3_; clear n0_ n1_ n2_ n3_; clear hb hbox hg) | ((with_reducible refine gate_dst (N := 3) rfl ?_); (try (refine gate_guard (by rfl) ?_; dsimp only)); refine box_event ?hg (N := 3) ?hd (cs := #[.slice A1_0 l1_0.length c1_0, .slice A1_1 l1_1.length c1_1]) (t := 33) ?hr ?_; (case hd => rfl); (case hg => rfl); (case hr => first | (go_simp; done) | (go_simp; rfl)); intro gb243 hg w5 hbox hb; have n0_ := Am_ (Bb_ (g := gb242) (o := .cells #[.slice A0_0 l0_0.length c0_0, .slice A0_1 l0_1.length c0_1] 33 (0, 0)) (by (with_reducible repeat (first | refine Bn_ ?_ _ | refine Bd_ ?_ | refine Ba_ ?_ _)); exact BK242.out) hb); have n1_ := Am_ (Be_ (by repeat (first | (with_reducible first | exact HB.out | apply Pa_ | apply Pn_ | apply Pd_ | refine Bs_ ?_ GE242.out) | exact HB.out)) hb); have n2_ := Am_ (hbox); have n3_ := Am_ ((by rw [hg]; exact (Bz_ (by repeat (first | (with_reducible first | exact HB.out | apply Pa_ | apply Pn_ | apply Pd_ | refine Bs_ ?_ GE242.out) | exact HB.out))) : w.heap.size ≤ gb243)); have n4_ := Am_ ((by rw [hg]; exact (Bz_ (by repeat (first | (with_reducible first | exact HB.out | apply Pa_ | apply Pn_ | apply Pd_ | refine Bs_ ?_ GE242.out) | exact HB.out))) : w.heap.size ≤ gb243)); have n5_ := Am_ ((by rw [hg]; exact Nat.ne_of_lt (blk_lt (g := gb242) (o := .cells #[.slice A0_0 l0_0.length c0_0, .slice A0_1 l0_1.length c0_1] 33 (0, 0)) (by (with_reducible repeat (first | refine Bn_ ?_ _ | refine Bd_ ?_ | refine Ba_ ?_ _)); exact BK242.out)) : gb242 ≠ gb243)); have n6_ := Am_ ((by rw [hg]; exact Nat.ne_of_gt (blk_lt (g := gb242) (o := .cells #[.slice A0_0 l0_0.length c0_0, .slice A0_1 l0_1.length c0_1] 33 (0, 0)) (by (with_reducible repeat (first | refine Bn_ ?_ _ | refine Bd_ ?_ | refine Ba_ ?_ _)); exact BK242.out)) : gb243 ≠ gb242)); clear BK242; clear HB; have BK242 := n0_; have HB := n1_; have BK243 := n2_; have GW243 := n3_; have GE243 := n4_; have NB242_243 := n5_; have NB243_242 := n6_; clear n0_ n1_ n2_ n3_ n4_ n5_ n6_; clear hb hbox hg)))
 (try simp only [Act.put, La_, Lb_, Lc_])
 go_cut [23] (fun v23 wc => ∃ (kq : Nat) (x23_2 : Bool), v23 = .bool x23_2 ∧ Aside0 (flagstoneref10_Same.j0 kq x23_2 l0_0 l0_1 l1_0 l1_1 = some r) ∧ Aside0 (kq ≤ k) ∧ Aside0 (wc.heap[gb242]? = some (.cells #[(.slice A0_0 l0_0.length c0_0), (.slice A0_1 l0_1.length c0_1)] 33 (0, 0))) ∧ Aside0 (wc.heap[gb243]? = some (.cells #[(.slice A1_0 l1_0.length c1_0), (.slice A1_1 l1_1.length c1_1)] 33 (0, 0))) ∧ Aside0 (Below w.heap.size w wc))
 case first =>
  have H := HC3.out
  clear HC3
  by_cases c6 : (l0_0.length : Int) = (l1_0.length : Int)
  ·rw [if_pos c6] at H
   have c6b0 : ((l0_0.length : Int) == (l1_0.length : Int)) = true := beq_iff_eq.mpr c6
   have c6b1 : ((l0_0.length : Int) != (l1_0.length : Int)) = false := bne_eq_false_iff_eq.mpr c6
   have c6b2 : (l0_0.length == l1_0.length) = true := by first | simpa using c6 | (simp at c6 ⊢; omega)
   clear c6
   (first | rw [c6b0] | (simp only [i64_w, i32_w]; rw [c6b0]) | skip)
   have H' := Am_ H
   clear H
   have hnb7 := NB242_243.out
   have hnc7 := NB243_242.out
   have hcz8_0 : w5.cell? ⟨gb242, 0, none⟩ = some (.slice A0_0 l0_0.length c0_0) := (Bc_ BK242.out 0).trans rfl
   have hcz8_1 : w5.cell? ⟨gb242, 1, none⟩ = some (.slice A0_1 l0_1.length c0_1) := (Bc_ BK242.out 1).trans rfl
   have hfz8_0 := Bf_ BK242.out 0
   have hfz8_1 := Bf_ BK242.out 1
   have hcz9_0 : w5.cell? ⟨gb243, 0, none⟩ = some (.slice A1_0 l1_0.length c1_0) := (Bc_ BK243.out 0).trans rfl
   have hcz9_1 : w5.cell? ⟨gb243, 1, none⟩ = some (.slice A1_1 l1_1.length c1_1) := (Bc_ BK243.out 1).trans rfl
   have hfz9_0 := Bf_ BK243.out 0
   have hfz9_1 := Bf_ BK243.out 1
   go_wp2
   repeat (go_quiet (fail); try go_wp2)
   go_meet
   case rel => exact ⟨_, (((l0_1.length : Int) != (l1_1.length : Int))), (by first | rfl | (simp; done) | (simp [*]; done)), H', ⟨by first | omega | exact Nat.le_refl _⟩, ⟨by (with_reducible repeat (first | refine Bn_ ?_ _ | refine Bd_ ?_ | refine Ba_ ?_ _)); exact BK242.out⟩, ⟨by (with_reducible repeat (first | refine Bn_ ?_ _ | refine Bd_ ?_ | refine Ba_ ?_ _)); exact BK243.out⟩, ⟨by repeat (first | (with_reducible first | exact HB.out | apply Pa_ | apply Pn_ | apply Pd_ | refine Bs_ ?_ GE242.out | refine Bs_ ?_ GE243.out) | exact HB.out)⟩⟩
  ·rw [if_neg c6] at H
   have c6b0 : ((l0_0.length : Int) == (l1_0.length : Int)) = false := beq_eq_false_iff_ne.mpr c6
   have c6b1 : ((l0_0.length : Int) != (l1_0.length : Int)) = true := bne_iff_ne.mpr c6
   have c6b2 : (l0_0.length == l1_0.length) = false := by first | simpa using c6 | (simp at c6 ⊢; omega)
   (first | rw [c6b0] | (simp only [i64_w, i32_w]; rw [c6b0]) | skip)
   have H' := Am_ H
   clear H
   have hnb10 := NB242_243.out
   have hnc10 := NB243_242.out
   have hcz11_0 : w5.cell? ⟨gb242, 0, none⟩ = some (.slice A0_0 l0_0.length c0_0) := (Bc_ BK242.out 0).trans rfl
   have hcz11_1 : w5.cell? ⟨gb242, 1, none⟩ = some (.slice A0_1 l0_1.length c0_1) := (Bc_ BK242.out 1).trans rfl
   have hfz11_0 := Bf_ BK242.out 0
   have hfz11_1 := Bf_ BK242.out 1
   have hcz12_0 : w5.cell? ⟨gb243, 0, none⟩ = some (.slice A1_0 l1_0.length c1_0) := (Bc_ BK243.out 0).trans rfl
   have hcz12_1 : w5.cell? ⟨gb243, 1, none⟩ = some (.slice A1_1 l1_1.length c1_1) := (Bc_ BK243.out 1).trans rfl
   have hfz12_0 := Bf_ BK243.out 0
   have hfz12_1 := Bf_ BK243.out 1
   go_wp2
   repeat (go_quiet (fail); try go_wp2)
   go_meet
   case rel => exact ⟨_, (true), (by first | rfl | (simp; done) | (simp [*]; done)), H', ⟨by first | omega | exact Nat.le_refl _⟩, ⟨by (with_reducible repeat (first | refine Bn_ ?_ _ | refine Bd_ ?_ | refine Ba_ ?_ _)); exact BK242.out⟩, ⟨by (with_reducible repeat (first | refine Bn_ ?_ _ | refine Bd_ ?_ | refine Ba_ ?_ _)); exact BK243.out⟩, ⟨by repeat (first | (with_reducible first | exact HB.out | apply Pa_ | apply Pn_ | apply Pd_ | refine Bs_ ?_ GE242.out | refine Bs_ ?_ GE243.out) | exact HB.out)⟩⟩
 case rest =>
  clear HC3
  try clear c1
  try clear p2
  try clear c6
  try clear c6b0
  try clear c6b1
  try clear c6b2
  try clear c7
  try clear c10
  try clear hcz11_0
  try clear hcz11_1
  try clear hcz12_0
  try clear hcz12_1
  try clear hcz8_0
  try clear hcz8_1
  try clear hcz9_0
  try clear hcz9_1
  try clear hfz11_0
  try clear hfz11_1
  try clear hfz12_0
  try clear hfz12_1
  try clear hfz8_0
  try clear hfz8_1
  try clear hfz9_0
  try clear hfz9_1
  obtain ⟨kq, x23_2, rfl, HA, HJ2, BK242, BK243, HB⟩ := hcut
  cases kq with
  | zero => exact absurd HA.out (by simp [flagstoneref10_Same.j0])
  | succ kj2 =>
   have H := HA.out
   clear HA
   simp only [flagstoneref10_Same.j0] at H
   by_cases c13 : x23_2 = true
   ·subst c13
    have H1 : (some false) = some r := by rw [if_pos rfl] at H; exact H
    clear H
    have H := H1
    clear H1
    obtain rfl := Option.some.inj H
    go_wp2
    repeat (go_quiet (fail); try go_wp2)
    go_ret
    exact ⟨by first | rfl | (simp [errW_none, errW_some] <;> rfl) | (simp [*, errW_none, errW_some] <;> rfl), by repeat (first | (with_reducible first | exact HB.out | apply Pa_ | apply Pn_ | apply Pd_ | refine Bs_ ?_ GE242.out | refine Bs_ ?_ GE243.out) | exact HB.out)⟩
   ·replace c13 := Bool.eq_false_iff.mpr c13
    subst c13
    have H1 : (flagstoneref10_Same.l0 kj2 0 l0_0 l0_1 l1_0 l1_1) = some r := by rw [if_neg (show ¬ (false = true) by decide)] at H; exact H
    clear H
    have H := H1
    clear H1
    have H' := Am_ H
    clear H
    go_wp2
    repeat (go_quiet (fail); try go_wp2)
    go_loopg [5] kj2 (fun kq v5 w' => ∃ (x5_2 : Int), v5 = .int .i64 x5_2 ∧ Aside0 (flagstoneref10_Same.l0 kq x5_2 l0_0 l0_1 l1_0 l1_1 = some r) ∧ Aside0 (kq ≤ kj2) ∧ Aside0 (w'.heap[gb242]? = some (.cells #[(.slice A0_0 l0_0.length c0_0), (.slice A0_1 l0_1.length c0_1)] 33 (0, 0))) ∧ Aside0 (w'.heap[gb243]? = some (.cells #[(.slice A1_0 l1_0.length c1_0), (.slice A1_1 l1_1.length c1_1)] 33 (0, 0))) ∧ Aside0 (Below w.heap.size w w'))
    case atStart => exact ⟨(0), (by first | rfl | (simp; done) | (simp [*]; done)), H', ⟨Nat.le_refl _⟩, ⟨by (with_reducible repeat (first | refine Bn_ ?_ _ | refine Bd_ ?_ | refine Ba_ ?_ _)); exact BK242.out⟩, ⟨by (with_reducible repeat (first | refine Bn_ ?_ _ | refine Bd_ ?_ | refine Ba_ ?_ _)); exact BK243.out⟩, ⟨by repeat (first | (with_reducible first | exact HB.out | apply Pa_ | apply Pn_ | apply Pd_ | refine Bs_ ?_ GE242.out | refine Bs_ ?_ GE243.out) | exact HB.out)⟩⟩
    case round =>
     clear H'
     try clear c1
     try clear p2
     try clear c6
     try clear c6b0
     try clear c6b1
     try clear c6b2
     try clear c7
     try clear c10
     try clear c13
     try clear hcz11_0
     try clear hcz11_1
     try clear hcz12_0
     try clear hcz12_1
     try clear hcz8_0
     try clear hcz8_1
     try clear hcz9_0
     try clear hcz9_1
     try clear hfz11_0
     try clear hfz11_1
     try clear hfz12_0
     try clear hfz12_1
     try clear hfz8_0
     try clear hfz8_1
     try clear hfz9_0
     try clear hfz9_1
     try clear p2
     obtain ⟨x5_2, rfl, HA, HK2, BK242, BK243, HB⟩ := hrel
     cases gk with
     | zero => exact absurd HA.out (by simp [flagstoneref10_Same.l0])
     | succ k2 =>
      have H := HA.out
      clear HA
      simp only [flagstoneref10_Same.l0] at H
      by_cases c14 : x5_2 < (l0_0.length : Int)
      ·rw [if_pos c14] at H
       have c14b0 : decide (x5_2 < (l0_0.length : Int)) = true := Dt_ c14
       clear c14
       by_cases c15 : 0 ≤ x5_2
       ·rw [if_pos c15] at H
        have c15b0 : decide (0 ≤ x5_2) = true := Dt_ c15
        clear c15
        by_cases c16 : x5_2 < (l1_0.length : Int)
        ·rw [if_pos c16] at H
         have c16b0 : decide (x5_2 < (l1_0.length : Int)) = true := Dt_ c16
         clear c16
         by_cases c17 : (!(((rd_T52 l0_0 x5_2).f0) == ((rd_T52 l1_0 x5_2).f0)) || (!(((rd_T52 l0_0 x5_2).f1) == ((rd_T52 l1_0 x5_2).f1)) || (!(((rd_T52 l0_0 x5_2).f2) == ((rd_T52 l1_0 x5_2).f2)) || (!(((rd_T52 l0_0 x5_2).f3) == ((rd_T52 l1_0 x5_2).f3)) || (!(((rd_T52 l0_0 x5_2).f4) == ((rd_T52 l1_0 x5_2).f4)) || (!(((rd_T52 l0_0 x5_2).f5) == ((rd_T52 l1_0 x5_2).f5)))))))) = true
         ·rw [if_pos c17] at H
          have c17b0 : (!(((rd_T52 l0_0 x5_2).f0) == ((rd_T52 l1_0 x5_2).f0)) || (!(((rd_T52 l0_0 x5_2).f1) == ((rd_T52 l1_0 x5_2).f1)) || (!(((rd_T52 l0_0 x5_2).f2) == ((rd_T52 l1_0 x5_2).f2)) || (!(((rd_T52 l0_0 x5_2).f3) == ((rd_T52 l1_0 x5_2).f3)) || (!(((rd_T52 l0_0 x5_2).f4) == ((rd_T52 l1_0 x5_2).f4)) || (!(((rd_T52 l0_0 x5_2).f5) == ((rd_T52 l1_0 x5_2).f5)))))))) = true := c17
          clear c17
          obtain rfl := Option.some.inj H
          have hnb18 := NB242_243.out
          have hnc18 := NB243_242.out
          have hcz19_0 : wr.cell? ⟨gb242, 0, none⟩ = some (.slice A0_0 l0_0.length c0_0) := (Bc_ BK242.out 0).trans rfl
          have hcz19_1 : wr.cell? ⟨gb242, 1, none⟩ = some (.slice A0_1 l0_1.length c0_1) := (Bc_ BK242.out 1).trans rfl
          have hfz19_0 := Bf_ BK242.out 0
          have hfz19_1 := Bf_ BK242.out 1
          have p244 : 0 ≤ (x5_2 : Int) := Ot_ (by first | (with_reducible assumption) | assumption)
          have q244 : x5_2 < (l0_0.length : Int) := Ot_ (by first | (with_reducible assumption) | assumption)
          obtain ⟨ad244, e244, hx244_0, hx244_1, hx244_2, hx244_3, hx244_4, hx244_5⟩ := at_T52 HR0_0.out x5_2 p244 q244
          cases e244
          replace hx244_0 := (HB.out.cell (Bl_ w _ hx244_0)).trans hx244_0
          replace hx244_1 := (HB.out.cell (Bl_ w _ hx244_1)).trans hx244_1
          replace hx244_2 := (HB.out.cell (Bl_ w _ hx244_2)).trans hx244_2
          replace hx244_3 := (HB.out.cell (Bl_ w _ hx244_3)).trans hx244_3
          replace hx244_4 := (HB.out.cell (Bl_ w _ hx244_4)).trans hx244_4
          replace hx244_5 := (HB.out.cell (Bl_ w _ hx244_5)).trans hx244_5
          replace p244 := eq_true p244
          replace q244 := eq_true q244
          have hcz20_0 : wr.cell? ⟨gb243, 0, none⟩ = some (.slice A1_0 l1_0.length c1_0) := (Bc_ BK243.out 0).trans rfl
          have hcz20_1 : wr.cell? ⟨gb243, 1, none⟩ = some (.slice A1_1 l1_1.length c1_1) := (Bc_ BK243.out 1).trans rfl
          have hfz20_0 := Bf_ BK243.out 0
          have hfz20_1 := Bf_ BK243.out 1
          have p245 : 0 ≤ (x5_2 : Int) := Ot_ (by first | (with_reducible assumption) | assumption)
          have q245 : x5_2 < (l1_0.length : Int) := Ot_ (by first | (with_reducible assumption) | assumption)
          obtain ⟨ad245, e245, hx245_0, hx245_1, hx245_2, hx245_3, hx245_4, hx245_5⟩ := at_T52 HR1_0.out x5_2 p245 q245
          cases e245
          replace hx245_0 := (HB.out.cell (Bl_ w _ hx245_0)).trans hx245_0
          replace hx245_1 := (HB.out.cell (Bl_ w _ hx245_1)).trans hx245_1
          replace hx245_2 := (HB.out.cell (Bl_ w _ hx245_2)).trans hx245_2
          replace hx245_3 := (HB.out.cell (Bl_ w _ hx245_3)).trans hx245_3
          replace hx245_4 := (HB.out.cell (Bl_ w _ hx245_4)).trans hx245_4
          replace hx245_5 := (HB.out.cell (Bl_ w _ hx245_5)).trans hx245_5
          replace p245 := eq_true p245
          replace q245 := eq_true q245
          go_wp2
          repeat (go_quiet (fail); try go_wp2)
          go_ret
          exact ⟨by first | rfl | (simp [errW_none, errW_some] <;> rfl) | (simp [*, errW_none, errW_some] <;> rfl), by repeat (first | (with_reducible first | exact HB.out | apply Pa_ | apply Pn_ | apply Pd_ | refine Bs_ ?_ GE242.out | refine Bs_ ?_ GE243.out) | exact HB.out)⟩
         ·rw [if_neg c17] at H
          have c17b0 : (!(((rd_T52 l0_0 x5_2).f0) == ((rd_T52 l1_0 x5_2).f0)) || (!(((rd_T52 l0_0 x5_2).f1) == ((rd_T52 l1_0 x5_2).f1)) || (!(((rd_T52 l0_0 x5_2).f2) == ((rd_T52 l1_0 x5_2).f2)) || (!(((rd_T52 l0_0 x5_2).f3) == ((rd_T52 l1_0 x5_2).f3)) || (!(((rd_T52 l0_0 x5_2).f4) == ((rd_T52 l1_0 x5_2).f4)) || (!(((rd_T52 l0_0 x5_2).f5) == ((rd_T52 l1_0 x5_2).f5)))))))) = false := by simpa using c17
          clear c17
          have H' := Am_ H
          clear H
          have hnb21 := NB242_243.out
          have hnc21 := NB243_242.out
          have hcz22_0 : wr.cell? ⟨gb242, 0, none⟩ = some (.slice A0_0 l0_0.length c0_0) := (Bc_ BK242.out 0).trans rfl
          have hcz22_1 : wr.cell? ⟨gb242, 1, none⟩ = some (.slice A0_1 l0_1.length c0_1) := (Bc_ BK242.out 1).trans rfl
          have hfz22_0 := Bf_ BK242.out 0
          have hfz22_1 := Bf_ BK242.out 1
          have p244 : 0 ≤ (x5_2 : Int) := Ot_ (by first | (with_reducible assumption) | assumption)
          have q244 : x5_2 < (l0_0.length : Int) := Ot_ (by first | (with_reducible assumption) | assumption)
          obtain ⟨ad244, e244, hx244_0, hx244_1, hx244_2, hx244_3, hx244_4, hx244_5⟩ := at_T52 HR0_0.out x5_2 p244 q244
          cases e244
          replace hx244_0 := (HB.out.cell (Bl_ w _ hx244_0)).trans hx244_0
          replace hx244_1 := (HB.out.cell (Bl_ w _ hx244_1)).trans hx244_1
          replace hx244_2 := (HB.out.cell (Bl_ w _ hx244_2)).trans hx244_2
          replace hx244_3 := (HB.out.cell (Bl_ w _ hx244_3)).trans hx244_3
          replace hx244_4 := (HB.out.cell (Bl_ w _ hx244_4)).trans hx244_4
          replace hx244_5 := (HB.out.cell (Bl_ w _ hx244_5)).trans hx244_5
          replace p244 := eq_true p244
          replace q244 := eq_true q244
          have hcz23_0 : wr.cell? ⟨gb243, 0, none⟩ = some (.slice A1_0 l1_0.length c1_0) := (Bc_ BK243.out 0).trans rfl
          have hcz23_1 : wr.cell? ⟨gb243, 1, none⟩ = some (.slice A1_1 l1_1.length c1_1) := (Bc_ BK243.out 1).trans rfl
          have hfz23_0 := Bf_ BK243.out 0
          have hfz23_1 := Bf_ BK243.out 1
          have p245 : 0 ≤ (x5_2 : Int) := Ot_ (by first | (with_reducible assumption) | assumption)
          have q245 : x5_2 < (l1_0.length : Int) := Ot_ (by first | (with_reducible assumption) | assumption)
          obtain ⟨ad245, e245, hx245_0, hx245_1, hx245_2, hx245_3, hx245_4, hx245_5⟩ := at_T52 HR1_0.out x5_2 p245 q245
          cases e245
          replace hx245_0 := (HB.out.cell (Bl_ w _ hx245_0)).trans hx245_0
          replace hx245_1 := (HB.out.cell (Bl_ w _ hx245_1)).trans hx245_1
          replace hx245_2 := (HB.out.cell (Bl_ w _ hx245_2)).trans hx245_2
          replace hx245_3 := (HB.out.cell (Bl_ w _ hx245_3)).trans hx245_3
          replace hx245_4 := (HB.out.cell (Bl_ w _ hx245_4)).trans hx245_4
          replace hx245_5 := (HB.out.cell (Bl_ w _ hx245_5)).trans hx245_5
          replace p245 := eq_true p245
          replace q245 := eq_true q245
          go_wp2
          repeat (go_quiet (fail); try go_wp2)
          go_roundg k2
          case measure => have := HJ2.out; have := HK2.out; omega
          case rel => exact ⟨(wrap64 (x5_2 + 1)), (by first | rfl | (simp; done) | (simp [*]; done)), H', ⟨by have := HJ2.out; have := HK2.out; omega⟩, ⟨by (with_reducible repeat (first | refine Bn_ ?_ _ | refine Bd_ ?_ | refine Ba_ ?_ _)); exact BK242.out⟩, ⟨by (with_reducible repeat (first | refine Bn_ ?_ _ | refine Bd_ ?_ | refine Ba_ ?_ _)); exact BK243.out⟩, ⟨by repeat (first | (with_reducible first | exact HB.out | apply Pa_ | apply Pn_ | apply Pd_ | refine Bs_ ?_ GE242.out | refine Bs_ ?_ GE243.out) | exact HB.out)⟩⟩
        ·rw [if_neg c16] at H
         exact absurd H (by simp)
       ·rw [if_neg c15] at H
        exact absurd H (by simp)
      ·rw [if_neg c14] at H
       have c14b0 : decide (x5_2 < (l0_0.length : Int)) = false := Df_ c14
       clear c14
       have H' := Am_ H
       clear H
       have hnb24 := NB242_243.out
       have hnc24 := NB243_242.out
       have hcz25_0 : wr.cell? ⟨gb242, 0, none⟩ = some (.slice A0_0 l0_0.length c0_0) := (Bc_ BK242.out 0).trans rfl
       have hcz25_1 : wr.cell? ⟨gb242, 1, none⟩ = some (.slice A0_1 l0_1.length c0_1) := (Bc_ BK242.out 1).trans rfl
       have hfz25_0 := Bf_ BK242.out 0
       have hfz25_1 := Bf_ BK242.out 1
       go_wp2
       repeat (go_quiet (fail); try go_wp2)
       go_loopg [6] k2 (fun kq v6 w' => ∃ (x6_3 : Int), v6 = .int .i64 x6_3 ∧ Aside0 (flagstoneref10_Same.l1 kq x6_3 l0_0 l0_1 l1_0 l1_1 = some r) ∧ Aside0 (kq ≤ k2) ∧ Aside0 (w'.heap[gb242]? = some (.cells #[(.slice A0_0 l0_0.length c0_0), (.slice A0_1 l0_1.length c0_1)] 33 (0, 0))) ∧ Aside0 (w'.heap[gb243]? = some (.cells #[(.slice A1_0 l1_0.length c1_0), (.slice A1_1 l1_1.length c1_1)] 33 (0, 0))) ∧ Aside0 (Below w.heap.size w w'))
       case atStart => exact ⟨(0), (by first | rfl | (simp; done) | (simp [*]; done)), H', ⟨Nat.le_refl _⟩, ⟨by (with_reducible repeat (first | refine Bn_ ?_ _ | refine Bd_ ?_ | refine Ba_ ?_ _)); exact BK242.out⟩, ⟨by (with_reducible repeat (first | refine Bn_ ?_ _ | refine Bd_ ?_ | refine Ba_ ?_ _)); exact BK243.out⟩, ⟨by repeat (first | (with_reducible first | exact HB.out | apply Pa_ | apply Pn_ | apply Pd_ | refine Bs_ ?_ GE242.out | refine Bs_ ?_ GE243.out) | exact HB.out)⟩⟩
       case round =>
        clear H'
        try clear c1
        try clear c2
        try clear p2
        try clear q2
        try clear hx2
        try clear c6
        try clear c6b0
        try clear c6b1
        try clear c6b2
        try clear p6
        try clear c7
        try clear c10
        try clear c13
        try clear c14
        try clear c14b0
        try clear c15
        try clear c15b0
        try clear c16
        try clear c16b0
        try clear c17
        try clear c17b0
        try clear c18
        try clear c21
        try clear c24
        try clear p24
        try clear q24
        try clear hx24
        try clear hcz11_0
        try clear hcz11_1
        try clear hcz12_0
        try clear hcz12_1
        try clear hcz19_0
        try clear hcz19_1
        try clear hcz20_0
        try clear hcz20_1
        try clear hcz22_0
        try clear hcz22_1
        try clear hcz23_0
        try clear hcz23_1
        try clear hcz25_0
        try clear hcz25_1
        try clear hcz8_0
        try clear hcz8_1
        try clear hcz9_0
        try clear hcz9_1
        try clear hfz11_0
        try clear hfz11_1
        try clear hfz12_0
        try clear hfz12_1
        try clear hfz19_0
        try clear hfz19_1
        try clear hfz20_0
        try clear hfz20_1
        try clear hfz22_0
        try clear hfz22_1
        try clear hfz23_0
        try clear hfz23_1
        try clear hfz25_0
        try clear hfz25_1
        try clear hfz8_0
        try clear hfz8_1
        try clear hfz9_0
        try clear hfz9_1
        try clear hx244_0
        try clear hx244_1
        try clear hx244_2
        try clear hx244_3
        try clear hx244_4
        try clear hx244_5
        try clear hx245_0
        try clear hx245_1
        try clear hx245_2
        try clear hx245_3
        try clear hx245_4
        try clear hx245_5
        try clear p2
        try clear p244
        try clear p245
        try clear q244
        try clear q245
        obtain ⟨x6_3, rfl, HA, HK3, BK242, BK243, HB⟩ := hrel
        cases gk with
        | zero => exact absurd HA.out (by simp [flagstoneref10_Same.l1])
        | succ k3 =>
         have H := HA.out
         clear HA
         simp only [flagstoneref10_Same.l1] at H
         by_cases c26 : x6_3 < (l0_1.length : Int)
         ·rw [if_pos c26] at H
          have c26b0 : decide (x6_3 < (l0_1.length : Int)) = true := Dt_ c26
          clear c26
          by_cases c27 : 0 ≤ x6_3
          ·rw [if_pos c27] at H
           have c27b0 : decide (0 ≤ x6_3) = true := Dt_ c27
           clear c27
           by_cases c28 : x6_3 < (l1_1.length : Int)
           ·rw [if_pos c28] at H
            have c28b0 : decide (x6_3 < (l1_1.length : Int)) = true := Dt_ c28
            clear c28
            by_cases c29 : ((rd_L4 l0_1 x6_3).length : Int) = ((rd_L4 l1_1 x6_3).length : Int)
            ·rw [if_pos c29] at H
             have c29b0 : (((rd_L4 l0_1 x6_3).length : Int) == ((rd_L4 l1_1 x6_3).length : Int)) = true := beq_iff_eq.mpr c29
             have c29b1 : (((rd_L4 l0_1 x6_3).length : Int) != ((rd_L4 l1_1 x6_3).length : Int)) = false := bne_eq_false_iff_eq.mpr c29
             have c29b2 : ((rd_L4 l0_1 x6_3).length == (rd_L4 l1_1 x6_3).length) = true := by first | simpa using c29 | (simp at c29 ⊢; omega)
             clear c29
             have H' := Am_ H
             clear H
             have hnb30 := NB242_243.out
             have hnc30 := NB243_242.out
             have hcz31_0 : wr.cell? ⟨gb242, 0, none⟩ = some (.slice A0_0 l0_0.length c0_0) := (Bc_ BK242.out 0).trans rfl
             have hcz31_1 : wr.cell? ⟨gb242, 1, none⟩ = some (.slice A0_1 l0_1.length c0_1) := (Bc_ BK242.out 1).trans rfl
             have hfz31_0 := Bf_ BK242.out 0
             have hfz31_1 := Bf_ BK242.out 1
             have p246 : 0 ≤ (x6_3 : Int) := Ot_ (by first | (with_reducible assumption) | assumption)
             have q246 : x6_3 < (l0_1.length : Int) := Ot_ (by first | (with_reducible assumption) | assumption)
             obtain ⟨ad246, A246_0, c246_0, e246, hx246_0, hl246_0, hi246_0⟩ := at_L4 HR0_1.out x6_3 p246 q246
             cases e246
             replace hx246_0 := (HB.out.cell (Bl_ w _ hx246_0)).trans hx246_0
             have HR246_0 := Am_ hi246_0
             have HC246_0 := Am_ hl246_0
             clear hi246_0 hl246_0
             replace p246 := eq_true p246
             replace q246 := eq_true q246
             have hcz32_0 : wr.cell? ⟨gb243, 0, none⟩ = some (.slice A1_0 l1_0.length c1_0) := (Bc_ BK243.out 0).trans rfl
             have hcz32_1 : wr.cell? ⟨gb243, 1, none⟩ = some (.slice A1_1 l1_1.length c1_1) := (Bc_ BK243.out 1).trans rfl
             have hfz32_0 := Bf_ BK243.out 0
             have hfz32_1 := Bf_ BK243.out 1
             have p247 : 0 ≤ (x6_3 : Int) := Ot_ (by first | (with_reducible assumption) | assumption)
             have q247 : x6_3 < (l1_1.length : Int) := Ot_ (by first | (with_reducible assumption) | assumption)
             obtain ⟨ad247, A247_0, c247_0, e247, hx247_0, hl247_0, hi247_0⟩ := at_L4 HR1_1.out x6_3 p247 q247
             cases e247
             replace hx247_0 := (HB.out.cell (Bl_ w _ hx247_0)).trans hx247_0
             have HR247_0 := Am_ hi247_0
             have HC247_0 := Am_ hl247_0
             clear hi247_0 hl247_0
             replace p247 := eq_true p247
             replace q247 := eq_true q247
             go_wp2
             repeat (go_quiet (fail); try go_wp2)
             go_loopg [7] k3 (fun kq v7 w' => ∃ (x7_4 : Int), v7 = .int .i64 x7_4 ∧ Aside0 (flagstoneref10_Same.l2 kq x6_3 x7_4 l0_0 l0_1 l1_0 l1_1 = some r) ∧ Aside0 (kq ≤ k3) ∧ Aside0 (w'.heap[gb242]? = some (.cells #[(.slice A0_0 l0_0.length c0_0), (.slice (some ad246) l0_1.length c0_1)] 33 (0, 0))) ∧ Aside0 (w'.heap[gb243]? = some (.cells #[(.slice A1_0 l1_0.length c1_0), (.slice (some ad247) l1_1.length c1_1)] 33 (0, 0))) ∧ Aside0 (Below w.heap.size w w'))
             case atStart => exact ⟨(0), (by first | rfl | (simp; done) | (simp [*]; done)), H', ⟨Nat.le_refl _⟩, ⟨by (with_reducible repeat (first | refine Bn_ ?_ _ | refine Bd_ ?_ | refine Ba_ ?_ _)); exact BK242.out⟩, ⟨by (with_reducible repeat (first | refine Bn_ ?_ _ | refine Bd_ ?_ | refine Ba_ ?_ _)); exact BK243.out⟩, ⟨by repeat (first | (with_reducible first | exact HB.out | apply Pa_ | apply Pn_ | apply Pd_ | refine Bs_ ?_ GE242.out | refine Bs_ ?_ GE243.out) | exact HB.out)⟩⟩
             case round =>
              clear H'
              try clear c1
              try clear c2
              try clear p2
              try clear q2
              try clear hx2
              try clear c3
              try clear c6
              try clear c6b0
              try clear c6b1
              try clear c6b2
              try clear p6
              try clear c7
              try clear c10
              try clear c13
              try clear c14
              try clear c14b0
              try clear c15
              try clear c15b0
              try clear c16
              try clear c16b0
              try clear c17
              try clear c17b0
              try clear c18
              try clear c21
              try clear c24
              try clear p24
              try clear q24
              try clear hx24
              try clear c26
              try clear c26b0
              try clear c27
              try clear c27b0
              try clear c28
              try clear c28b0
              try clear c29
              try clear c29b0
              try clear c29b1
              try clear c29b2
              try clear c30
              try clear hcz11_0
              try clear hcz11_1
              try clear hcz12_0
              try clear hcz12_1
              try clear hcz19_0
              try clear hcz19_1
              try clear hcz20_0
              try clear hcz20_1
              try clear hcz22_0
              try clear hcz22_1
              try clear hcz23_0
              try clear hcz23_1
              try clear hcz25_0
              try clear hcz25_1
              try clear hcz31_0
              try clear hcz31_1
              try clear hcz32_0
              try clear hcz32_1
              try clear hcz8_0
              try clear hcz8_1
              try clear hcz9_0
              try clear hcz9_1
              try clear hfz11_0
              try clear hfz11_1
              try clear hfz12_0
              try clear hfz12_1
              try clear hfz19_0
              try clear hfz19_1
              try clear hfz20_0
              try clear hfz20_1
              try clear hfz22_0
              try clear hfz22_1
              try clear hfz23_0
              try clear hfz23_1
              try clear hfz25_0
              try clear hfz25_1
              try clear hfz31_0
              try clear hfz31_1
              try clear hfz32_0
              try clear hfz32_1
              try clear hfz8_0
              try clear hfz8_1
              try clear hfz9_0
              try clear hfz9_1
              try clear hx244_0
              try clear hx244_1
              try clear hx244_2
              try clear hx244_3
              try clear hx244_4
              try clear hx244_5
              try clear hx245_0
              try clear hx245_1
              try clear hx245_2
              try clear hx245_3
              try clear hx245_4
              try clear hx245_5
              try clear hx246_0
              try clear hx247_0
              try clear p2
              try clear p24
              try clear p244
              try clear p245
              try clear p246
              try clear p247
              try clear p6
              try clear q2
              try clear q24
              try clear q244
              try clear q245
              try clear q246
              try clear q247
              obtain ⟨x7_4, rfl, HA, HK4, BK242, BK243, HB⟩ := hrel
              cases gk with
              | zero => exact absurd HA.out (by simp [flagstoneref10_Same.l2])
              | succ k4 =>
               have H := HA.out
               clear HA
               simp only [flagstoneref10_Same.l2] at H
               by_cases c33 : 0 ≤ x6_3
               ·rw [if_pos c33] at H
                have c33b0 : decide (0 ≤ x6_3) = true := Dt_ c33
                clear c33
                by_cases c34 : x6_3 < (l0_1.length : Int)
                ·rw [if_pos c34] at H
                 have c34b0 : decide (x6_3 < (l0_1.length : Int)) = true := Dt_ c34
                 clear c34
                 by_cases c35 : x7_4 < ((rd_L4 l0_1 x6_3).length : Int)
                 ·rw [if_pos c35] at H
                  have c35b0 : decide (x7_4 < ((rd_L4 l0_1 x6_3).length : Int)) = true := Dt_ c35
                  clear c35
                  by_cases c36 : 0 ≤ x7_4
                  ·rw [if_pos c36] at H
                   have c36b0 : decide (0 ≤ x7_4) = true := Dt_ c36
                   clear c36
                   by_cases c37 : x6_3 < (l1_1.length : Int)
                   ·rw [if_pos c37] at H
                    have c37b0 : decide (x6_3 < (l1_1.length : Int)) = true := Dt_ c37
                    clear c37
                    by_cases c38 : x7_4 < ((rd_L4 l1_1 x6_3).length : Int)
                    ·rw [if_pos c38] at H
                     have c38b0 : decide (x7_4 < ((rd_L4 l1_1 x6_3).length : Int)) = true := Dt_ c38
                     clear c38
                     by_cases c39 : (rd (rd_L4 l0_1 x6_3) x7_4) = (rd (rd_L4 l1_1 x6_3) x7_4)
                     ·rw [if_pos c39] at H
                      have c39b0 : ((rd (rd_L4 l0_1 x6_3) x7_4) == (rd (rd_L4 l1_1 x6_3) x7_4)) = true := beq_iff_eq.mpr c39
                      have c39b1 : ((rd (rd_L4 l0_1 x6_3) x7_4) != (rd (rd_L4 l1_1 x6_3) x7_4)) = false := bne_eq_false_iff_eq.mpr c39
                      clear c39
                      have H' := Am_ H
                      clear H
                      have hnb40 := NB242_243.out
                      have hnc40 := NB243_242.out
                      have hcz41_0 : wr.cell? ⟨gb242, 0, none⟩ = some (.slice A0_0 l0_0.length c0_0) := (Bc_ BK242.out 0).trans rfl
                      have hcz41_1 : wr.cell? ⟨gb242, 1, none⟩ = some (.slice (some ad246) l0_1.length c0_1) := (Bc_ BK242.out 1).trans rfl
                      have hfz41_0 := Bf_ BK242.out 0
                      have hfz41_1 := Bf_ BK242.out 1
                      have p248 : 0 ≤ (x6_3 : Int) := Ot_ (by first | (with_reducible assumption) | assumption)
                      have q248 : x6_3 < (l0_1.length : Int) := Ot_ (by first | (with_reducible assumption) | assumption)
                      obtain ⟨ad248, A248_0, c248_0, e248, hx248_0, hl248_0, hi248_0⟩ := at_L4 HR0_1.out x6_3 p248 q248
                      obtain rfl : ad246 = ad248 := (by injection e248)
                      replace hx248_0 := (HB.out.cell (Bl_ w _ hx248_0)).trans hx248_0
                      have HR248_0 := Am_ hi248_0
                      have HC248_0 := Am_ hl248_0
                      clear hi248_0 hl248_0
                      replace p248 := eq_true p248
                      replace q248 := eq_true q248
                      have p249 : 0 ≤ (x6_3 : Int) := Ot_ (by first | (with_reducible assumption) | assumption)
                      have q249 : x6_3 < (l0_1.length : Int) := Ot_ (by first | (with_reducible assumption) | assumption)
                      obtain ⟨ad249, A249_0, c249_0, e249, hx249_0, hl249_0, hi249_0⟩ := at_L4 HR0_1.out x6_3 p249 q249
                      obtain rfl : ad246 = ad249 := (by injection e249)
                      replace hx249_0 := (HB.out.cell (Bl_ w _ hx249_0)).trans hx249_0
                      have HR249_0 := Am_ hi249_0
                      have HC249_0 := Am_ hl249_0
                      clear hi249_0 hl249_0
                      replace p249 := eq_true p249
                      replace q249 := eq_true q249
                      have ea_ := Option.some.inj (hx248_0.symm.trans hx249_0)
                      injection ea_ with ea_ en_ ec_
                      subst ea_
                      subst ec_
                      clear en_
                      have p250 : 0 ≤ (x7_4 : Int) := Ot_ (by first | (with_reducible assumption) | assumption)
                      have q250 : x7_4 < ((rd_L4 l0_1 x6_3).length : Int) := Ot_ (by first | (with_reducible assumption) | assumption)
                      obtain ⟨ad250, e250, hx250_0⟩ := Kd.at_int HR249_0.out x7_4 p250 q250
                      cases e250
                      replace hx250_0 := (HB.out.cell (Bl_ w _ hx250_0)).trans hx250_0
                      replace p250 := eq_true p250
                      replace q250 := eq_true q250
                      have hcz42_0 : wr.cell? ⟨gb243, 0, none⟩ = some (.slice A1_0 l1_0.length c1_0) := (Bc_ BK243.out 0).trans rfl
                      have hcz42_1 : wr.cell? ⟨gb243, 1, none⟩ = some (.slice (some ad247) l1_1.length c1_1) := (Bc_ BK243.out 1).trans rfl
                      have hfz42_0 := Bf_ BK243.out 0
                      have hfz42_1 := Bf_ BK243.out 1
                      have p251 : 0 ≤ (x6_3 : Int) := Ot_ (by first | (with_reducible assumption) | assumption)
                      have q251 : x6_3 < (l1_1.length : Int) := Ot_ (by first | (with_reducible assumption) | assumption)
                      obtain ⟨ad251, A251_0, c251_0, e251, hx251_0, hl251_0, hi251_0⟩ := at_L4 HR1_1.out x6_3 p251 q251
                      obtain rfl : ad247 = ad251 := (by injection e251)
                      replace hx251_0 := (HB.out.cell (Bl_ w _ hx251_0)).trans hx251_0
                      have HR251_0 := Am_ hi251_0
                      have HC251_0 := Am_ hl251_0
                      clear hi251_0 hl251_0
                      replace p251 := eq_true p251
                      replace q251 := eq_true q251
                      have p252 : 0 ≤ (x7_4 : Int) := Ot_ (by first | (with_reducible assumption) | assumption)
                      have q252 : x7_4 < ((rd_L4 l1_1 x6_3).length : Int) := Ot_ (by first | (with_reducible assumption) | assumption)
                      obtain ⟨ad252, e252, hx252_0⟩ := Kd.at_int HR251_0.out x7_4 p252 q252
                      cases e252
                      replace hx252_0 := (HB.out.cell (Bl_ w _ hx252_0)).trans hx252_0
                      replace p252 := eq_true p252
                      replace q252 := eq_true q252
                      go_wp2
                      repeat (go_quiet (fail); try go_wp2)
                      go_roundg k4
                      case measure => have := HJ2.out; have := HK2.out; have := HK3.out; have := HK4.out; omega
                      case rel => exact ⟨(wrap64 (x7_4 + 1)), (by first | rfl | (simp; done) | (simp [*]; done)), H', ⟨by have := HJ2.out; have := HK2.out; have := HK3.out; have := HK4.out; omega⟩, ⟨by (with_reducible repeat (first | refine Bn_ ?_ _ | refine Bd_ ?_ | refine Ba_ ?_ _)); exact BK242.out⟩, ⟨by (with_reducible repeat (first | refine Bn_ ?_ _ | refine Bd_ ?_ | refine Ba_ ?_ _)); exact BK243.out⟩, ⟨by repeat (first | (with_reducible first | exact HB.out | apply Pa_ | apply Pn_ | apply Pd_ | refine Bs_ ?_ GE242.out | refine Bs_ ?_ GE243.out) | exact HB.out)⟩⟩
                     ·rw [if_neg c39] at H
                      have c39b0 : ((rd (rd_L4 l0_1 x6_3) x7_4) == (rd (rd_L4 l1_1 x6_3) x7_4)) = false := beq_eq_false_iff_ne.mpr c39
                      have c39b1 : ((rd (rd_L4 l0_1 x6_3) x7_4) != (rd (rd_L4 l1_1 x6_3) x7_4)) = true := bne_iff_ne.mpr c39
                      obtain rfl := Option.some.inj H
                      have hnb43 := NB242_243.out
                      have hnc43 := NB243_242.out
                      have hcz44_0 : wr.cell? ⟨gb242, 0, none⟩ = some (.slice A0_0 l0_0.length c0_0) := (Bc_ BK242.out 0).trans rfl
                      have hcz44_1 : wr.cell? ⟨gb242, 1, none⟩ = some (.slice (some ad246) l0_1.length c0_1) := (Bc_ BK242.out 1).trans rfl
                      have hfz44_0 := Bf_ BK242.out 0
                      have hfz44_1 := Bf_ BK242.out 1
                      have p248 : 0 ≤ (x6_3 : Int) := Ot_ (by first | (with_reducible assumption) | assumption)
                      have q248 : x6_3 < (l0_1.length : Int) := Ot_ (by first | (with_reducible assumption) | assumption)
                      obtain ⟨ad248, A248_0, c248_0, e248, hx248_0, hl248_0, hi248_0⟩ := at_L4 HR0_1.out x6_3 p248 q248
                      obtain rfl : ad246 = ad248 := (by injection e248)
                      replace hx248_0 := (HB.out.cell (Bl_ w _ hx248_0)).trans hx248_0
                      have HR248_0 := Am_ hi248_0
                      have HC248_0 := Am_ hl248_0
                      clear hi248_0 hl248_0
                      replace p248 := eq_true p248
                      replace q248 := eq_true q248
                      have p249 : 0 ≤ (x6_3 : Int) := Ot_ (by first | (with_reducible assumption) | assumption)
                      have q249 : x6_3 < (l0_1.length : Int) := Ot_ (by first | (with_reducible assumption) | assumption)
                      obtain ⟨ad249, A249_0, c249_0, e249, hx249_0, hl249_0, hi249_0⟩ := at_L4 HR0_1.out x6_3 p249 q249
                      obtain rfl : ad246 = ad249 := (by injection e249)
                      replace hx249_0 := (HB.out.cell (Bl_ w _ hx249_0)).trans hx249_0
                      have HR249_0 := Am_ hi249_0
                      have HC249_0 := Am_ hl249_0
                      clear hi249_0 hl249_0
                      replace p249 := eq_true p249
                      replace q249 := eq_true q249
                      have ea_ := Option.some.inj (hx248_0.symm.trans hx249_0)
                      injection ea_ with ea_ en_ ec_
                      subst ea_
                      subst ec_
                      clear en_
                      have p250 : 0 ≤ (x7_4 : Int) := Ot_ (by first | (with_reducible assumption) | assumption)
                      have q250 : x7_4 < ((rd_L4 l0_1 x6_3).length : Int) := Ot_ (by first | (with_reducible assumption) | assumption)
                      obtain ⟨ad250, e250, hx250_0⟩ := Kd.at_int HR249_0.out x7_4 p250 q250
                      cases e250
                      replace hx250_0 := (HB.out.cell (Bl_ w _ hx250_0)).trans hx250_0
                      replace p250 := eq_true p250
                      replace q250 := eq_true q250
                      have hcz45_0 : wr.cell? ⟨gb243, 0, none⟩ = some (.slice A1_0 l1_0.length c1_0) := (Bc_ BK243.out 0).trans rfl
                      have hcz45_1 : wr.cell? ⟨gb243, 1, none⟩ = some (.slice (some ad247) l1_1.length c1_1) := (Bc_ BK243.out 1).trans rfl
                      have hfz45_0 := Bf_ BK243.out 0
                      have hfz45_1 := Bf_ BK243.out 1
                      have p251 : 0 ≤ (x6_3 : Int) := Ot_ (by first | (with_reducible assumption) | assumption)
                      have q251 : x6_3 < (l1_1.length : Int) := Ot_ (by first | (with_reducible assumption) | assumption)
                      obtain ⟨ad251, A251_0, c251_0, e251, hx251_0, hl251_0, hi251_0⟩ := at_L4 HR1_1.out x6_3 p251 q251
                      obtain rfl : ad247 = ad251 := (by injection e251)
                      replace hx251_0 := (HB.out.cell (Bl_ w _ hx251_0)).trans hx251_0
                      have HR251_0 := Am_ hi251_0
                      have HC251_0 := Am_ hl251_0
                      clear hi251_0 hl251_0
                      replace p251 := eq_true p251
                      replace q251 := eq_true q251
                      have p252 : 0 ≤ (x7_4 : Int) := Ot_ (by first | (with_reducible assumption) | assumption)
                      have q252 : x7_4 < ((rd_L4 l1_1 x6_3).length : Int) := Ot_ (by first | (with_reducible assumption) | assumption)
                      obtain ⟨ad252, e252, hx252_0⟩ := Kd.at_int HR251_0.out x7_4 p252 q252
                      cases e252
                      replace hx252_0 := (HB.out.cell (Bl_ w _ hx252_0)).trans hx252_0
                      replace p252 := eq_true p252
                      replace q252 := eq_true q252
                      go_wp2
                      repeat (go_quiet (fail); try go_wp2)
                      go_ret
                      exact ⟨by first | rfl | (simp [errW_none, errW_some] <;> rfl) | (simp [*, errW_none, errW_some] <;> rfl), by repeat (first | (with_reducible first | exact HB.out | apply Pa_ | apply Pn_ | apply Pd_ | refine Bs_ ?_ GE242.out | refine Bs_ ?_ GE243.out) | exact HB.out)⟩
                    ·rw [if_neg c38] at H
                     exact absurd H (by simp)
                   ·rw [if_neg c37] at H
                    exact absurd H (by simp)
                  ·rw [if_neg c36] at H
                   exact absurd H (by simp)
                 ·rw [if_neg c35] at H
                  have c35b0 : decide (x7_4 < ((rd_L4 l0_1 x6_3).length : Int)) = false := Df_ c35
                  clear c35
                  have H' := Am_ H
                  clear H
                  have hnb46 := NB242_243.out
                  have hnc46 := NB243_242.out
                  have hcz47_0 : wr.cell? ⟨gb242, 0, none⟩ = some (.slice A0_0 l0_0.length c0_0) := (Bc_ BK242.out 0).trans rfl
                  have hcz47_1 : wr.cell? ⟨gb242, 1, none⟩ = some (.slice (some ad246) l0_1.length c0_1) := (Bc_ BK242.out 1).trans rfl
                  have hfz47_0 := Bf_ BK242.out 0
                  have hfz47_1 := Bf_ BK242.out 1
                  have p248 : 0 ≤ (x6_3 : Int) := Ot_ (by first | (with_reducible assumption) | assumption)
                  have q248 : x6_3 < (l0_1.length : Int) := Ot_ (by first | (with_reducible assumption) | assumption)
                  obtain ⟨ad248, A248_0, c248_0, e248, hx248_0, hl248_0, hi248_0⟩ := at_L4 HR0_1.out x6_3 p248 q248
                  obtain rfl : ad246 = ad248 := (by injection e248)
                  replace hx248_0 := (HB.out.cell (Bl_ w _ hx248_0)).trans hx248_0
                  have HR248_0 := Am_ hi248_0
                  have HC248_0 := Am_ hl248_0
                  clear hi248_0 hl248_0
                  replace p248 := eq_true p248
                  replace q248 := eq_true q248
                  go_wp2
                  repeat (go_quiet (fail); try go_wp2)
                  go_roundg k4
                  case measure => have := HJ2.out; have := HK2.out; have := HK3.out; have := HK4.out; omega
                  case rel => exact ⟨(wrap64 (x6_3 + 1)), (by first | rfl | (simp; done) | (simp [*]; done)), H', ⟨by have := HJ2.out; have := HK2.out; have := HK3.out; have := HK4.out; omega⟩, ⟨by (with_reducible repeat (first | refine Bn_ ?_ _ | refine Bd_ ?_ | refine Ba_ ?_ _)); exact BK242.out⟩, ⟨by (with_reducible repeat (first | refine Bn_ ?_ _ | refine Bd_ ?_ | refine Ba_ ?_ _)); exact BK243.out⟩, ⟨by repeat (first | (with_reducible first | exact HB.out | apply Pa_ | apply Pn_ | apply Pd_ | refine Bs_ ?_ GE242.out | refine Bs_ ?_ GE243.out) | exact HB.out)⟩⟩
                ·rw [if_neg c34] at H
                 exact absurd H (by simp)
               ·rw [if_neg c33] at H
                exact absurd H (by simp)
            ·rw [if_neg c29] at H
             have c29b0 : (((rd_L4 l0_1 x6_3).length : Int) == ((rd_L4 l1_1 x6_3).length : Int)) = false := beq_eq_false_iff_ne.mpr c29
             have c29b1 : (((rd_L4 l0_1 x6_3).length : Int) != ((rd_L4 l1_1 x6_3).length : Int)) = true := bne_iff_ne.mpr c29
             have c29b2 : ((rd_L4 l0_1 x6_3).length == (rd_L4 l1_1 x6_3).length) = false := by first | simpa using c29 | (simp at c29 ⊢; omega)
             obtain rfl := Option.some.inj H
             have hnb48 := NB242_243.out
             have hnc48 := NB243_242.out
             have hcz49_0 : wr.cell? ⟨gb242, 0, none⟩ = some (.slice A0_0 l0_0.length c0_0) := (Bc_ BK242.out 0).trans rfl
             have hcz49_1 : wr.cell? ⟨gb242, 1, none⟩ = some (.slice A0_1 l0_1.length c0_1) := (Bc_ BK242.out 1).trans rfl
             have hfz49_0 := Bf_ BK242.out 0
             have hfz49_1 := Bf_ BK242.out 1
             have p246 : 0 ≤ (x6_3 : Int) := Ot_ (by first | (with_reducible assumption) | assumption)
             have q246 : x6_3 < (l0_1.length : Int) := Ot_ (by first | (with_reducible assumption) | assumption)
             obtain ⟨ad246, A246_0, c246_0, e246, hx246_0, hl246_0, hi246_0⟩ := at_L4 HR0_1.out x6_3 p246 q246
             cases e246
             replace hx246_0 := (HB.out.cell (Bl_ w _ hx246_0)).trans hx246_0
             have HR246_0 := Am_ hi246_0
             have HC246_0 := Am_ hl246_0
             clear hi246_0 hl246_0
             replace p246 := eq_true p246
             replace q246 := eq_true q246
             have hcz50_0 : wr.cell? ⟨gb243, 0, none⟩ = some (.slice A1_0 l1_0.length c1_0) := (Bc_ BK243.out 0).trans rfl
             have hcz50_1 : wr.cell? ⟨gb243, 1, none⟩ = some (.slice A1_1 l1_1.length c1_1) := (Bc_ BK243.out 1).trans rfl
             have hfz50_0 := Bf_ BK243.out 0
             have hfz50_1 := Bf_ BK243.out 1
             have p247 : 0 ≤ (x6_3 : Int) := Ot_ (by first | (with_reducible assumption) | assumption)
             have q247 : x6_3 < (l1_1.length : Int) := Ot_ (by first | (with_reducible assumption) | assumption)
             obtain ⟨ad247, A247_0, c247_0, e247, hx247_0, hl247_0, hi247_0⟩ := at_L4 HR1_1.out x6_3 p247 q247
             cases e247
             replace hx247_0 := (HB.out.cell (Bl_ w _ hx247_0)).trans hx247_0
             have HR247_0 := Am_ hi247_0
             have HC247_0 := Am_ hl247_0
             clear hi247_0 hl247_0
             replace p247 := eq_true p247
             replace q247 := eq_true q247
             go_wp2
             repeat (go_quiet (fail); try go_wp2)
             go_ret
             exact ⟨by first | rfl | (simp [errW_none, errW_some] <;> rfl) | (simp [*, errW_none, errW_some] <;> rfl), by repeat (first | (with_reducible first | exact HB.out | apply Pa_ | apply Pn_ | apply Pd_ | refine Bs_ ?_ GE242.out | refine Bs_ ?_ GE243.out) | exact HB.out)⟩
           ·rw [if_neg c28] at H
            exact absurd H (by simp)
          ·rw [if_neg c27] at H
           exact absurd H (by simp)
         ·rw [if_neg c26] at H
          have c26b0 : decide (x6_3 < (l0_1.length : Int)) = false := Df_ c26
          clear c26
          obtain rfl := Option.some.inj H
          have hnb51 := NB242_243.out
          have hnc51 := NB243_242.out
          have hcz52_0 : wr.cell? ⟨gb242, 0, none⟩ = some (.slice A0_0 l0_0.length c0_0) := (Bc_ BK242.out 0).trans rfl
          have hcz52_1 : wr.cell? ⟨gb242, 1, none⟩ = some (.slice A0_1 l0_1.length c0_1) := (Bc_ BK242.out 1).trans rfl
          have hfz52_0 := Bf_ BK242.out 0
          have hfz52_1 := Bf_ BK242.out 1
          go_wp2
          repeat (go_quiet (fail); try go_wp2)
          go_ret
          exact ⟨by first | rfl | (simp [errW_none, errW_some] <;> rfl) | (simp [*, errW_none, errW_some] <;> rfl), by repeat (first | (with_reducible first | exact HB.out | apply Pa_ | apply Pn_ | apply Pd_ | refine Bs_ ?_ GE242.out | refine Bs_ ?_ GE243.out) | exact HB.out)⟩

end Go.Proofs.Ytbfjakhloabhmaa.P
