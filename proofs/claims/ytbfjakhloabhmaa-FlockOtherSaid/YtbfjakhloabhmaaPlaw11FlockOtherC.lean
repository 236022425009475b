-- Printed by a program of this session (inject.py) over the kit's print, with functions that were proved by hand in their places.
import Derived.Test.YtbfjakhloabhmaaPK
import Derived.Test.YtbfjakhloabhmaaPlaw11its
import Derived.Test.YtbfjakhloabhmaaPlaw11fine
import Derived.Test.YtbfjakhloabhmaaPflockLock
import Derived.Test.YtbfjakhloabhmaaPlaw11shown
import Derived.Test.YtbfjakhloabhmaaPref10Same
import Derived.Test.YtbfjakhloabhmaaPref11Fair
namespace Go.Proofs.Ytbfjakhloabhmaa.P
open Go.RowKit Go.Proofs.YtbfjakhloabhmaaW.PrintWords Go.Proofs.YtbfjakhloabhmaaW.PrintLast Go.Proofs.YtbfjakhloabhmaaW.PrintMore
attribute [local go_sem] max2_int min2_int max_two min_two max_three min_three max_four min_four   -- for this text's walks alone
set_option linter.unusedVariables false
set_option linter.unusedSimpArgs false

/-! ### flagstonelaw11_FlockOtherC: function 6 -/
def flagstonelaw11_FlockOtherC.f (k : Nat) (l0_0 : List (S44)) (l0_1 : List (List Int)) (a1 : Int) (a2 : Int) (a3 : Int) (a4 : Int) : Option (Bool) := (flagstonelaw11_fine.f k l0_0 l0_1).bind fun t421 => (if t421 = true then (if a1 < 0 then (none) else (if a2 < 0 then (none) else (if a1 ≥ (l0_0.length : Int) then (none) else (if a2 ≥ (l0_0.length : Int) then (none) else (if 0 ≤ a1 then (if a1 < (l0_0.length : Int) then (if 0 ≤ a2 then (if a2 < (l0_0.length : Int) then (if ((rd_T44 l0_0 a1).f0) = ((rd_T44 l0_0 a2).f0) then (none) else ((flagstonelaw11_shown.f k).bind fun t424 => (if t424 = true then ((flock_Lock.f l0_0 l0_1 a1 a3).bind fun bt425 => ((flock_Lock.f l0_0 l0_1 a2 a4).bind fun bt433 => ((flock_Lock.f bt433.1 bt433.2.1 a1 a3).bind fun bt441 => (if bt425.2.2 = bt441.2.2 then (if ((rd_T44 l0_0 a1).f4) < 1 then (none) else (if ((rd_T44 l0_0 a1).f5) < 0 then (none) else (if ((rd_T44 l0_0 a1).f5) > 2 then (none) else ((flagstonelaw11_its.f k l0_0 l0_1).bind fun bt452 => ((flagstoneref11_Fair.f k bt452.1 bt452.2).bind fun t458 => (if t458 = true then ((flock_Lock.f l0_0 l0_1 a1 0).bind fun bt459 => ((flock_Lock.f bt459.1 bt459.2.1 a1 ((rd_T44 l0_0 a1).f5)).bind fun bt468 => (if bt459.2.2 = 0 then (if bt468.2.2 = 0 then ((flagstonelaw11_its.f k bt468.1 bt468.2.1).bind fun bt476 => ((flagstonelaw11_its.f k l0_0 l0_1).bind fun bt482 => ((flagstoneref10_Same.f k bt476.1 bt476.2 bt482.1 bt482.2).bind fun t488 => (some t488)))) else (none)) else (none)))) else (none))))))) else (none))))) else (none)))) else (none)) else (none)) else (none)) else (none)))))) else (none))
theorem flagstonelaw11_FlockOtherC.mono : ∀ a0 a1 a2 a3 a4 a5 k, LeO (flagstonelaw11_FlockOtherC.f k a0 a1 a2 a3 a4 a5) (flagstonelaw11_FlockOtherC.f (k + 1) a0 a1 a2 a3 a4 a5) := by
 intro a0 a1 a2 a3 a4 a5 k
 unfold flagstonelaw11_FlockOtherC.f
 repeat' first
   | (with_reducible exact flagstonelaw11_fine.mono _ _ _)
   | (with_reducible exact flagstonelaw11_its.mono _ _ _)
   | (with_reducible exact flagstonelaw11_shown.mono _)
   | (with_reducible exact flagstoneref10_Same.mono _ _ _ _ _)
   | (with_reducible exact flagstoneref11_Fair.mono _ _ _)
   | (with_reducible exact LeO.refl _)
   | (with_reducible exact LeO.none _)
   | (with_reducible refine LeO.ite ?_ ?_)
   | (with_reducible refine LeO.bind ?_ (fun _ => ?_))
   | exact flagstonelaw11_fine.mono _ _ _
   | exact flagstonelaw11_its.mono _ _ _
   | exact flagstonelaw11_shown.mono _
   | exact flagstoneref10_Same.mono _ _ _ _ _
   | exact flagstoneref11_Fair.mono _ _ _
   | exact LeO.none _
   | refine LeO.ite ?_ ?_
   | refine LeO.bind ?_ (fun _ => ?_)
def flagstonelaw11_FlockOtherC.T1 : Bool × List (List Nat × List Nat) := (true, [([], []), ([0], [0]), ([1], [1]), ([2, 1], [2]), ([3], [3]), ([4, 3], [3, 4]), ([3, 5], [3, 5]), ([6, 3], [6]), ([7], [7]), ([8, 7], [7, 8]), ([7, 9], [7, 9]), ([10, 7], [10]), ([11], [11]), ([11], [11]), ([13, 11], [11, 13]), ([14, 11], [11, 14]), ([12, 15, 11], [11, 12, 15]), ([11, 16], [11, 16]), ([17, 11], [17]), ([18], [18]), ([18], [18]), ([20, 18], [18, 20]), ([21, 18], [18, 21]), ([19, 22, 18], [18, 19, 22]), ([18, 23], [18, 23]), ([24, 18], [24]), ([25], [25]), ([26, 25], [25, 26]), ([25], [25]), ([27, 28, 25], [25, 27, 28]), ([29, 25], [25, 29]), ([30, 25], [25, 30]), ([25], [25]), ([32, 25], [25, 32]), ([25], [25]), ([33, 34, 25], [25, 33, 34]), ([35, 25], [25, 35]), ([36, 25], [25, 36]), ([31, 37, 25], [25, 31, 37]), ([25, 38], [25, 38]), ([39, 25], [39]), ([40, 40], [40]), ([41, 40], [40, 41]), ([40, 42], [40, 42])])
def flagstonelaw11_FlockOtherC.B1 : List Nat := [0, 1, 3, 7, 15, 31, 63, 127, 255, 511, 1023, 2047, 4095, 4095, 12287, 28671, 65535, 131071, 262143, 524287, 524287, 1572863, 3670015, 8388607, 16777215, 33554431, 67108863, 134217727, 67108863, 536870911, 1073741823, 2147483647, 67108863, 4362076159, 67108863, 30131879935, 64491618303, 133211095039, 274877906943, 549755813887, 1099511627775, 2199023255551, 4398046511103, 8796093022207]
theorem flagstonelaw11_FlockOtherC.tab1 : rtab .any (opsOf Try.f6 1) = flagstonelaw11_FlockOtherC.T1 := by kernel_rfl
theorem flagstonelaw11_FlockOtherC.bits1 : waitsOk flagstonelaw11_FlockOtherC.T1.2 flagstonelaw11_FlockOtherC.B1 = true := by kernel_rfl
def flagstonelaw11_FlockOtherC.T11 : Bool × List (List Nat × List Nat) := (true, [([], []), ([], []), ([], []), ([2], [2]), ([], []), ([3, 4], [3, 4]), ([5], [5]), ([6], [6]), ([0, 1, 7], [0, 1, 7]), ([8], [8]), ([9], [9]), ([9], [9]), ([], []), ([12, 10, 8, 0, 1, 2, 3, 4, 5, 6, 7, 8, 9, 10, 12], [10, 12]), ([11, 13, 0, 1, 2, 3, 4, 5, 6, 7, 8, 9, 10, 11, 12, 13], [11])])
def flagstonelaw11_FlockOtherC.B11 : List Nat := [0, 0, 0, 4, 0, 28, 60, 124, 255, 511, 1023, 1023, 0, 6143, 16383]
theorem flagstonelaw11_FlockOtherC.tab11 : rtab .any (opsOf Try.f6 11) = flagstonelaw11_FlockOtherC.T11 := by kernel_rfl
theorem flagstonelaw11_FlockOtherC.bits11 : waitsOk flagstonelaw11_FlockOtherC.T11.2 flagstonelaw11_FlockOtherC.B11 = true := by kernel_rfl
def flagstonelaw11_FlockOtherC.T12 : Bool × List (List Nat × List Nat) := (true, [([], []), ([0], [0]), ([1], [1]), ([2], [2]), ([3, 2], [2, 3]), ([2, 4], [2, 4]), ([5, 2], [5]), ([6], [6]), ([7, 6, 6], [6, 7]), ([6], [6]), ([9, 8, 6], [6, 9]), ([8, 10, 10, 6], [6, 8, 10]), ([6, 11], [6, 11]), ([12, 11, 0, 1, 2, 3, 4, 5, 6, 7, 8, 9, 10, 11, 12], [12])])
def flagstonelaw11_FlockOtherC.B12 : List Nat := [0, 1, 3, 7, 15, 31, 63, 127, 255, 127, 1023, 2047, 4095, 8191]
theorem flagstonelaw11_FlockOtherC.tab12 : rtab .any (opsOf Try.f6 12) = flagstonelaw11_FlockOtherC.T12 := by kernel_rfl
theorem flagstonelaw11_FlockOtherC.bits12 : waitsOk flagstonelaw11_FlockOtherC.T12.2 flagstonelaw11_FlockOtherC.B12 = true := by kernel_rfl
set_option maxHeartbeats 8000000 in
set_option maxRecDepth 100000 in
theorem flagstonelaw11_FlockOtherC.calls (k : Nat) (A0_0 : Option Addr) (c0_0 : Nat) (l0_0 : List (S44)) (A0_1 : Option Addr) (c0_1 : Nat) (l0_1 : List (List Int)) (a1 : Int) (a2 : Int) (a3 : Int) (a4 : Int) (r : Bool) (w : World) (hr0_0 : Kd.C k44 w A0_0 l0_0.length l0_0) (hc0_0 : l0_0.length ≤ c0_0) (hr0_1 : Kd.C (Kd.slice 3 (Kd.int .i64)) w A0_1 l0_1.length l0_1) (hc0_1 : l0_1.length ≤ c0_1) (h : flagstonelaw11_FlockOtherC.f k l0_0 l0_1 a1 a2 a3 a4 = some r) :
  Calls Try.prog 6 #[.agg #[.slice A0_0 l0_0.length c0_0, .slice A0_1 l0_1.length c0_1], .int .i64 a1, .int .i64 a2, .int .i64 a3, .int .i64 a4] w fun e w' => e = .returned (.bool r) ∧ Below w.heap.size w w' := by
 have hu25 := Try.underlying25
 have HR0_0 := Am_ hr0_0
 have HC0_0 := Am_ hc0_0
 clear hr0_0 hc0_0
 have HR0_1 := Am_ hr0_1
 have HC0_1 := Am_ hc0_1
 clear hr0_1 hc0_1
 have HB := Am_ (Below.refl w.heap.size w)
 have H : ((flagstonelaw11_fine.f k l0_0 l0_1).bind fun t421 => (if t421 = true then (if a1 < 0 then (none) else (if a2 < 0 then (none) else (if a1 ≥ (l0_0.length : Int) then (none) else (if a2 ≥ (l0_0.length : Int) then (none) else (if 0 ≤ a1 then (if a1 < (l0_0.length : Int) then (if 0 ≤ a2 then (if a2 < (l0_0.length : Int) then (if ((rd_T44 l0_0 a1).f0) = ((rd_T44 l0_0 a2).f0) then (none) else ((flagstonelaw11_shown.f k).bind fun t424 => (if t424 = true then ((flock_Lock.f l0_0 l0_1 a1 a3).bind fun bt425 => ((flock_Lock.f l0_0 l0_1 a2 a4).bind fun bt433 => ((flock_Lock.f bt433.1 bt433.2.1 a1 a3).bind fun bt441 => (if bt425.2.2 = bt441.2.2 then (if ((rd_T44 l0_0 a1).f4) < 1 then (none) else (if ((rd_T44 l0_0 a1).f5) < 0 then (none) else (if ((rd_T44 l0_0 a1).f5) > 2 then (none) else ((flagstonelaw11_its.f k l0_0 l0_1).bind fun bt452 => ((flagstoneref11_Fair.f k bt452.1 bt452.2).bind fun t458 => (if t458 = true then ((flock_Lock.f l0_0 l0_1 a1 0).bind fun bt459 => ((flock_Lock.f bt459.1 bt459.2.1 a1 ((rd_T44 l0_0 a1).f5)).bind fun bt468 => (if bt459.2.2 = 0 then (if bt468.2.2 = 0 then ((flagstonelaw11_its.f k bt468.1 bt468.2.1).bind fun bt476 => ((flagstonelaw11_its.f k l0_0 l0_1).bind fun bt482 => ((flagstoneref10_Same.f k bt476.1 bt476.2 bt482.1 bt482.2).bind fun t488 => (some t488)))) else (none)) else (none)))) else (none))))))) else (none))))) else (none)))) else (none)) else (none)) else (none)) else (none)))))) else (none))) = some r := h
 clear h
 replace H := Option.bind_eq_some_iff.mp H
 obtain ⟨t421, A60, H⟩ := H
 replace H : (if t421 = true then (if a1 < 0 then (none) else (if a2 < 0 then (none) else (if a1 ≥ (l0_0.length : Int) then (none) else (if a2 ≥ (l0_0.length : Int) then (none) else (if 0 ≤ a1 then (if a1 < (l0_0.length : Int) then (if 0 ≤ a2 then (if a2 < (l0_0.length : Int) then (if ((rd_T44 l0_0 a1).f0) = ((rd_T44 l0_0 a2).f0) then (none) else ((flagstonelaw11_shown.f k).bind fun t424 => (if t424 = true then ((flock_Lock.f l0_0 l0_1 a1 a3).bind fun bt425 => ((flock_Lock.f l0_0 l0_1 a2 a4).bind fun bt433 => ((flock_Lock.f bt433.1 bt433.2.1 a1 a3).bind fun bt441 => (if bt425.2.2 = bt441.2.2 then (if ((rd_T44 l0_0 a1).f4) < 1 then (none) else (if ((rd_T44 l0_0 a1).f5) < 0 then (none) else (if ((rd_T44 l0_0 a1).f5) > 2 then (none) else ((flagstonelaw11_its.f k l0_0 l0_1).bind fun bt452 => ((flagstoneref11_Fair.f k bt452.1 bt452.2).bind fun t458 => (if t458 = true then ((flock_Lock.f l0_0 l0_1 a1 0).bind fun bt459 => ((flock_Lock.f bt459.1 bt459.2.1 a1 ((rd_T44 l0_0 a1).f5)).bind fun bt468 => (if bt459.2.2 = 0 then (if bt468.2.2 = 0 then ((flagstonelaw11_its.f k bt468.1 bt468.2.1).bind fun bt476 => ((flagstonelaw11_its.f k l0_0 l0_1).bind fun bt482 => ((flagstoneref10_Same.f k bt476.1 bt476.2 bt482.1 bt482.2).bind fun t488 => (some t488)))) else (none)) else (none)))) else (none))))))) else (none))))) else (none)))) else (none)) else (none)) else (none)) else (none)))))) else (none)) = some r := H
 have A6 := Am_ A60
 clear A60
 by_cases c7 : t421 = true
 ·subst c7
  have H1 : (if a1 < 0 then (none) else (if a2 < 0 then (none) else (if a1 ≥ (l0_0.length : Int) then (none) else (if a2 ≥ (l0_0.length : Int) then (none) else (if 0 ≤ a1 then (if a1 < (l0_0.length : Int) then (if 0 ≤ a2 then (if a2 < (l0_0.length : Int) then (if ((rd_T44 l0_0 a1).f0) = ((rd_T44 l0_0 a2).f0) then (none) else ((flagstonelaw11_shown.f k).bind fun t424 => (if t424 = true then ((flock_Lock.f l0_0 l0_1 a1 a3).bind fun bt425 => ((flock_Lock.f l0_0 l0_1 a2 a4).bind fun bt433 => ((flock_Lock.f bt433.1 bt433.2.1 a1 a3).bind fun bt441 => (if bt425.2.2 = bt441.2.2 then (if ((rd_T44 l0_0 a1).f4) < 1 then (none) else (if ((rd_T44 l0_0 a1).f5) < 0 then (none) else (if ((rd_T44 l0_0 a1).f5) > 2 then (none) else ((flagstonelaw11_its.f k l0_0 l0_1).bind fun bt452 => ((flagstoneref11_Fair.f k bt452.1 bt452.2).bind fun t458 => (if t458 = true then ((flock_Lock.f l0_0 l0_1 a1 0).bind fun bt459 => ((flock_Lock.f bt459.1 bt459.2.1 a1 ((rd_T44 l0_0 a1).f5)).bind fun bt468 => (if bt459.2.2 = 0 then (if bt468.2.2 = 0 then ((flagstonelaw11_its.f k bt468.1 bt468.2.1).bind fun bt476 => ((flagstonelaw11_its.f k l0_0 l0_1).bind fun bt482 => ((flagstoneref10_Same.f k bt476.1 bt476.2 bt482.1 bt482.2).bind fun t488 => (some t488)))) else (none)) else (none)))) else (none))))))) else (none))))) else (none)))) else (none)) else (none)) else (none)) else (none)))))) = some r := by rw [if_pos rfl] at H; exact H
  clear H
  have H := H1
  clear H1
  by_cases c8 : a1 < 0
  ·rw [if_pos c8] at H
   exact absurd H (by simp)
  ·rw [if_neg c8] at H
   have c8b0 : decide (a1 < 0) = false := Df_ c8
   clear c8
   by_cases c9 : a2 < 0
   ·rw [if_pos c9] at H
    exact absurd H (by simp)
   ·rw [if_neg c9] at H
    have c9b0 : decide (a2 < 0) = false := Df_ c9
    clear c9
    by_cases c10 : a1 ≥ (l0_0.length : Int)
    ·rw [if_pos c10] at H
     exact absurd H (by simp)
    ·rw [if_neg c10] at H
     have c10b0 : decide ((l0_0.length : Int) ≤ a1) = false := Df_ c10
     clear c10
     by_cases c11 : a2 ≥ (l0_0.length : Int)
     ·rw [if_pos c11] at H
      exact absurd H (by simp)
     ·rw [if_neg c11] at H
      have c11b0 : decide ((l0_0.length : Int) ≤ a2) = false := Df_ c11
      clear c11
      by_cases c12 : 0 ≤ a1
      ·rw [if_pos c12] at H
       have c12b0 : decide (0 ≤ a1) = true := Dt_ c12
       clear c12
       by_cases c13 : a1 < (l0_0.length : Int)
       ·rw [if_pos c13] at H
        have c13b0 : decide (a1 < (l0_0.length : Int)) = true := Dt_ c13
        clear c13
        by_cases c14 : 0 ≤ a2
        ·rw [if_pos c14] at H
         have c14b0 : decide (0 ≤ a2) = true := Dt_ c14
         clear c14
         by_cases c15 : a2 < (l0_0.length : Int)
         ·rw [if_pos c15] at H
          have c15b0 : decide (a2 < (l0_0.length : Int)) = true := Dt_ c15
          clear c15
          by_cases c16 : ((rd_T44 l0_0 a1).f0) = ((rd_T44 l0_0 a2).f0)
          ·rw [if_pos c16] at H
           exact absurd H (by simp)
          ·rw [if_neg c16] at H
           have c16b0 : (((rd_T44 l0_0 a1).f0) == ((rd_T44 l0_0 a2).f0)) = false := beq_eq_false_iff_ne.mpr c16
           have c16b1 : (((rd_T44 l0_0 a1).f0) != ((rd_T44 l0_0 a2).f0)) = true := bne_iff_ne.mpr c16
           replace H := Option.bind_eq_some_iff.mp H
           obtain ⟨t424, A170, H⟩ := H
           replace H : (if t424 = true then ((flock_Lock.f l0_0 l0_1 a1 a3).bind fun bt425 => ((flock_Lock.f l0_0 l0_1 a2 a4).bind fun bt433 => ((flock_Lock.f bt433.1 bt433.2.1 a1 a3).bind fun bt441 => (if bt425.2.2 = bt441.2.2 then (if ((rd_T44 l0_0 a1).f4) < 1 then (none) else (if ((rd_T44 l0_0 a1).f5) < 0 then (none) else (if ((rd_T44 l0_0 a1).f5) > 2 then (none) else ((flagstonelaw11_its.f k l0_0 l0_1).bind fun bt452 => ((flagstoneref11_Fair.f k bt452.1 bt452.2).bind fun t458 => (if t458 = true then ((flock_Lock.f l0_0 l0_1 a1 0).bind fun bt459 => ((flock_Lock.f bt459.1 bt459.2.1 a1 ((rd_T44 l0_0 a1).f5)).bind fun bt468 => (if bt459.2.2 = 0 then (if bt468.2.2 = 0 then ((flagstonelaw11_its.f k bt468.1 bt468.2.1).bind fun bt476 => ((flagstonelaw11_its.f k l0_0 l0_1).bind fun bt482 => ((flagstoneref10_Same.f k bt476.1 bt476.2 bt482.1 bt482.2).bind fun t488 => (some t488)))) else (none)) else (none)))) else (none))))))) else (none))))) else (none)) = some r := H
           have A17 := Am_ A170
           clear A170
           by_cases c18 : t424 = true
           ·subst c18
            have H1 : ((flock_Lock.f l0_0 l0_1 a1 a3).bind fun bt425 => ((flock_Lock.f l0_0 l0_1 a2 a4).bind fun bt433 => ((flock_Lock.f bt433.1 bt433.2.1 a1 a3).bind fun bt441 => (if bt425.2.2 = bt441.2.2 then (if ((rd_T44 l0_0 a1).f4) < 1 then (none) else (if ((rd_T44 l0_0 a1).f5) < 0 then (none) else (if ((rd_T44 l0_0 a1).f5) > 2 then (none) else ((flagstonelaw11_its.f k l0_0 l0_1).bind fun bt452 => ((flagstoneref11_Fair.f k bt452.1 bt452.2).bind fun t458 => (if t458 = true then ((flock_Lock.f l0_0 l0_1 a1 0).bind fun bt459 => ((flock_Lock.f bt459.1 bt459.2.1 a1 ((rd_T44 l0_0 a1).f5)).bind fun bt468 => (if bt459.2.2 = 0 then (if bt468.2.2 = 0 then ((flagstonelaw11_its.f k bt468.1 bt468.2.1).bind fun bt476 => ((flagstonelaw11_its.f k l0_0 l0_1).bind fun bt482 => ((flagstoneref10_Same.f k bt476.1 bt476.2 bt482.1 bt482.2).bind fun t488 => (some t488)))) else (none)) else (none)))) else (none))))))) else (none))))) = some r := by rw [if_pos rfl] at H; exact H
            clear H
            have H := H1
            clear H1
            replace H := Option.bind_eq_some_iff.mp H
            obtain ⟨⟨t425, t428, t431⟩, A190, H⟩ := H
            replace H : ((flock_Lock.f l0_0 l0_1 a2 a4).bind fun bt433 => ((flock_Lock.f bt433.1 bt433.2.1 a1 a3).bind fun bt441 => (if t431 = bt441.2.2 then (if ((rd_T44 l0_0 a1).f4) < 1 then (none) else (if ((rd_T44 l0_0 a1).f5) < 0 then (none) else (if ((rd_T44 l0_0 a1).f5) > 2 then (none) else ((flagstonelaw11_its.f k l0_0 l0_1).bind fun bt452 => ((flagstoneref11_Fair.f k bt452.1 bt452.2).bind fun t458 => (if t458 = true then ((flock_Lock.f l0_0 l0_1 a1 0).bind fun bt459 => ((flock_Lock.f bt459.1 bt459.2.1 a1 ((rd_T44 l0_0 a1).f5)).bind fun bt468 => (if bt459.2.2 = 0 then (if bt468.2.2 = 0 then ((flagstonelaw11_its.f k bt468.1 bt468.2.1).bind fun bt476 => ((flagstonelaw11_its.f k l0_0 l0_1).bind fun bt482 => ((flagstoneref10_Same.f k bt476.1 bt476.2 bt482.1 bt482.2).bind fun t488 => (some t488)))) else (none)) else (none)))) else (none))))))) else (none)))) = some r := H
            have A19 := Am_ A190
            clear A190
            replace H := Option.bind_eq_some_iff.mp H
            obtain ⟨⟨t433, t436, t439⟩, A200, H⟩ := H
            replace H : ((flock_Lock.f t433 t436 a1 a3).bind fun bt441 => (if t431 = bt441.2.2 then (if ((rd_T44 l0_0 a1).f4) < 1 then (none) else (if ((rd_T44 l0_0 a1).f5) < 0 then (none) else (if ((rd_T44 l0_0 a1).f5) > 2 then (none) else ((flagstonelaw11_its.f k l0_0 l0_1).bind fun bt452 => ((flagstoneref11_Fair.f k bt452.1 bt452.2).bind fun t458 => (if t458 = true then ((flock_Lock.f l0_0 l0_1 a1 0).bind fun bt459 => ((flock_Lock.f bt459.1 bt459.2.1 a1 ((rd_T44 l0_0 a1).f5)).bind fun bt468 => (if bt459.2.2 = 0 then (if bt468.2.2 = 0 then ((flagstonelaw11_its.f k bt468.1 bt468.2.1).bind fun bt476 => ((flagstonelaw11_its.f k l0_0 l0_1).bind fun bt482 => ((flagstoneref10_Same.f k bt476.1 bt476.2 bt482.1 bt482.2).bind fun t488 => (some t488)))) else (none)) else (none)))) else (none))))))) else (none))) = some r := H
            have A20 := Am_ A200
            clear A200
            replace H := Option.bind_eq_some_iff.mp H
            obtain ⟨⟨t441, t444, t447⟩, A210, H⟩ := H
            replace H : (if t431 = t447 then (if ((rd_T44 l0_0 a1).f4) < 1 then (none) else (if ((rd_T44 l0_0 a1).f5) < 0 then (none) else (if ((rd_T44 l0_0 a1).f5) > 2 then (none) else ((flagstonelaw11_its.f k l0_0 l0_1).bind fun bt452 => ((flagstoneref11_Fair.f k bt452.1 bt452.2).bind fun t458 => (if t458 = true then ((flock_Lock.f l0_0 l0_1 a1 0).bind fun bt459 => ((flock_Lock.f bt459.1 bt459.2.1 a1 ((rd_T44 l0_0 a1).f5)).bind fun bt468 => (if bt459.2.2 = 0 then (if bt468.2.2 = 0 then ((flagstonelaw11_its.f k bt468.1 bt468.2.1).bind fun bt476 => ((flagstonelaw11_its.f k l0_0 l0_1).bind fun bt482 => ((flagstoneref10_Same.f k bt476.1 bt476.2 bt482.1 bt482.2).bind fun t488 => (some t488)))) else (none)) else (none)))) else (none))))))) else (none)) = some r := H
            have A21 := Am_ A210
            clear A210
            by_cases c22 : t431 = t447
            ·rw [if_pos c22] at H
             have c22b0 : (t431 == t447) = true := beq_iff_eq.mpr c22
             have c22b1 : (t431 != t447) = false := bne_eq_false_iff_eq.mpr c22
             clear c22
             by_cases c23 : ((rd_T44 l0_0 a1).f4) < 1
             ·rw [if_pos c23] at H
              exact absurd H (by simp)
             ·rw [if_neg c23] at H
              have c23b0 : decide (((rd_T44 l0_0 a1).f4) < 1) = false := Df_ c23
              clear c23
              by_cases c24 : ((rd_T44 l0_0 a1).f5) < 0
              ·rw [if_pos c24] at H
               exact absurd H (by simp)
              ·rw [if_neg c24] at H
               have c24b0 : decide (((rd_T44 l0_0 a1).f5) < 0) = false := Df_ c24
               clear c24
               by_cases c25 : ((rd_T44 l0_0 a1).f5) > 2
               ·rw [if_pos c25] at H
                exact absurd H (by simp)
               ·rw [if_neg c25] at H
                have c25b0 : decide (2 < ((rd_T44 l0_0 a1).f5)) = false := Df_ c25
                clear c25
                replace H := Option.bind_eq_some_iff.mp H
                obtain ⟨⟨t452, t455⟩, A260, H⟩ := H
                replace H : ((flagstoneref11_Fair.f k t452 t455).bind fun t458 => (if t458 = true then ((flock_Lock.f l0_0 l0_1 a1 0).bind fun bt459 => ((flock_Lock.f bt459.1 bt459.2.1 a1 ((rd_T44 l0_0 a1).f5)).bind fun bt468 => (if bt459.2.2 = 0 then (if bt468.2.2 = 0 then ((flagstonelaw11_its.f k bt468.1 bt468.2.1).bind fun bt476 => ((flagstonelaw11_its.f k l0_0 l0_1).bind fun bt482 => ((flagstoneref10_Same.f k bt476.1 bt476.2 bt482.1 bt482.2).bind fun t488 => (some t488)))) else (none)) else (none)))) else (none))) = some r := H
                have A26 := Am_ A260
                clear A260
                replace H := Option.bind_eq_some_iff.mp H
                obtain ⟨t458, A270, H⟩ := H
                replace H : (if t458 = true then ((flock_Lock.f l0_0 l0_1 a1 0).bind fun bt459 => ((flock_Lock.f bt459.1 bt459.2.1 a1 ((rd_T44 l0_0 a1).f5)).bind fun bt468 => (if bt459.2.2 = 0 then (if bt468.2.2 = 0 then ((flagstonelaw11_its.f k bt468.1 bt468.2.1).bind fun bt476 => ((flagstonelaw11_its.f k l0_0 l0_1).bind fun bt482 => ((flagstoneref10_Same.f k bt476.1 bt476.2 bt482.1 bt482.2).bind fun t488 => (some t488)))) else (none)) else (none)))) else (none)) = some r := H
                have A27 := Am_ A270
                clear A270
                by_cases c28 : t458 = true
                ·subst c28
                 have H1 : ((flock_Lock.f l0_0 l0_1 a1 0).bind fun bt459 => ((flock_Lock.f bt459.1 bt459.2.1 a1 ((rd_T44 l0_0 a1).f5)).bind fun bt468 => (if bt459.2.2 = 0 then (if bt468.2.2 = 0 then ((flagstonelaw11_its.f k bt468.1 bt468.2.1).bind fun bt476 => ((flagstonelaw11_its.f k l0_0 l0_1).bind fun bt482 => ((flagstoneref10_Same.f k bt476.1 bt476.2 bt482.1 bt482.2).bind fun t488 => (some t488)))) else (none)) else (none)))) = some r := by rw [if_pos rfl] at H; exact H
                 clear H
                 have H := H1
                 clear H1
                 replace H := Option.bind_eq_some_iff.mp H
                 obtain ⟨⟨t459, t462, t465⟩, A290, H⟩ := H
                 replace H : ((flock_Lock.f t459 t462 a1 ((rd_T44 l0_0 a1).f5)).bind fun bt468 => (if t465 = 0 then (if bt468.2.2 = 0 then ((flagstonelaw11_its.f k bt468.1 bt468.2.1).bind fun bt476 => ((flagstonelaw11_its.f k l0_0 l0_1).bind fun bt482 => ((flagstoneref10_Same.f k bt476.1 bt476.2 bt482.1 bt482.2).bind fun t488 => (some t488)))) else (none)) else (none))) = some r := H
                 have A29 := Am_ A290
                 clear A290
                 replace H := Option.bind_eq_some_iff.mp H
                 obtain ⟨⟨t468, t471, t474⟩, A300, H⟩ := H
                 replace H : (if t465 = 0 then (if t474 = 0 then ((flagstonelaw11_its.f k t468 t471).bind fun bt476 => ((flagstonelaw11_its.f k l0_0 l0_1).bind fun bt482 => ((flagstoneref10_Same.f k bt476.1 bt476.2 bt482.1 bt482.2).bind fun t488 => (some t488)))) else (none)) else (none)) = some r := H
                 have A30 := Am_ A300
                 clear A300
                 by_cases c31 : t465 = 0
                 ·rw [if_pos c31] at H
                  have c31b0 : (t465 == 0) = true := beq_iff_eq.mpr c31
                  have c31b1 : (t465 != 0) = false := bne_eq_false_iff_eq.mpr c31
                  clear c31
                  by_cases c32 : t474 = 0
                  ·rw [if_pos c32] at H
                   have c32b0 : (t474 == 0) = true := beq_iff_eq.mpr c32
                   have c32b1 : (t474 != 0) = false := bne_eq_false_iff_eq.mpr c32
                   clear c32
                   replace H := Option.bind_eq_some_iff.mp H
                   obtain ⟨⟨t476, t479⟩, A330, H⟩ := H
                   replace H : ((flagstonelaw11_its.f k l0_0 l0_1).bind fun bt482 => ((flagstoneref10_Same.f k t476 t479 bt482.1 bt482.2).bind fun t488 => (some t488))) = some r := H
                   have A33 := Am_ A330
                   clear A330
                   replace H := Option.bind_eq_some_iff.mp H
                   obtain ⟨⟨t482, t485⟩, A340, H⟩ := H
                   replace H : ((flagstoneref10_Same.f k t476 t479 t482 t485).bind fun t488 => (some t488)) = some r := H
                   have A34 := Am_ A340
                   clear A340
                   replace H := Option.bind_eq_some_iff.mp H
                   obtain ⟨t488, A350, H⟩ := H
                   replace H : (some t488) = some r := H
                   have A35 := Am_ A350
                   clear A350
                   obtain rfl := Option.some.inj H
                   go_enter Try.func6, Try.ntmps6
                   try go_wp2_with (first | ((with_reducible refine gate_dst (N := 5) rfl ?_); (try (refine gate_guard (by rfl) ?_; dsimp only)); refine box_event ?hg (N := 5) ?hd (cs := #[.slice A0_0 l0_0.length c0_0, .slice A0_1 l0_1.length c0_1]) (t := 25) ?hr ?_; (case hd => rfl); (case hg => rfl); (case hr => first | (go_simp; done) | (go_simp; rfl)); intro gb420 hg w36 hbox hb; have n0_ := Am_ (Be_ (by repeat (first | (with_reducible first | exact HB.out | apply Pa_ | apply Pn_ | apply Pd_) | exact HB.out)) hb); have n1_ := Am_ (hbox); have n2_ := Am_ ((by rw [hg]; exact (Bz_ (by repeat (first | (with_reducible first | exact HB.out | apply Pa_ | apply Pn_ | apply Pd_) | exact HB.out))) : w.heap.size ≤ gb420)); have n3_ := Am_ ((by rw [hg]; exact (Bz_ (by repeat (first | (with_reducible first | exact HB.out | apply Pa_ | apply Pn_ | apply Pd_) | exact HB.out))) : w.heap.size ≤ gb420)); clear HB; have HB := n0_; have BK420 := n1_; have GW420 := n2_; have GE420 := n3_; clear n0_ n1_ n2_ n3_; clear hb hbox hg))
                   have n0_ := Am_ (Bd_ BK420.out)
                   have n1_ := Am_ (Pd_ HB.out)
                   clear BK420
                   clear HB
                   have BK420 := n0_
                   have HB := n1_
                   clear n0_ n1_
                   have p422 : 0 ≤ (a1 : Int) := Ot_ (by first | (with_reducible assumption) | assumption)
                   have q422 : a1 < (l0_0.length : Int) := Ot_ (by first | (with_reducible assumption) | assumption)
                   obtain ⟨ad422, e422, hx422_0, hx422_1, hx422_2, hx422_3, hx422_4, hx422_5⟩ := at_T44 HR0_0.out a1 p422 q422
                   have hw422_5 := hx422_5
                   have hw422_4 := hx422_4
                   have hw422_3 := hx422_3
                   have hw422_2 := hx422_2
                   have hw422_1 := hx422_1
                   have hw422_0 := hx422_0
                   cases e422
                   replace hx422_0 := (HB.out.cell (Bl_ w _ hx422_0)).trans hx422_0
                   replace hx422_1 := (HB.out.cell (Bl_ w _ hx422_1)).trans hx422_1
                   replace hx422_2 := (HB.out.cell (Bl_ w _ hx422_2)).trans hx422_2
                   replace hx422_3 := (HB.out.cell (Bl_ w _ hx422_3)).trans hx422_3
                   replace hx422_4 := (HB.out.cell (Bl_ w _ hx422_4)).trans hx422_4
                   replace hx422_5 := (HB.out.cell (Bl_ w _ hx422_5)).trans hx422_5
                   replace p422 := eq_true p422
                   replace q422 := eq_true q422
                   have p423 : 0 ≤ (a2 : Int) := Ot_ (by first | (with_reducible assumption) | assumption)
                   have q423 : a2 < (l0_0.length : Int) := Ot_ (by first | (with_reducible assumption) | assumption)
                   obtain ⟨ad423, e423, hx423_0, hx423_1, hx423_2, hx423_3, hx423_4, hx423_5⟩ := at_T44 HR0_0.out a2 p423 q423
                   have hw423_5 := hx423_5
                   have hw423_4 := hx423_4
                   have hw423_3 := hx423_3
                   have hw423_2 := hx423_2
                   have hw423_1 := hx423_1
                   have hw423_0 := hx423_0
                   obtain rfl : ad422 = ad423 := (by injection e423)
                   replace hx423_0 := (HB.out.cell (Bl_ w _ hx423_0)).trans hx423_0
                   replace hx423_1 := (HB.out.cell (Bl_ w _ hx423_1)).trans hx423_1
                   replace hx423_2 := (HB.out.cell (Bl_ w _ hx423_2)).trans hx423_2
                   replace hx423_3 := (HB.out.cell (Bl_ w _ hx423_3)).trans hx423_3
                   replace hx423_4 := (HB.out.cell (Bl_ w _ hx423_4)).trans hx423_4
                   replace hx423_5 := (HB.out.cell (Bl_ w _ hx423_5)).trans hx423_5
                   replace p423 := eq_true p423
                   replace q423 := eq_true q423
                   refine start_ (n := 44) (S := fun w' => w'.cell? ⟨gb420, 0, none⟩ = some (.slice (some ad422) l0_0.length c0_0) ∧ w'.cell? ⟨gb420, 1, none⟩ = some (.slice A0_1 l0_1.length c0_1) ∧ w'.cell? (ad422.add ((a1).toNat * 6)) = some (.int .i64 ((rd_T44 l0_0 a1).f0)) ∧ w'.cell? ⟨(ad422.add ((a1).toNat * 6)).block, (ad422.add ((a1).toNat * 6)).off + 1, none⟩ = some (.int .i64 ((rd_T44 l0_0 a1).f1)) ∧ w'.cell? ⟨(ad422.add ((a1).toNat * 6)).block, (ad422.add ((a1).toNat * 6)).off + 2, none⟩ = some (.bool ((rd_T44 l0_0 a1).f2)) ∧ w'.cell? ⟨(ad422.add ((a1).toNat * 6)).block, (ad422.add ((a1).toNat * 6)).off + 3, none⟩ = some (.bool ((rd_T44 l0_0 a1).f3)) ∧ w'.cell? ⟨(ad422.add ((a1).toNat * 6)).block, (ad422.add ((a1).toNat * 6)).off + 4, none⟩ = some (.int .i64 ((rd_T44 l0_0 a1).f4)) ∧ w'.cell? ⟨(ad422.add ((a1).toNat * 6)).block, (ad422.add ((a1).toNat * 6)).off + 5, none⟩ = some (.int .i64 ((rd_T44 l0_0 a1).f5)) ∧ w'.cell? (ad422.add ((a2).toNat * 6)) = some (.int .i64 ((rd_T44 l0_0 a2).f0)) ∧ w'.cell? ⟨(ad422.add ((a2).toNat * 6)).block, (ad422.add ((a2).toNat * 6)).off + 1, none⟩ = some (.int .i64 ((rd_T44 l0_0 a2).f1)) ∧ w'.cell? ⟨(ad422.add ((a2).toNat * 6)).block, (ad422.add ((a2).toNat * 6)).off + 2, none⟩ = some (.bool ((rd_T44 l0_0 a2).f2)) ∧ w'.cell? ⟨(ad422.add ((a2).toNat * 6)).block, (ad422.add ((a2).toNat * 6)).off + 3, none⟩ = some (.bool ((rd_T44 l0_0 a2).f3)) ∧ w'.cell? ⟨(ad422.add ((a2).toNat * 6)).block, (ad422.add ((a2).toNat * 6)).off + 4, none⟩ = some (.int .i64 ((rd_T44 l0_0 a2).f4)) ∧ w'.cell? ⟨(ad422.add ((a2).toNat * 6)).block, (ad422.add ((a2).toNat * 6)).off + 5, none⟩ = some (.int .i64 ((rd_T44 l0_0 a2).f5))) (ds := []) #[f_,f_,f_,f_,f_,f_,f_,f_,f_,f_,f_,f_,f_,f_,f_,f_,f_,f_,f_,f_,f_,f_,f_,f_,f_,f_,f_,f_,f_,f_,f_,f_,f_,f_,f_,f_,f_,f_,f_,f_,f_,f_,f_,f_] (by kernel_rfl) rfl rfl ⟨(Bc_ BK420.out 0).trans rfl, (Bc_ BK420.out 1).trans rfl, ((HB.out.cell (Bl_ w _ hw422_0)).trans hw422_0), ((HB.out.cell (Bl_ w _ hw422_1)).trans hw422_1), ((HB.out.cell (Bl_ w _ hw422_2)).trans hw422_2), ((HB.out.cell (Bl_ w _ hw422_3)).trans hw422_3), ((HB.out.cell (Bl_ w _ hw422_4)).trans hw422_4), ((HB.out.cell (Bl_ w _ hw422_5)).trans hw422_5), ((HB.out.cell (Bl_ w _ hw423_0)).trans hw423_0), ((HB.out.cell (Bl_ w _ hw423_1)).trans hw423_1), ((HB.out.cell (Bl_ w _ hw423_2)).trans hw423_2), ((HB.out.cell (Bl_ w _ hw423_3)).trans hw423_3), ((HB.out.cell (Bl_ w _ hw423_4)).trans hw423_4), ((HB.out.cell (Bl_ w _ hw423_5)).trans hw423_5)⟩ (fun hHeld => ?_); refine with_tabW flagstonelaw11_FlockOtherC.tab1 flagstonelaw11_FlockOtherC.bits1 (fun HT_ HW_ => ?_)
                   generalize w36.drew = w37 at BK420 HB hx422_0 hx422_1 hx422_2 hx422_3 hx422_4 hx422_5 hx423_0 hx423_1 hx423_2 hx423_3 hx423_4 hx423_5 hHeld ⊢
                   refine take_ (i := 0) (N := some 21) (v := ?_) (a' := ?_) #[t_,f_,f_,f_,f_,f_,f_,f_,f_,f_,f_,f_,f_,f_,f_,f_,f_,f_,f_,f_,f_,f_,f_,f_,f_,f_,f_,f_,f_,f_,f_,f_,f_,f_,f_,f_,f_,f_,f_,f_,f_,f_,f_,f_] rfl rfl (take_ofW HT_.out HW_.out (by kernel_rfl)) (fun _ _ _ h => h) (Or.inl ⟨by rfl, ?_⟩) hHeld ?_ ?_
                   rotate_left
                   ·rintro w' ⟨s0, s1, s2, s3, s4, s5, s6, s7, s8, s9, s10, s11, s12, s13⟩
                    go_simp
                    with_reducible rfl
                   rotate_left
                   ·simp only [Act.put, La_, Lb_, Lc_, i64_w, i32_w]
                    rfl
                   refine one_ (i := 1) (N := some 22) #[t_,t_,f_,f_,f_,f_,f_,f_,f_,f_,f_,f_,f_,f_,f_,f_,f_,f_,f_,f_,f_,f_,f_,f_,f_,f_,f_,f_,f_,f_,f_,f_,f_,f_,f_,f_,f_,f_,f_,f_,f_,f_,f_,f_] rfl rfl (one_of HT_.out (by kernel_rfl)) (by decide) (fun K hK => ?_)
                   refine goes_ Try.func9 (by kernel_rfl) rfl #[.agg #[.slice (some ad422) l0_0.length c0_0, .slice A0_1 l0_1.length c0_1]] (by rfl) rfl rfl (by (try simp only [List.map_toArray, List.map_cons, List.map_nil]); first | done | rfl | (simp only [List.length_drop, List.length_take]; rfl)) ?_
                   with_reducible refine (flagstonelaw11_fine.calls k _ _ l0_0 _ _ l0_1 true _ ?side1 ?side2 ?side3 ?side4 A6.out).mono ?_
                   (case side1 => repeat (first | exact (Kd.C_below HR0_0.out HB.out) | (with_reducible refine Kd.C_alloc ?_ _) | (with_reducible refine Kd.C_drewN ?_ _) | (with_reducible refine Kd.C_drew ?_)))
                   (case side2 => exact HC0_0.out)
                   (case side3 => repeat (first | exact (Kd.C_below HR0_1.out HB.out) | (with_reducible refine Kd.C_alloc ?_ _) | (with_reducible refine Kd.C_drewN ?_ _) | (with_reducible refine Kd.C_drew ?_)))
                   (case side4 => exact HC0_1.out)
                   rintro e w38 ⟨rfl, hb⟩
                   refine ⟨_, rfl, ?_⟩
                   have n0_ := Am_ (Bb_ (g := gb420) (o := .cells #[.slice (some ad422) l0_0.length c0_0, .slice A0_1 l0_1.length c0_1] 25 (0, 0)) (by (with_reducible repeat (first | refine Bn_ ?_ _ | refine Bd_ ?_ | refine Ba_ ?_ _)); exact BK420.out) hb)
                   have n1_ := Am_ (Be_ (by repeat (first | (with_reducible first | exact HB.out | apply Pa_ | apply Pn_ | apply Pd_ | refine Bs_ ?_ GE420.out) | exact HB.out)) hb)
                   clear BK420
                   clear HB
                   have BK420 := n0_
                   have HB := n1_
                   clear n0_ n1_
                   (try clear hb)
                   (try clear hb2)
                   (try clear hk)
                   (try clear hi)
                   refine hK.out _ _ ⟨(Bc_ BK420.out 0).trans rfl, (Bc_ BK420.out 1).trans rfl, ((HB.out.cell (Bl_ w _ hw422_0)).trans hw422_0), ((HB.out.cell (Bl_ w _ hw422_1)).trans hw422_1), ((HB.out.cell (Bl_ w _ hw422_2)).trans hw422_2), ((HB.out.cell (Bl_ w _ hw422_3)).trans hw422_3), ((HB.out.cell (Bl_ w _ hw422_4)).trans hw422_4), ((HB.out.cell (Bl_ w _ hw422_5)).trans hw422_5), ((HB.out.cell (Bl_ w _ hw423_0)).trans hw423_0), ((HB.out.cell (Bl_ w _ hw423_1)).trans hw423_1), ((HB.out.cell (Bl_ w _ hw423_2)).trans hw423_2), ((HB.out.cell (Bl_ w _ hw423_3)).trans hw423_3), ((HB.out.cell (Bl_ w _ hw423_4)).trans hw423_4), ((HB.out.cell (Bl_ w _ hw423_5)).trans hw423_5)⟩ (fun hHeld => ?_)
                   clear hK K
                   refine norm_ (a' := ?_) ?_ ?_
                   rotate_left
                   ·show Act.put _ (some 22) _ = _
                    simp only [Act.put, La_, Lb_, Lc_, i64_w, i32_w]
                    rfl
                   refine pure_ (i := 2) (N := some 23) (v := ?_) (a' := ?_) #[t_,t_,t_,f_,f_,f_,f_,f_,f_,f_,f_,f_,f_,f_,f_,f_,f_,f_,f_,f_,f_,f_,f_,f_,f_,f_,f_,f_,f_,f_,f_,f_,f_,f_,f_,f_,f_,f_,f_,f_,f_,f_,f_,f_] rfl rfl (any_of HT_.out (by kernel_rfl)) (fun _ _ _ h => h) (Or.inl ⟨by rfl, ?_⟩) ?_ ?_
                   rotate_left
                   ·intro w'
                    go_simp
                    with_reducible rfl
                   rotate_left
                   ·simp only [Act.put, La_, Lb_, Lc_, i64_w, i32_w]
                    rfl
                   refine pure_ (i := 3) (N := some 24) (v := ?_) (a' := ?_) #[t_,t_,t_,t_,f_,f_,f_,f_,f_,f_,f_,f_,f_,f_,f_,f_,f_,f_,f_,f_,f_,f_,f_,f_,f_,f_,f_,f_,f_,f_,f_,f_,f_,f_,f_,f_,f_,f_,f_,f_,f_,f_,f_,f_] rfl rfl (any_of HT_.out (by kernel_rfl)) (fun _ _ _ h => h) (Or.inl ⟨by rfl, ?_⟩) ?_ ?_
                   rotate_left
                   ·intro w'
                    go_simp
                    with_reducible rfl
                   rotate_left
                   ·simp only [Act.put, La_, Lb_, Lc_, i64_w, i32_w]
                    rfl
                   refine pure_ (i := 4) (N := some 25) (v := ?_) (a' := ?_) #[t_,t_,t_,t_,t_,f_,f_,f_,f_,f_,f_,f_,f_,f_,f_,f_,f_,f_,f_,f_,f_,f_,f_,f_,f_,f_,f_,f_,f_,f_,f_,f_,f_,f_,f_,f_,f_,f_,f_,f_,f_,f_,f_,f_] rfl rfl (any_of HT_.out (by kernel_rfl)) (fun _ _ _ h => h) (Or.inl ⟨by rfl, ?_⟩) ?_ ?_
                   rotate_left
                   ·intro w'
                    go_simp
                    with_reducible rfl
                   rotate_left
                   ·simp only [Act.put, La_, Lb_, Lc_, i64_w, i32_w]
                    rfl
                   refine pure_ (i := 5) (N := some 26) (v := ?_) (a' := ?_) #[t_,t_,t_,t_,t_,t_,f_,f_,f_,f_,f_,f_,f_,f_,f_,f_,f_,f_,f_,f_,f_,f_,f_,f_,f_,f_,f_,f_,f_,f_,f_,f_,f_,f_,f_,f_,f_,f_,f_,f_,f_,f_,f_,f_] rfl rfl (any_of HT_.out (by kernel_rfl)) (fun _ _ _ h => h) (Or.inl ⟨by rfl, ?_⟩) ?_ ?_
                   rotate_left
                   ·intro w'
                    go_simp
                    with_reducible rfl
                   rotate_left
                   ·simp only [Act.put, La_, Lb_, Lc_, i64_w, i32_w]
                    rfl
                   refine pure_ (i := 6) (N := some 27) (v := ?_) (a' := ?_) #[t_,t_,t_,t_,t_,t_,t_,f_,f_,f_,f_,f_,f_,f_,f_,f_,f_,f_,f_,f_,f_,f_,f_,f_,f_,f_,f_,f_,f_,f_,f_,f_,f_,f_,f_,f_,f_,f_,f_,f_,f_,f_,f_,f_] rfl rfl (any_of HT_.out (by kernel_rfl)) (fun _ _ _ h => h) (Or.inl ⟨by rfl, ?_⟩) ?_ ?_
                   rotate_left
                   ·intro w'
                    go_simp
                    with_reducible rfl
                   rotate_left
                   ·simp only [Act.put, La_, Lb_, Lc_, i64_w, i32_w]
                    rfl
                   refine pure_ (i := 7) (N := some 28) (v := ?_) (a' := ?_) #[t_,t_,t_,t_,t_,t_,t_,t_,f_,f_,f_,f_,f_,f_,f_,f_,f_,f_,f_,f_,f_,f_,f_,f_,f_,f_,f_,f_,f_,f_,f_,f_,f_,f_,f_,f_,f_,f_,f_,f_,f_,f_,f_,f_] rfl rfl (any_of HT_.out (by kernel_rfl)) (fun _ _ _ h => h) (Or.inl ⟨by rfl, ?_⟩) ?_ ?_
                   rotate_left
                   ·intro w'
                    go_simp
                    with_reducible rfl
                   rotate_left
                   ·simp only [Act.put, La_, Lb_, Lc_, i64_w, i32_w]
                    rfl
                   refine pure_ (i := 8) (N := some 29) (v := ?_) (a' := ?_) #[t_,t_,t_,t_,t_,t_,t_,t_,t_,f_,f_,f_,f_,f_,f_,f_,f_,f_,f_,f_,f_,f_,f_,f_,f_,f_,f_,f_,f_,f_,f_,f_,f_,f_,f_,f_,f_,f_,f_,f_,f_,f_,f_,f_] rfl rfl (any_of HT_.out (by kernel_rfl)) (fun _ _ _ h => h) (Or.inl ⟨by rfl, ?_⟩) ?_ ?_
                   rotate_left
                   ·intro w'
                    go_simp
                    with_reducible rfl
                   rotate_left
                   ·simp only [Act.put, La_, Lb_, Lc_, i64_w, i32_w]
                    rfl
                   refine pure_ (i := 9) (N := some 30) (v := ?_) (a' := ?_) #[t_,t_,t_,t_,t_,t_,t_,t_,t_,t_,f_,f_,f_,f_,f_,f_,f_,f_,f_,f_,f_,f_,f_,f_,f_,f_,f_,f_,f_,f_,f_,f_,f_,f_,f_,f_,f_,f_,f_,f_,f_,f_,f_,f_] rfl rfl (any_of HT_.out (by kernel_rfl)) (fun _ _ _ h => h) (Or.inl ⟨by rfl, ?_⟩) ?_ ?_
                   rotate_left
                   ·intro w'
                    go_simp
                    with_reducible rfl
                   rotate_left
                   ·simp only [Act.put, La_, Lb_, Lc_, i64_w, i32_w]
                    rfl
                   refine pure_ (i := 10) (N := some 31) (v := ?_) (a' := ?_) #[t_,t_,t_,t_,t_,t_,t_,t_,t_,t_,t_,f_,f_,f_,f_,f_,f_,f_,f_,f_,f_,f_,f_,f_,f_,f_,f_,f_,f_,f_,f_,f_,f_,f_,f_,f_,f_,f_,f_,f_,f_,f_,f_,f_] rfl rfl (any_of HT_.out (by kernel_rfl)) (fun _ _ _ h => h) (Or.inl ⟨by rfl, ?_⟩) ?_ ?_
                   rotate_left
                   ·intro w'
                    go_simp
                    with_reducible rfl
                   rotate_left
                   ·simp only [Act.put, La_, Lb_, Lc_, i64_w, i32_w]
                    rfl
                   refine pure_ (i := 11) (N := some 32) (v := ?_) (a' := ?_) #[t_,t_,t_,t_,t_,t_,t_,t_,t_,t_,t_,t_,f_,f_,f_,f_,f_,f_,f_,f_,f_,f_,f_,f_,f_,f_,f_,f_,f_,f_,f_,f_,f_,f_,f_,f_,f_,f_,f_,f_,f_,f_,f_,f_] rfl rfl (any_of HT_.out (by kernel_rfl)) (fun _ _ _ h => h) (Or.inl ⟨by rfl, ?_⟩) ?_ ?_
                   rotate_left
                   ·intro w'
                    go_simp
                    with_reducible rfl
                   rotate_left
                   ·simp only [Act.put, La_, Lb_, Lc_, i64_w, i32_w]
                    rfl
                   refine pure_ (i := 12) (N := some 33) (v := ?_) (a' := ?_) #[t_,t_,t_,t_,t_,t_,t_,t_,t_,t_,t_,t_,t_,f_,f_,f_,f_,f_,f_,f_,f_,f_,f_,f_,f_,f_,f_,f_,f_,f_,f_,f_,f_,f_,f_,f_,f_,f_,f_,f_,f_,f_,f_,f_] rfl rfl (any_of HT_.out (by kernel_rfl)) (fun _ _ _ h => h) (Or.inl ⟨by rfl, ?_⟩) ?_ ?_
                   rotate_left
                   ·intro w'
                    go_simp
                    with_reducible rfl
                   rotate_left
                   ·simp only [Act.put, La_, Lb_, Lc_, i64_w, i32_w]
                    rfl
                   refine pure_ (i := 13) (N := some 34) (v := ?_) (a' := ?_) #[t_,t_,t_,t_,t_,t_,t_,t_,t_,t_,t_,t_,t_,t_,f_,f_,f_,f_,f_,f_,f_,f_,f_,f_,f_,f_,f_,f_,f_,f_,f_,f_,f_,f_,f_,f_,f_,f_,f_,f_,f_,f_,f_,f_] rfl rfl (any_of HT_.out (by kernel_rfl)) (fun _ _ _ h => h) (Or.inl ⟨by rfl, ?_⟩) ?_ ?_
                   rotate_left
                   ·intro w'
                    go_simp
                    with_reducible rfl
                   rotate_left
                   ·simp only [Act.put, La_, Lb_, Lc_, i64_w, i32_w]
                    rfl
                   refine take_ (i := 14) (N := some 35) (v := ?_) (a' := ?_) #[t_,t_,t_,t_,t_,t_,t_,t_,t_,t_,t_,t_,t_,t_,t_,f_,f_,f_,f_,f_,f_,f_,f_,f_,f_,f_,f_,f_,f_,f_,f_,f_,f_,f_,f_,f_,f_,f_,f_,f_,f_,f_,f_,f_] rfl rfl (take_ofW HT_.out HW_.out (by kernel_rfl)) (fun _ _ _ h => h) (Or.inl ⟨by rfl, ?_⟩) hHeld ?_ ?_
                   rotate_left
                   ·rintro w' ⟨s0, s1, s2, s3, s4, s5, s6, s7, s8, s9, s10, s11, s12, s13⟩
                    go_simp
                    with_reducible rfl
                   rotate_left
                   ·simp only [Act.put, La_, Lb_, Lc_, i64_w, i32_w]
                    rfl
                   refine pure_ (i := 15) (N := some 36) (v := ?_) (a' := ?_) #[t_,t_,t_,t_,t_,t_,t_,t_,t_,t_,t_,t_,t_,t_,t_,t_,f_,f_,f_,f_,f_,f_,f_,f_,f_,f_,f_,f_,f_,f_,f_,f_,f_,f_,f_,f_,f_,f_,f_,f_,f_,f_,f_,f_] rfl rfl (any_of HT_.out (by kernel_rfl)) (fun _ _ _ h => h) (Or.inl ⟨by rfl, ?_⟩) ?_ ?_
                   rotate_left
                   ·intro w'
                    go_simp
                    with_reducible rfl
                   rotate_left
                   ·simp only [Act.put, La_, Lb_, Lc_, i64_w, i32_w]
                    rfl
                   refine pure_ (i := 16) (N := some 37) (v := ?_) (a' := ?_) #[t_,t_,t_,t_,t_,t_,t_,t_,t_,t_,t_,t_,t_,t_,t_,t_,t_,f_,f_,f_,f_,f_,f_,f_,f_,f_,f_,f_,f_,f_,f_,f_,f_,f_,f_,f_,f_,f_,f_,f_,f_,f_,f_,f_] rfl rfl (any_of HT_.out (by kernel_rfl)) (fun _ _ _ h => h) (Or.inl ⟨by rfl, ?_⟩) ?_ ?_
                   rotate_left
                   ·intro w'
                    go_simp
                    with_reducible rfl
                   rotate_left
                   ·simp only [Act.put, La_, Lb_, Lc_, i64_w, i32_w]
                    rfl
                   refine pure_ (i := 17) (N := some 38) (v := ?_) (a' := ?_) #[t_,t_,t_,t_,t_,t_,t_,t_,t_,t_,t_,t_,t_,t_,t_,t_,t_,t_,f_,f_,f_,f_,f_,f_,f_,f_,f_,f_,f_,f_,f_,f_,f_,f_,f_,f_,f_,f_,f_,f_,f_,f_,f_,f_] rfl rfl (any_of HT_.out (by kernel_rfl)) (fun _ _ _ h => h) (Or.inl ⟨by rfl, ?_⟩) ?_ ?_
                   rotate_left
                   ·intro w'
                    go_simp
                    with_reducible rfl
                   rotate_left
                   ·simp only [Act.put, La_, Lb_, Lc_, i64_w, i32_w]
                    rfl
                   refine pure_ (i := 18) (N := some 39) (v := ?_) (a' := ?_) #[t_,t_,t_,t_,t_,t_,t_,t_,t_,t_,t_,t_,t_,t_,t_,t_,t_,t_,t_,f_,f_,f_,f_,f_,f_,f_,f_,f_,f_,f_,f_,f_,f_,f_,f_,f_,f_,f_,f_,f_,f_,f_,f_,f_] rfl rfl (any_of HT_.out (by kernel_rfl)) (fun _ _ _ h => h) (Or.inl ⟨by rfl, ?_⟩) ?_ ?_
                   rotate_left
                   ·intro w'
                    go_simp
                    with_reducible rfl
                   rotate_left
                   ·simp only [Act.put, La_, Lb_, Lc_, i64_w, i32_w]
                    rfl
                   refine pure_ (i := 19) (N := some 40) (v := ?_) (a' := ?_) #[t_,t_,t_,t_,t_,t_,t_,t_,t_,t_,t_,t_,t_,t_,t_,t_,t_,t_,t_,t_,f_,f_,f_,f_,f_,f_,f_,f_,f_,f_,f_,f_,f_,f_,f_,f_,f_,f_,f_,f_,f_,f_,f_,f_] rfl rfl (any_of HT_.out (by kernel_rfl)) (fun _ _ _ h => h) (Or.inl ⟨by rfl, ?_⟩) ?_ ?_
                   rotate_left
                   ·intro w'
                    go_simp
                    with_reducible rfl
                   rotate_left
                   ·simp only [Act.put, La_, Lb_, Lc_, i64_w, i32_w]
                    rfl
                   refine pure_ (i := 20) (N := some 41) (v := ?_) (a' := ?_) #[t_,t_,t_,t_,t_,t_,t_,t_,t_,t_,t_,t_,t_,t_,t_,t_,t_,t_,t_,t_,t_,f_,f_,f_,f_,f_,f_,f_,f_,f_,f_,f_,f_,f_,f_,f_,f_,f_,f_,f_,f_,f_,f_,f_] rfl rfl (any_of HT_.out (by kernel_rfl)) (fun _ _ _ h => h) (Or.inl ⟨by rfl, ?_⟩) ?_ ?_
                   rotate_left
                   ·intro w'
                    go_simp
                    with_reducible rfl
                   rotate_left
                   ·simp only [Act.put, La_, Lb_, Lc_, i64_w, i32_w]
                    rfl
                   refine take_ (i := 21) (N := some 42) (v := ?_) (a' := ?_) #[t_,t_,t_,t_,t_,t_,t_,t_,t_,t_,t_,t_,t_,t_,t_,t_,t_,t_,t_,t_,t_,t_,f_,f_,f_,f_,f_,f_,f_,f_,f_,f_,f_,f_,f_,f_,f_,f_,f_,f_,f_,f_,f_,f_] rfl rfl (take_ofW HT_.out HW_.out (by kernel_rfl)) (fun _ _ _ h => h) (Or.inl ⟨by rfl, ?_⟩) hHeld ?_ ?_
                   rotate_left
                   ·rintro w' ⟨s0, s1, s2, s3, s4, s5, s6, s7, s8, s9, s10, s11, s12, s13⟩
                    go_simp
                    with_reducible rfl
                   rotate_left
                   ·simp only [Act.put, La_, Lb_, Lc_, i64_w, i32_w]
                    rfl
                   refine pure_ (i := 22) (N := some 43) (v := ?_) (a' := ?_) #[t_,t_,t_,t_,t_,t_,t_,t_,t_,t_,t_,t_,t_,t_,t_,t_,t_,t_,t_,t_,t_,t_,t_,f_,f_,f_,f_,f_,f_,f_,f_,f_,f_,f_,f_,f_,f_,f_,f_,f_,f_,f_,f_,f_] rfl rfl (any_of HT_.out (by kernel_rfl)) (fun _ _ _ h => h) (Or.inl ⟨by rfl, ?_⟩) ?_ ?_
                   rotate_left
                   ·intro w'
                    go_simp
                    with_reducible rfl
                   rotate_left
                   ·simp only [Act.put, La_, Lb_, Lc_, i64_w, i32_w]
                    rfl
                   refine pure_ (i := 23) (N := some 44) (v := ?_) (a' := ?_) #[t_,t_,t_,t_,t_,t_,t_,t_,t_,t_,t_,t_,t_,t_,t_,t_,t_,t_,t_,t_,t_,t_,t_,t_,f_,f_,f_,f_,f_,f_,f_,f_,f_,f_,f_,f_,f_,f_,f_,f_,f_,f_,f_,f_] rfl rfl (any_of HT_.out (by kernel_rfl)) (fun _ _ _ h => h) (Or.inl ⟨by rfl, ?_⟩) ?_ ?_
                   rotate_left
                   ·intro w'
                    go_simp
                    with_reducible rfl
                   rotate_left
                   ·simp only [Act.put, La_, Lb_, Lc_, i64_w, i32_w]
                    rfl
                   refine pure_ (i := 24) (N := some 45) (v := ?_) (a' := ?_) #[t_,t_,t_,t_,t_,t_,t_,t_,t_,t_,t_,t_,t_,t_,t_,t_,t_,t_,t_,t_,t_,t_,t_,t_,t_,f_,f_,f_,f_,f_,f_,f_,f_,f_,f_,f_,f_,f_,f_,f_,f_,f_,f_,f_] rfl rfl (any_of HT_.out (by kernel_rfl)) (fun _ _ _ h => h) (Or.inl ⟨by rfl, ?_⟩) ?_ ?_
                   rotate_left
                   ·intro w'
                    go_simp
                    with_reducible rfl
                   rotate_left
                   ·simp only [Act.put, La_, Lb_, Lc_, i64_w, i32_w]
                    rfl
                   refine pure_ (i := 25) (N := some 46) (v := ?_) (a' := ?_) #[t_,t_,t_,t_,t_,t_,t_,t_,t_,t_,t_,t_,t_,t_,t_,t_,t_,t_,t_,t_,t_,t_,t_,t_,t_,t_,f_,f_,f_,f_,f_,f_,f_,f_,f_,f_,f_,f_,f_,f_,f_,f_,f_,f_] rfl rfl (any_of HT_.out (by kernel_rfl)) (fun _ _ _ h => h) (Or.inl ⟨by rfl, ?_⟩) ?_ ?_
                   rotate_left
                   ·intro w'
                    go_simp
                    with_reducible rfl
                   rotate_left
                   ·simp only [Act.put, La_, Lb_, Lc_, i64_w, i32_w]
                    rfl
                   refine pure_ (i := 26) (N := some 47) (v := ?_) (a' := ?_) #[t_,t_,t_,t_,t_,t_,t_,t_,t_,t_,t_,t_,t_,t_,t_,t_,t_,t_,t_,t_,t_,t_,t_,t_,t_,t_,t_,f_,f_,f_,f_,f_,f_,f_,f_,f_,f_,f_,f_,f_,f_,f_,f_,f_] rfl rfl (any_of HT_.out (by kernel_rfl)) (fun _ _ _ h => h) (Or.inl ⟨by rfl, ?_⟩) ?_ ?_
                   rotate_left
                   ·intro w'
                    go_simp
                    with_reducible rfl
                   rotate_left
                   ·simp only [Act.put, La_, Lb_, Lc_, i64_w, i32_w]
                    rfl
                   refine pure_ (i := 28) (N := some 49) (v := ?_) (a' := ?_) #[t_,t_,t_,t_,t_,t_,t_,t_,t_,t_,t_,t_,t_,t_,t_,t_,t_,t_,t_,t_,t_,t_,t_,t_,t_,t_,t_,f_,t_,f_,f_,f_,f_,f_,f_,f_,f_,f_,f_,f_,f_,f_,f_,f_] rfl rfl (any_of HT_.out (by kernel_rfl)) (fun _ _ _ h => h) (Or.inl ⟨by rfl, ?_⟩) ?_ ?_
                   rotate_left
                   ·intro w'
                    go_simp
                    with_reducible rfl
                   rotate_left
                   ·simp only [Act.put, La_, Lb_, Lc_, i64_w, i32_w]
                    rfl
                   refine pure_ (i := 32) (N := some 53) (v := ?_) (a' := ?_) #[t_,t_,t_,t_,t_,t_,t_,t_,t_,t_,t_,t_,t_,t_,t_,t_,t_,t_,t_,t_,t_,t_,t_,t_,t_,t_,t_,f_,t_,f_,f_,f_,t_,f_,f_,f_,f_,f_,f_,f_,f_,f_,f_,f_] rfl rfl (any_of HT_.out (by kernel_rfl)) (fun _ _ _ h => h) (Or.inl ⟨by rfl, ?_⟩) ?_ ?_
                   rotate_left
                   ·intro w'
                    go_simp
                    with_reducible rfl
                   rotate_left
                   ·simp only [Act.put, La_, Lb_, Lc_, i64_w, i32_w]
                    rfl
                   refine pure_ (i := 34) (N := some 55) (v := ?_) (a' := ?_) #[t_,t_,t_,t_,t_,t_,t_,t_,t_,t_,t_,t_,t_,t_,t_,t_,t_,t_,t_,t_,t_,t_,t_,t_,t_,t_,t_,f_,t_,f_,f_,f_,t_,f_,t_,f_,f_,f_,f_,f_,f_,f_,f_,f_] rfl rfl (any_of HT_.out (by kernel_rfl)) (fun _ _ _ h => h) (Or.inl ⟨by rfl, ?_⟩) ?_ ?_
                   rotate_left
                   ·intro w'
                    go_simp
                    with_reducible rfl
                   rotate_left
                   ·simp only [Act.put, La_, Lb_, Lc_, i64_w, i32_w]
                    rfl
                   refine take_ (i := 27) (N := some 48) (v := ?_) (a' := ?_) #[t_,t_,t_,t_,t_,t_,t_,t_,t_,t_,t_,t_,t_,t_,t_,t_,t_,t_,t_,t_,t_,t_,t_,t_,t_,t_,t_,t_,t_,f_,f_,f_,t_,f_,t_,f_,f_,f_,f_,f_,f_,f_,f_,f_] rfl rfl (take_ofW HT_.out HW_.out (by kernel_rfl)) (fun _ _ _ h => h) (Or.inl ⟨by rfl, ?_⟩) hHeld ?_ ?_
                   rotate_left
                   ·rintro w' ⟨s0, s1, s2, s3, s4, s5, s6, s7, s8, s9, s10, s11, s12, s13⟩
                    go_simp
                    with_reducible rfl
                   rotate_left
                   ·simp only [Act.put, La_, Lb_, Lc_, i64_w, i32_w]
                    rfl
                   refine pure_ (i := 29) (N := some 50) (v := ?_) (a' := ?_) #[t_,t_,t_,t_,t_,t_,t_,t_,t_,t_,t_,t_,t_,t_,t_,t_,t_,t_,t_,t_,t_,t_,t_,t_,t_,t_,t_,t_,t_,t_,f_,f_,t_,f_,t_,f_,f_,f_,f_,f_,f_,f_,f_,f_] rfl rfl (any_of HT_.out (by kernel_rfl)) (fun _ _ _ h => h) (Or.inl ⟨by rfl, ?_⟩) ?_ ?_
                   rotate_left
                   ·intro w'
                    go_simp
                    with_reducible rfl
                   rotate_left
                   ·simp only [Act.put, La_, Lb_, Lc_, i64_w, i32_w]
                    rfl
                   refine pure_ (i := 30) (N := some 51) (v := ?_) (a' := ?_) #[t_,t_,t_,t_,t_,t_,t_,t_,t_,t_,t_,t_,t_,t_,t_,t_,t_,t_,t_,t_,t_,t_,t_,t_,t_,t_,t_,t_,t_,t_,t_,f_,t_,f_,t_,f_,f_,f_,f_,f_,f_,f_,f_,f_] rfl rfl (any_of HT_.out (by kernel_rfl)) (fun _ _ _ h => h) (Or.inl ⟨by rfl, ?_⟩) ?_ ?_
                   rotate_left
                   ·intro w'
                    go_simp
                    with_reducible rfl
                   rotate_left
                   ·simp only [Act.put, La_, Lb_, Lc_, i64_w, i32_w]
                    rfl
                   refine take_ (i := 31) (N := some 52) (v := ?_) (a' := ?_) #[t_,t_,t_,t_,t_,t_,t_,t_,t_,t_,t_,t_,t_,t_,t_,t_,t_,t_,t_,t_,t_,t_,t_,t_,t_,t_,t_,t_,t_,t_,t_,t_,t_,f_,t_,f_,f_,f_,f_,f_,f_,f_,f_,f_] rfl rfl (take_ofW HT_.out HW_.out (by kernel_rfl)) (fun _ _ _ h => h) (Or.inl ⟨by rfl, ?_⟩) hHeld ?_ ?_
                   rotate_left
                   ·rintro w' ⟨s0, s1, s2, s3, s4, s5, s6, s7, s8, s9, s10, s11, s12, s13⟩
                    go_simp
                    with_reducible rfl
                   rotate_left
                   ·simp only [Act.put, La_, Lb_, Lc_, i64_w, i32_w]
                    rfl
                   refine take_ (i := 33) (N := some 54) (v := ?_) (a' := ?_) #[t_,t_,t_,t_,t_,t_,t_,t_,t_,t_,t_,t_,t_,t_,t_,t_,t_,t_,t_,t_,t_,t_,t_,t_,t_,t_,t_,t_,t_,t_,t_,t_,t_,t_,t_,f_,f_,f_,f_,f_,f_,f_,f_,f_] rfl rfl (take_ofW HT_.out HW_.out (by kernel_rfl)) (fun _ _ _ h => h) (Or.inl ⟨by rfl, ?_⟩) hHeld ?_ ?_
                   rotate_left
                   ·rintro w' ⟨s0, s1, s2, s3, s4, s5, s6, s7, s8, s9, s10, s11, s12, s13⟩
                    go_simp
                    with_reducible rfl
                   rotate_left
                   ·simp only [Act.put, La_, Lb_, Lc_, i64_w, i32_w]
                    rfl
                   refine pure_ (i := 35) (N := some 56) (v := ?_) (a' := ?_) #[t_,t_,t_,t_,t_,t_,t_,t_,t_,t_,t_,t_,t_,t_,t_,t_,t_,t_,t_,t_,t_,t_,t_,t_,t_,t_,t_,t_,t_,t_,t_,t_,t_,t_,t_,t_,f_,f_,f_,f_,f_,f_,f_,f_] rfl rfl (any_of HT_.out (by kernel_rfl)) (fun _ _ _ h => h) (Or.inl ⟨by rfl, ?_⟩) ?_ ?_
                   rotate_left
                   ·intro w'
                    go_simp
                    with_reducible rfl
                   rotate_left
                   ·simp only [Act.put, La_, Lb_, Lc_, i64_w, i32_w]
                    rfl
                   refine pure_ (i := 36) (N := some 57) (v := ?_) (a' := ?_) #[t_,t_,t_,t_,t_,t_,t_,t_,t_,t_,t_,t_,t_,t_,t_,t_,t_,t_,t_,t_,t_,t_,t_,t_,t_,t_,t_,t_,t_,t_,t_,t_,t_,t_,t_,t_,t_,f_,f_,f_,f_,f_,f_,f_] rfl rfl (any_of HT_.out (by kernel_rfl)) (fun _ _ _ h => h) (Or.inl ⟨by rfl, ?_⟩) ?_ ?_
                   rotate_left
                   ·intro w'
                    go_simp
                    with_reducible rfl
                   rotate_left
                   ·simp only [Act.put, La_, Lb_, Lc_, i64_w, i32_w]
                    rfl
                   refine take_ (i := 37) (N := some 58) (v := ?_) (a' := ?_) #[t_,t_,t_,t_,t_,t_,t_,t_,t_,t_,t_,t_,t_,t_,t_,t_,t_,t_,t_,t_,t_,t_,t_,t_,t_,t_,t_,t_,t_,t_,t_,t_,t_,t_,t_,t_,t_,t_,f_,f_,f_,f_,f_,f_] rfl rfl (take_ofW HT_.out HW_.out (by kernel_rfl)) (fun _ _ _ h => h) (Or.inl ⟨by rfl, ?_⟩) hHeld ?_ ?_
                   rotate_left
                   ·rintro w' ⟨s0, s1, s2, s3, s4, s5, s6, s7, s8, s9, s10, s11, s12, s13⟩
                    go_simp
                    with_reducible rfl
                   rotate_left
                   ·simp only [Act.put, La_, Lb_, Lc_, i64_w, i32_w]
                    rfl
                   refine pure_ (i := 38) (N := some 59) (v := ?_) (a' := ?_) #[t_,t_,t_,t_,t_,t_,t_,t_,t_,t_,t_,t_,t_,t_,t_,t_,t_,t_,t_,t_,t_,t_,t_,t_,t_,t_,t_,t_,t_,t_,t_,t_,t_,t_,t_,t_,t_,t_,t_,f_,f_,f_,f_,f_] rfl rfl (any_of HT_.out (by kernel_rfl)) (fun _ _ _ h => h) (Or.inl ⟨by rfl, ?_⟩) ?_ ?_
                   rotate_left
                   ·intro w'
                    go_simp
                    with_reducible rfl
                   rotate_left
                   ·simp only [Act.put, La_, Lb_, Lc_, i64_w, i32_w]
                    rfl
                   refine pure_ (i := 39) (N := some 60) (v := ?_) (a' := ?_) #[t_,t_,t_,t_,t_,t_,t_,t_,t_,t_,t_,t_,t_,t_,t_,t_,t_,t_,t_,t_,t_,t_,t_,t_,t_,t_,t_,t_,t_,t_,t_,t_,t_,t_,t_,t_,t_,t_,t_,t_,f_,f_,f_,f_] rfl rfl (any_of HT_.out (by kernel_rfl)) (fun _ _ _ h => h) (Or.inl ⟨by rfl, ?_⟩) ?_ ?_
                   rotate_left
                   ·intro w'
                    go_simp
                    with_reducible rfl
                   rotate_left
                   ·simp only [Act.put, La_, Lb_, Lc_, i64_w, i32_w]
                    rfl
                   refine pure_ (i := 40) (N := some 61) (v := ?_) (a' := ?_) #[t_,t_,t_,t_,t_,t_,t_,t_,t_,t_,t_,t_,t_,t_,t_,t_,t_,t_,t_,t_,t_,t_,t_,t_,t_,t_,t_,t_,t_,t_,t_,t_,t_,t_,t_,t_,t_,t_,t_,t_,t_,f_,f_,f_] rfl rfl (any_of HT_.out (by kernel_rfl)) (fun _ _ _ h => h) (Or.inl ⟨by rfl, ?_⟩) ?_ ?_
                   rotate_left
                   ·intro w'
                    go_simp
                    with_reducible rfl
                   rotate_left
                   ·simp only [Act.put, La_, Lb_, Lc_, i64_w, i32_w]
                    rfl
                   refine one_ (i := 41) (N := some 62) #[t_,t_,t_,t_,t_,t_,t_,t_,t_,t_,t_,t_,t_,t_,t_,t_,t_,t_,t_,t_,t_,t_,t_,t_,t_,t_,t_,t_,t_,t_,t_,t_,t_,t_,t_,t_,t_,t_,t_,t_,t_,t_,f_,f_] rfl rfl (one_of HT_.out (by kernel_rfl)) (by decide) (fun K hK => ?_)
                   refine goes_ Try.func10 (by kernel_rfl) rfl #[] (by rfl) rfl rfl (by (try simp only [List.map_toArray, List.map_cons, List.map_nil]); first | done | rfl | (simp only [List.length_drop, List.length_take]; rfl)) ?_
                   with_reducible refine (flagstonelaw11_shown.calls k  true _ A17.out).mono ?_
                   rintro e w39 ⟨rfl, hb⟩
                   refine ⟨_, rfl, ?_⟩
                   have n0_ := Am_ (Bb_ (g := gb420) (o := .cells #[.slice (some ad422) l0_0.length c0_0, .slice A0_1 l0_1.length c0_1] 25 (0, 0)) (by (with_reducible repeat (first | refine Bn_ ?_ _ | refine Bd_ ?_ | refine Ba_ ?_ _)); exact BK420.out) hb)
                   have n1_ := Am_ (Be_ (by repeat (first | (with_reducible first | exact HB.out | apply Pa_ | apply Pn_ | apply Pd_ | refine Bs_ ?_ GE420.out) | exact HB.out)) hb)
                   clear BK420
                   clear HB
                   have BK420 := n0_
                   have HB := n1_
                   clear n0_ n1_
                   (try clear hb)
                   (try clear hb2)
                   (try clear hk)
                   (try clear hi)
                   refine hK.out _ _ ⟨(Bc_ BK420.out 0).trans rfl, (Bc_ BK420.out 1).trans rfl, ((HB.out.cell (Bl_ w _ hw422_0)).trans hw422_0), ((HB.out.cell (Bl_ w _ hw422_1)).trans hw422_1), ((HB.out.cell (Bl_ w _ hw422_2)).trans hw422_2), ((HB.out.cell (Bl_ w _ hw422_3)).trans hw422_3), ((HB.out.cell (Bl_ w _ hw422_4)).trans hw422_4), ((HB.out.cell (Bl_ w _ hw422_5)).trans hw422_5), ((HB.out.cell (Bl_ w _ hw423_0)).trans hw423_0), ((HB.out.cell (Bl_ w _ hw423_1)).trans hw423_1), ((HB.out.cell (Bl_ w _ hw423_2)).trans hw423_2), ((HB.out.cell (Bl_ w _ hw423_3)).trans hw423_3), ((HB.out.cell (Bl_ w _ hw423_4)).trans hw423_4), ((HB.out.cell (Bl_ w _ hw423_5)).trans hw423_5)⟩ (fun hHeld => ?_)
                   clear hK K
                   refine norm_ (a' := ?_) ?_ ?_
                   rotate_left
                   ·show Act.put _ (some 62) _ = _
                    simp only [Act.put, La_, Lb_, Lc_, i64_w, i32_w]
                    rfl
                   refine pure_ (i := 42) (N := some 63) (v := ?_) (a' := ?_) #[t_,t_,t_,t_,t_,t_,t_,t_,t_,t_,t_,t_,t_,t_,t_,t_,t_,t_,t_,t_,t_,t_,t_,t_,t_,t_,t_,t_,t_,t_,t_,t_,t_,t_,t_,t_,t_,t_,t_,t_,t_,t_,t_,f_] rfl rfl (any_of HT_.out (by kernel_rfl)) (fun _ _ _ h => h) (Or.inl ⟨by rfl, ?_⟩) ?_ ?_
                   rotate_left
                   ·intro w'
                    go_simp
                    with_reducible rfl
                   rotate_left
                   ·simp only [Act.put, La_, Lb_, Lc_, i64_w, i32_w]
                    rfl
                   refine pure_ (i := 43) (N := some 64) (v := ?_) (a' := ?_) #[t_,t_,t_,t_,t_,t_,t_,t_,t_,t_,t_,t_,t_,t_,t_,t_,t_,t_,t_,t_,t_,t_,t_,t_,t_,t_,t_,t_,t_,t_,t_,t_,t_,t_,t_,t_,t_,t_,t_,t_,t_,t_,t_,t_] rfl rfl (any_of HT_.out (by kernel_rfl)) (fun _ _ _ h => h) (Or.inl ⟨by rfl, ?_⟩) ?_ ?_
                   rotate_left
                   ·intro w'
                    go_simp
                    with_reducible rfl
                   rotate_left
                   ·simp only [Act.put, La_, Lb_, Lc_, i64_w, i32_w]
                    rfl
                   refine done_ (done_of HT_.out (by kernel_rfl)) ?_
                   have hcz40_0 : w39.cell? ⟨gb420, 0, none⟩ = some (.slice (some ad422) l0_0.length c0_0) := (Bc_ BK420.out 0).trans rfl
                   have hcz40_1 : w39.cell? ⟨gb420, 1, none⟩ = some (.slice A0_1 l0_1.length c0_1) := (Bc_ BK420.out 1).trans rfl
                   have hfz40_0 := Bf_ BK420.out 0
                   have hfz40_1 := Bf_ BK420.out 1
                   try go_wp2_with (first | ((with_reducible refine gate_callee (f := 11) rfl ?_); refine goesL_ (some 70) rfl rfl Try.func11 (by kernel_rfl) rfl #[.agg #[.slice (some ad422) l0_0.length c0_0, .slice A0_1 l0_1.length c0_1], .int .i64 a1, .int .i64 a3] rfl (by (try simp only [List.map_toArray, List.map_cons, List.map_nil]); first | done | rfl | (simp only [List.length_drop, List.length_take]; rfl)) ?_; (with_reducible refine (flock_Lock.calls (fun k_ => k_ < w.heap.size) _ _ l0_0 (fun k_ => k_ < w.heap.size) _ _ l0_1 a1 a3 t425 t428 t431 _ ?side1 ?side2 A19.out).mono ?_); (case side1 => exact Kd.V_mk HC0_0.out (Kd.F_below (Kd.C_F k44_heap HR0_0.out) (by repeat (first | (with_reducible first | exact HB.out | apply Pa_ | apply Pn_ | apply Pd_ | refine Bs_ ?_ GE420.out) | exact HB.out)))); (case side2 => exact Kd.V_mk HC0_1.out (Kd.F_below (Kd.C_F (Kd.heap_slice 3 (Kd.heap_int .i64)) HR0_1.out) (by repeat (first | (with_reducible first | exact HB.out | apply Pa_ | apply Pn_ | apply Pd_ | refine Bs_ ?_ GE420.out) | exact HB.out)))); rintro e w41 ⟨v426, v429, rfl, ho0, ho1, hb⟩; refine ⟨_, rfl, ?_⟩; have n0_ := Am_ (Vl_ (Vm_ (ok' := fun k_ => k_ ≠ gb420) ho0 (fun k_ hk_ => Or.elim hk_ (fun hs_ => Or.elim hs_ (fun hs_ => fun e_ => Nat.not_le.2 hs_ (by rw [e_]; exact GW420.out)) (fun hs_ => fun e_ => Nat.not_le.2 hs_ (by rw [e_]; exact GW420.out))) (fun hn_ => (Kd.freshB (g := gb420) (o := .cells #[.slice (some ad422) l0_0.length c0_0, .slice A0_1 l0_1.length c0_1] 25 (0, 0)) (by (with_reducible repeat (first | refine Bn_ ?_ _ | refine Bd_ ?_ | refine Ba_ ?_ _)); exact BK420.out) k_ hn_)))) (Bz_ (by repeat (first | (with_reducible first | exact HB.out | apply Pa_ | apply Pn_ | apply Pd_ | refine Bs_ ?_ GE420.out) | exact HB.out)))); have n1_ := Am_ (Vl_ (Vm_ (ok' := fun k_ => k_ ≠ gb420) ho1 (fun k_ hk_ => Or.elim hk_ (fun hs_ => Or.elim hs_ (fun hs_ => fun e_ => Nat.not_le.2 hs_ (by rw [e_]; exact GW420.out)) (fun hs_ => fun e_ => Nat.not_le.2 hs_ (by rw [e_]; exact GW420.out))) (fun hn_ => (Kd.freshB (g := gb420) (o := .cells #[.slice (some ad422) l0_0.length c0_0, .slice A0_1 l0_1.length c0_1] 25 (0, 0)) (by (with_reducible repeat (first | refine Bn_ ?_ _ | refine Bd_ ?_ | refine Ba_ ?_ _)); exact BK420.out) k_ hn_)))) (Bz_ (by repeat (first | (with_reducible first | exact HB.out | apply Pa_ | apply Pn_ | apply Pd_ | refine Bs_ ?_ GE420.out) | exact HB.out)))); have n2_ := Am_ (Bb_ (g := gb420) (o := .cells #[.slice (some ad422) l0_0.length c0_0, .slice A0_1 l0_1.length c0_1] 25 (0, 0)) (by (with_reducible repeat (first | refine Bn_ ?_ _ | refine Bd_ ?_ | refine Ba_ ?_ _)); exact BK420.out) hb); have n3_ := Am_ (Be_ (by repeat (first | (with_reducible first | exact HB.out | apply Pa_ | apply Pn_ | apply Pd_ | refine Bs_ ?_ GE420.out) | exact HB.out)) hb); clear BK420; clear HB; have HO427 := n0_; have HO430 := n1_; have BK420 := n2_; have HB := n3_; clear n0_ n1_ n2_ n3_; (try clear hb); (try clear hb2); (try clear hk); (try clear hi); (try clear ho0); (try clear ho1)) | ((with_reducible refine gate_dst (N := 11) rfl ?_); (try (refine gate_guard (by rfl) ?_; dsimp only)); refine box_event ?hg (N := 11) ?hd (cs := #[.slice none 0 0, .slice none 0 0]) (t := 25) ?hr ?_; (case hd => rfl); (case hg => rfl); (case hr => first | (go_simp; done) | (go_simp; rfl)); intro gb432 hg w42 hbox hb; have n0_ := Am_ (Vb_ (Ke_ (by (with_reducible repeat (first | apply Va_ | apply Vn_ | apply Vd_)); exact HO427.out) gb432 (Nat.le_of_eq hg.symm)) hb); have n1_ := Am_ (Vb_ (Ke_ (by (with_reducible repeat (first | apply Va_ | apply Vn_ | apply Vd_)); exact HO430.out) gb432 (Nat.le_of_eq hg.symm)) hb); have n2_ := Am_ (Bb_ (g := gb420) (o := .cells #[.slice (some ad422) l0_0.length c0_0, .slice A0_1 l0_1.length c0_1] 25 (0, 0)) (by (with_reducible repeat (first | refine Bn_ ?_ _ | refine Bd_ ?_ | refine Ba_ ?_ _)); exact BK420.out) hb); have n3_ := Am_ (Be_ (by repeat (first | (with_reducible first | exact HB.out | apply Pa_ | apply Pn_ | apply Pd_ | refine Bs_ ?_ GE420.out) | exact HB.out)) hb); have n4_ := Am_ (hbox); have n5_ := Am_ ((by rw [hg]; exact (Bz_ (by repeat (first | (with_reducible first | exact HB.out | apply Pa_ | apply Pn_ | apply Pd_ | refine Bs_ ?_ GE420.out) | exact HB.out))) : w.heap.size ≤ gb432)); have n6_ := Am_ ((by rw [hg]; exact (Bz_ (by repeat (first | (with_reducible first | exact HB.out | apply Pa_ | apply Pn_ | apply Pd_ | refine Bs_ ?_ GE420.out) | exact HB.out))) : w.heap.size ≤ gb432)); have n7_ := Am_ ((by rw [hg]; exact Nat.ne_of_lt (blk_lt (g := gb420) (o := .cells #[.slice (some ad422) l0_0.length c0_0, .slice A0_1 l0_1.length c0_1] 25 (0, 0)) (by (with_reducible repeat (first | refine Bn_ ?_ _ | refine Bd_ ?_ | refine Ba_ ?_ _)); exact BK420.out)) : gb420 ≠ gb432)); have n8_ := Am_ ((by rw [hg]; exact Nat.ne_of_gt (blk_lt (g := gb420) (o := .cells #[.slice (some ad422) l0_0.length c0_0, .slice A0_1 l0_1.length c0_1] 25 (0, 0)) (by (with_reducible repeat (first | refine Bn_ ?_ _ | refine Bd_ ?_ | refine Ba_ ?_ _)); exact BK420.out)) : gb432 ≠ gb420)); clear HO427; clear HO430; clear BK420; clear HB; have HO427 := n0_; have HO430 := n1_; have BK420 := n2_; have HB := n3_; have BK432 := n4_; have GW432 := n5_; have GE432 := n6_; have NB420_432 := n7_; have NB432_420 := n8_; clear n0_ n1_ n2_ n3_ n4_ n5_ n6_ n7_ n8_; clear hb hbox hg; obtain ⟨Ao43, co43, eo43⟩ := Vx_ HO427.out; subst eo43; have hnb44 := NB432_420.out; have hnc44 := NB420_432.out; have hcz45_0 : w42.cell? ⟨gb432, 0, none⟩ = some (.slice none 0 0) := (Bc_ BK432.out 0).trans rfl; have hcz45_1 : w42.cell? ⟨gb432, 1, none⟩ = some (.slice none 0 0) := (Bc_ BK432.out 1).trans rfl; have hfz45_0 := Bf_ BK432.out 0; have hfz45_1 := Bf_ BK432.out 1; obtain ⟨Ao46, co46, eo46⟩ := Vx_ HO430.out; subst eo46) | ((with_reducible refine gate_store (t := 25) (p := 11) rfl ?_); refine store_event (t := 25) (p := 11) (v := ?vo_w47) (w1 := ((w42.setCell ⟨gb432, 0, none⟩ (.slice Ao43 t425.length co43)).setCell ⟨gb432, 1, none⟩ (.slice Ao46 t428.length co46))) ?hg ?ho ?hn ?hr ?_; (case ho => rfl); (case hg => rfl); (case hn => rfl); (case hr => first | (go_simp; done) | (go_simp; rfl)); intro w47 hw; have n0_ : Aside0 (Kd.V k44 44 w47 w.heap.size (fun k_ => k_ ≠ gb420 ∧ k_ ≠ gb432) (.slice Ao43 t425.length co43) t425) := ⟨(by rw [hw]; exact (by (with_reducible repeat (first | apply Va_ | apply Vn_ | apply Vd_)); exact Vm_ (Vf_ (p := ⟨gb432, 1, none⟩) (Vf_ (p := ⟨gb432, 0, none⟩) (Vm_ HO427.out (fun k_ hk => (⟨hk, hk.2⟩ : _ ∧ k_ ≠ gb432))) (fun _ hk => hk.2) (.slice Ao43 t425.length co43)) (fun _ hk => hk.2) (.slice Ao46 t428.length co46)) (fun _ hk => ⟨hk.1.1, hk.1.2⟩)))⟩; have n1_ : Aside0 (Kd.V (Kd.slice 3 (Kd.int .i64)) 48 w47 w.heap.size (fun k_ => k_ ≠ gb420 ∧ k_ ≠ gb432) (.slice Ao46 t428.length co46) t428) := ⟨(by rw [hw]; exact (by (with_reducible repeat (first | apply Va_ | apply Vn_ | apply Vd_)); exact Vm_ (Vf_ (p := ⟨gb432, 1, none⟩) (Vf_ (p := ⟨gb432, 0, none⟩) (Vm_ HO430.out (fun k_ hk => (⟨hk, hk.2⟩ : _ ∧ k_ ≠ gb432))) (fun _ hk => hk.2) (.slice Ao43 t425.length co43)) (fun _ hk => hk.2) (.slice Ao46 t428.length co46)) (fun _ hk => ⟨hk.1.1, hk.1.2⟩)))⟩; have n2_ : Aside0 (w47.heap[gb420]? = some (.cells #[.slice (some ad422) l0_0.length c0_0, .slice A0_1 l0_1.length c0_1] 25 (0, 0))) := ⟨(by rw [hw]; exact (by (with_reducible repeat (first | refine Bn_ ?_ _ | refine Bd_ ?_ | refine Ba_ ?_ _)); refine blk_far ?_ NB420_432.out _; (with_reducible repeat (first | refine Bn_ ?_ _ | refine Bd_ ?_ | refine Ba_ ?_ _)); refine blk_far ?_ NB420_432.out _; (with_reducible repeat (first | refine Bn_ ?_ _ | refine Bd_ ?_ | refine Ba_ ?_ _)); exact BK420.out))⟩; have n3_ : Aside0 (w47.heap[gb432]? = some (.cells #[.slice Ao43 t425.length co43, .slice Ao46 t428.length co46] 25 (0, 0))) := ⟨(by rw [hw]; exact (by (with_reducible repeat (first | refine Bn_ ?_ _ | refine Bd_ ?_ | refine Ba_ ?_ _)); refine Bp_ (cs := #[.slice Ao43 t425.length co43, .slice none 0 0]) ?_ 1 _ rfl; (with_reducible repeat (first | refine Bn_ ?_ _ | refine Bd_ ?_ | refine Ba_ ?_ _)); refine Bp_ (cs := #[.slice none 0 0, .slice none 0 0]) ?_ 0 _ rfl; (with_reducible repeat (first | refine Bn_ ?_ _ | refine Bd_ ?_ | refine Ba_ ?_ _)); exact BK432.out))⟩; have n4_ : Aside0 (Below w.heap.size w w47) := ⟨(by rw [hw]; exact (by repeat (first | (with_reducible first | exact HB.out | apply Pa_ | apply Pn_ | apply Pd_ | refine Bs_ ?_ GE420.out | refine Bs_ ?_ GE432.out) | exact HB.out)))⟩; clear hw; clear HO427; clear HO430; clear BK420; clear BK432; clear HB; have HO427 := n0_; have HO430 := n1_; have BK420 := n2_; have BK432 := n3_; have HB := n4_; clear n0_ n1_ n2_ n3_ n4_; have hcz48_0 : w47.cell? ⟨gb420, 0, none⟩ = some (.slice (some ad422) l0_0.length c0_0) := (Bc_ BK420.out 0).trans rfl; have hcz48_1 : w47.cell? ⟨gb420, 1, none⟩ = some (.slice A0_1 l0_1.length c0_1) := (Bc_ BK420.out 1).trans rfl; have hfz48_0 := Bf_ BK420.out 0; have hfz48_1 := Bf_ BK420.out 1) | ((with_reducible refine gate_callee (f := 11) rfl ?_); refine goesL_ (some 77) rfl rfl Try.func11 (by kernel_rfl) rfl #[.agg #[.slice (some ad422) l0_0.length c0_0, .slice A0_1 l0_1.length c0_1], .int .i64 a2, .int .i64 a4] rfl (by (try simp only [List.map_toArray, List.map_cons, List.map_nil]); first | done | rfl | (simp only [List.length_drop, List.length_take]; rfl)) ?_; (with_reducible refine (flock_Lock.calls (fun k_ => k_ < w.heap.size) _ _ l0_0 (fun k_ => k_ < w.heap.size) _ _ l0_1 a2 a4 t433 t436 t439 _ ?side1 ?side2 A20.out).mono ?_); (case side1 => exact Kd.V_mk HC0_0.out (Kd.F_below (Kd.C_F k44_heap HR0_0.out) (by repeat (first | (with_reducible first | exact HB.out | apply Pa_ | apply Pn_ | apply Pd_ | refine Bs_ ?_ GE420.out | refine Bs_ ?_ GE432.out) | exact HB.out)))); (case side2 => exact Kd.V_mk HC0_1.out (Kd.F_below (Kd.C_F (Kd.heap_slice 3 (Kd.heap_int .i64)) HR0_1.out) (by repeat (first | (with_reducible first | exact HB.out | apply Pa_ | apply Pn_ | apply Pd_ | refine Bs_ ?_ GE420.out | refine Bs_ ?_ GE432.out) | exact HB.out)))); rintro e w49 ⟨v434, v437, rfl, ho0, ho1, hb⟩; refine ⟨_, rfl, ?_⟩; have n0_ := Am_ (Vb_ (by (with_reducible repeat (first | apply Va_ | apply Vn_ | apply Vd_)); exact HO427.out) hb); have n1_ := Am_ (Vb_ (by (with_reducible repeat (first | apply Va_ | apply Vn_ | apply Vd_)); exact HO430.out) hb); have n2_ := Am_ (Vl_ (Vm_ (ok' := fun k_ => k_ ≠ gb420 ∧ k_ ≠ gb432) ho0 (fun k_ hk_ => ⟨Or.elim hk_ (fun hs_ => Or.elim hs_ (fun hs_ => fun e_ => Nat.not_le.2 hs_ (by rw [e_]; exact GW420.out)) (fun hs_ => fun e_ => Nat.not_le.2 hs_ (by rw [e_]; exact GW420.out))) (fun hn_ => (Kd.freshB (g := gb420) (o := .cells #[.slice (some ad422) l0_0.length c0_0, .slice A0_1 l0_1.length c0_1] 25 (0, 0)) (by (with_reducible repeat (first | refine Bn_ ?_ _ | refine Bd_ ?_ | refine Ba_ ?_ _)); exact BK420.out) k_ hn_)), Or.elim hk_ (fun hs_ => Or.elim hs_ (fun hs_ => fun e_ => Nat.not_le.2 hs_ (by rw [e_]; exact GW432.out)) (fun hs_ => fun e_ => Nat.not_le.2 hs_ (by rw [e_]; exact GW432.out))) (fun hn_ => (Kd.freshB (g := gb432) (o := .cells #[.slice Ao43 t425.length co43, .slice Ao46 t428.length co46] 25 (0, 0)) (by (with_reducible repeat (first | refine Bn_ ?_ _ | refine Bd_ ?_ | refine Ba_ ?_ _)); exact BK432.out) k_ hn_))⟩)) (Bz_ (by repeat (first | (with_reducible first | exact HB.out | apply Pa_ | apply Pn_ | apply Pd_ | refine Bs_ ?_ GE420.out | refine Bs_ ?_ GE432.out) | exact HB.out)))); have n3_ := Am_ (Vl_ (Vm_ (ok' := fun k_ => k_ ≠ gb420 ∧ k_ ≠ gb432) ho1 (fun k_ hk_ => ⟨Or.elim hk_ (fun hs_ => Or.elim hs_ (fun hs_ => fun e_ => Nat.not_le.2 hs_ (by rw [e_]; exact GW420.out)) (fun hs_ => fun e_ => Nat.not_le.2 hs_ (by rw [e_]; exact GW420.out))) (fun hn_ => (Kd.freshB (g := gb420) (o := .cells #[.slice (some ad422) l0_0.length c0_0, .slice A0_1 l0_1.length c0_1] 25 (0, 0)) (by (with_reducible repeat (first | refine Bn_ ?_ _ | refine Bd_ ?_ | refine Ba_ ?_ _)); exact BK420.out) k_ hn_)), Or.elim hk_ (fun hs_ => Or.elim hs_ (fun hs_ => fun e_ => Nat.not_le.2 hs_ (by rw [e_]; exact GW432.out)) (fun hs_ => fun e_ => Nat.not_le.2 hs_ (by rw [e_]; exact GW432.out))) (fun hn_ => (Kd.freshB (g := gb432) (o := .cells #[.slice Ao43 t425.length co43, .slice Ao46 t428.length co46] 25 (0, 0)) (by (with_reducible repeat (first | refine Bn_ ?_ _ | refine Bd_ ?_ | refine Ba_ ?_ _)); exact BK432.out) k_ hn_))⟩)) (Bz_ (by repeat (first | (with_reducible first | exact HB.out | apply Pa_ | apply Pn_ | apply Pd_ | refine Bs_ ?_ GE420.out | refine Bs_ ?_ GE432.out) | exact HB.out)))); have n4_ := Am_ (Bb_ (g := gb420) (o := .cells #[.slice (some ad422) l0_0.length c0_0, .slice A0_1 l0_1.length c0_1] 25 (0, 0)) (by (with_reducible repeat (first | refine Bn_ ?_ _ | refine Bd_ ?_ | refine Ba_ ?_ _)); exact BK420.out) hb); have n5_ := Am_ (Bb_ (g := gb432) (o := .cells #[.slice Ao43 t425.length co43, .slice Ao46 t428.length co46] 25 (0, 0)) (by (with_reducible repeat (first | refine Bn_ ?_ _ | refine Bd_ ?_ | refine Ba_ ?_ _)); exact BK432.out) hb); have n6_ := Am_ (Be_ (by repeat (first | (with_reducible first | exact HB.out | apply Pa_ | apply Pn_ | apply Pd_ | refine Bs_ ?_ GE420.out | refine Bs_ ?_ GE432.out) | exact HB.out)) hb); clear HO427; clear HO430; clear BK420; clear BK432; clear HB; have HO427 := n0_; have HO430 := n1_; have HO435 := n2_; have HO438 := n3_; have BK420 := n4_; have BK432 := n5_; have HB := n6_; clear n0_ n1_ n2_ n3_ n4_ n5_ n6_; (try clear hb); (try clear hb2); (try clear hk); (try clear hi); (try clear ho0); (try clear ho1)) | ((with_reducible refine gate_dst (N := 13) rfl ?_); (try (refine gate_guard (by rfl) ?_; dsimp only)); refine box_event ?hg (N := 13) ?hd (cs := #[.slice none 0 0, .slice none 0 0]) (t := 25) ?hr ?_; (case hd => rfl); (case hg => rfl); (case hr => first | (go_simp; done) | (go_simp; rfl)); intro gb440 hg w50 hbox hb; have n0_ := Am_ (Vb_ (Ke_ (by (with_reducible repeat (first | apply Va_ | apply Vn_ | apply Vd_)); exact HO427.out) gb440 (Nat.le_of_eq hg.symm)) hb); have n1_ := Am_ (Vb_ (Ke_ (by (with_reducible repeat (first | apply Va_ | apply Vn_ | apply Vd_)); exact HO430.out) gb440 (Nat.le_of_eq hg.symm)) hb); have n2_ := Am_ (Vb_ (Ke_ (by (with_reducible repeat (first | apply Va_ | apply Vn_ | apply Vd_)); exact HO435.out) gb440 (Nat.le_of_eq hg.symm)) hb); have n3_ := Am_ (Vb_ (Ke_ (by (with_reducible repeat (first | apply Va_ | apply Vn_ | apply Vd_)); exact HO438.out) gb440 (Nat.le_of_eq hg.symm)) hb); have n4_ := Am_ (Bb_ (g := gb420) (o := .cells #[.slice (some ad422) l0_0.length c0_0, .slice A0_1 l0_1.length c0_1] 25 (0, 0)) (by (with_reducible repeat (first | refine Bn_ ?_ _ | refine Bd_ ?_ | refine Ba_ ?_ _)); exact BK420.out) hb); have n5_ := Am_ (Bb_ (g := gb432) (o := .cells #[.slice Ao43 t425.length co43, .slice Ao46 t428.length co46] 25 (0, 0)) (by (with_reducible repeat (first | refine Bn_ ?_ _ | refine Bd_ ?_ | refine Ba_ ?_ _)); exact BK432.out) hb); have n6_ := Am_ (Be_ (by repeat (first | (with_reducible first | exact HB.out | apply Pa_ | apply Pn_ | apply Pd_ | refine Bs_ ?_ GE420.out | refine Bs_ ?_ GE432.out) | exact HB.out)) hb); have n7_ := Am_ (hbox); have n8_ := Am_ ((by rw [hg]; exact (Bz_ (by repeat (first | (with_reducible first | exact HB.out | apply Pa_ | apply Pn_ | apply Pd_ | refine Bs_ ?_ GE420.out | refine Bs_ ?_ GE432.out) | exact HB.out))) : w.heap.size ≤ gb440)); have n9_ := Am_ ((by rw [hg]; exact (Bz_ (by repeat (first | (with_reducible first | exact HB.out | apply Pa_ | apply Pn_ | apply Pd_ | refine Bs_ ?_ GE420.out | refine Bs_ ?_ GE432.out) | exact HB.out))) : w.heap.size ≤ gb440)); have n10_ := Am_ ((by rw [hg]; exact Nat.ne_of_lt (blk_lt (g := gb420) (o := .cells #[.slice (some ad422) l0_0.length c0_0, .slice A0_1 l0_1.length c0_1] 25 (0, 0)) (by (with_reducible repeat (first | refine Bn_ ?_ _ | refine Bd_ ?_ | refine Ba_ ?_ _)); exact BK420.out)) : gb420 ≠ gb440)); have n11_ := Am_ ((by rw [hg]; exact Nat.ne_of_gt (blk_lt (g := gb420) (o := .cells #[.slice (some ad422) l0_0.length c0_0, .slice A0_1 l0_1.length c0_1] 25 (0, 0)) (by (with_reducible repeat (first | refine Bn_ ?_ _ | refine Bd_ ?_ | refine Ba_ ?_ _)); exact BK420.out)) : gb440 ≠ gb420)); have n12_ := Am_ ((by rw [hg]; exact Nat.ne_of_lt (blk_lt (g := gb432) (o := .cells #[.slice Ao43 t425.length co43, .slice Ao46 t428.length co46] 25 (0, 0)) (by (with_reducible repeat (first | refine Bn_ ?_ _ | refine Bd_ ?_ | refine Ba_ ?_ _)); exact BK432.out)) : gb432 ≠ gb440)); have n13_ := Am_ ((by rw [hg]; exact Nat.ne_of_gt (blk_lt (g := gb432) (o := .cells #[.slice Ao43 t425.length co43, .slice Ao46 t428.length co46] 25 (0, 0)) (by (with_reducible repeat (first | refine Bn_ ?_ _ | refine Bd_ ?_ | refine Ba_ ?_ _)); exact BK432.out)) : gb440 ≠ gb432)); clear HO427; clear HO430; clear HO435; clear HO438; clear BK420; clear BK432; clear HB; have HO427 := n0_; have HO430 := n1_; have HO435 := n2_; have HO438 := n3_; have BK420 := n4_; have BK432 := n5_; have HB := n6_; have BK440 := n7_; have GW440 := n8_; have GE440 := n9_; have NB420_440 := n10_; have NB440_420 := n11_; have NB432_440 := n12_; have NB440_432 := n13_; clear n0_ n1_ n2_ n3_ n4_ n5_ n6_ n7_ n8_ n9_ n10_ n11_ n12_ n13_; clear hb hbox hg; obtain ⟨Ao51, co51, eo51⟩ := Vx_ HO435.out; subst eo51; have hnb52 := NB440_420.out; have hnc52 := NB420_440.out; have hnb53 := NB440_432.out; have hnc53 := NB432_440.out; have hcz54_0 : w50.cell? ⟨gb440, 0, none⟩ = some (.slice none 0 0) := (Bc_ BK440.out 0).trans rfl; have hcz54_1 : w50.cell? ⟨gb440, 1, none⟩ = some (.slice none 0 0) := (Bc_ BK440.out 1).trans rfl; have hfz54_0 := Bf_ BK440.out 0; have hfz54_1 := Bf_ BK440.out 1; obtain ⟨Ao55, co55, eo55⟩ := Vx_ HO438.out; subst eo55) | ((with_reducible refine gate_store (t := 25) (p := 13) rfl ?_); refine store_event (t := 25) (p := 13) (v := ?vo_w56) (w1 := ((w50.setCell ⟨gb440, 0, none⟩ (.slice Ao51 t433.length co51)).setCell ⟨gb440, 1, none⟩ (.slice Ao55 t436.length co55))) ?hg ?ho ?hn ?hr ?_; (case ho => rfl); (case hg => rfl); (case hn => rfl); (case hr => first | (go_simp; done) | (go_simp; rfl)); intro w56 hw; have n0_ : Aside0 (Kd.V k44 44 w56 w.heap.size (fun k_ => k_ ≠ gb420 ∧ k_ ≠ gb432 ∧ k_ ≠ gb440) (.slice Ao43 t425.length co43) t425) := ⟨(by rw [hw]; exact (by (with_reducible repeat (first | apply Va_ | apply Vn_ | apply Vd_)); exact Vm_ (Vf_ (p := ⟨gb440, 1, none⟩) (Vf_ (p := ⟨gb440, 0, none⟩) (Vm_ HO427.out (fun k_ hk => (⟨hk, hk.2⟩ : _ ∧ k_ ≠ gb440))) (fun _ hk => hk.2) (.slice Ao51 t433.length co51)) (fun _ hk => hk.2) (.slice Ao55 t436.length co55)) (fun _ hk => ⟨hk.1.1.1, ⟨hk.1.1.2, hk.1.2⟩⟩)))⟩; have n1_ : Aside0 (Kd.V (Kd.slice 3 (Kd.int .i64)) 48 w56 w.heap.size (fun k_ => k_ ≠ gb420 ∧ k_ ≠ gb432 ∧ k_ ≠ gb440) (.slice Ao46 t428.length co46) t428) := ⟨(by rw [hw]; exact (by (with_reducible repeat (first | apply Va_ | apply Vn_ | apply Vd_)); exact Vm_ (Vf_ (p := ⟨gb440, 1, none⟩) (Vf_ (p := ⟨gb440, 0, none⟩) (Vm_ HO430.out (fun k_ hk => (⟨hk, hk.2⟩ : _ ∧ k_ ≠ gb440))) (fun _ hk => hk.2) (.slice Ao51 t433.length co51)) (fun _ hk => hk.2) (.slice Ao55 t436.length co55)) (fun _ hk => ⟨hk.1.1.1, ⟨hk.1.1.2, hk.1.2⟩⟩)))⟩; have n2_ : Aside0 (Kd.V k44 44 w56 w.heap.size (fun k_ => k_ ≠ gb420 ∧ k_ ≠ gb432 ∧ k_ ≠ gb440) (.slice Ao51 t433.length co51) t433) := ⟨(by rw [hw]; exact (by (with_reducible repeat (first | apply Va_ | apply Vn_ | apply Vd_)); exact Vm_ (Vf_ (p := ⟨gb440, 1, none⟩) (Vf_ (p := ⟨gb440, 0, none⟩) (Vm_ HO435.out (fun k_ hk => (⟨hk, hk.2⟩ : _ ∧ k_ ≠ gb440))) (fun _ hk => hk.2) (.slice Ao51 t433.length co51)) (fun _ hk => hk.2) (.slice Ao55 t436.length co55)) (fun _ hk => ⟨hk.1.1.1, ⟨hk.1.1.2, hk.1.2⟩⟩)))⟩; have n3_ : Aside0 (Kd.V (Kd.slice 3 (Kd.int .i64)) 48 w56 w.heap.size (fun k_ => k_ ≠ gb420 ∧ k_ ≠ gb432 ∧ k_ ≠ gb440) (.slice Ao55 t436.length co55) t436) := ⟨(by rw [hw]; exact (by (with_reducible repeat (first | apply Va_ | apply Vn_ | apply Vd_)); exact Vm_ (Vf_ (p := ⟨gb440, 1, none⟩) (Vf_ (p := ⟨gb440, 0, none⟩) (Vm_ HO438.out (fun k_ hk => (⟨hk, hk.2⟩ : _ ∧ k_ ≠ gb440))) (fun _ hk => hk.2) (.slice Ao51 t433.length co51)) (fun _ hk => hk.2) (.slice Ao55 t436.length co55)) (fun _ hk => ⟨hk.1.1.1, ⟨hk.1.1.2, hk.1.2⟩⟩)))⟩; have n4_ : Aside0 (w56.heap[gb420]? = some (.cells #[.slice (some ad422) l0_0.length c0_0, .slice A0_1 l0_1.length c0_1] 25 (0, 0))) := ⟨(by rw [hw]; exact (by (with_reducible repeat (first | refine Bn_ ?_ _ | refine Bd_ ?_ | refine Ba_ ?_ _)); refine blk_far ?_ NB420_440.out _; (with_reducible repeat (first | refine Bn_ ?_ _ | refine Bd_ ?_ | refine Ba_ ?_ _)); refine blk_far ?_ NB420_440.out _; (with_reducible repeat (first | refine Bn_ ?_ _ | refine Bd_ ?_ | refine Ba_ ?_ _)); exact BK420.out))⟩; have n5_ : Aside0 (w56.heap[gb432]? = some (.cells #[.slice Ao43 t425.length co43, .slice Ao46 t428.length co46] 25 (0, 0))) := ⟨(by rw [hw]; exact (by (with_reducible repeat (first | refine Bn_ ?_ _ | refine Bd_ ?_ | refine Ba_ ?_ _)); refine blk_far ?_ NB432_440.out _; (with_reducible repeat (first | refine Bn_ ?_ _ | refine Bd_ ?_ | refine Ba_ ?_ _)); refine blk_far ?_ NB432_440.out _; (with_reducible repeat (first | refine Bn_ ?_ _ | refine Bd_ ?_ | refine Ba_ ?_ _)); exact BK432.out))⟩; have n6_ : Aside0 (w56.heap[gb440]? = some (.cells #[.slice Ao51 t433.length co51, .slice Ao55 t436.length co55] 25 (0, 0))) := ⟨(by rw [hw]; exact (by (with_reducible repeat (first | refine Bn_ ?_ _ | refine Bd_ ?_ | refine Ba_ ?_ _)); refine Bp_ (cs := #[.slice Ao51 t433.length co51, .slice none 0 0]) ?_ 1 _ rfl; (with_reducible repeat (first | refine Bn_ ?_ _ | refine Bd_ ?_ | refine Ba_ ?_ _)); refine Bp_ (cs := #[.slice none 0 0, .slice none 0 0]) ?_ 0 _ rfl; (with_reducible repeat (first | refine Bn_ ?_ _ | refine Bd_ ?_ | refine Ba_ ?_ _)); exact BK440.out))⟩; have n7_ : Aside0 (Below w.heap.size w w56) := ⟨(by rw [hw]; exact (by repeat (first | (with_reducible first | exact HB.out | apply Pa_ | apply Pn_ | apply Pd_ | refine Bs_ ?_ GE420.out | refine Bs_ ?_ GE432.out | refine Bs_ ?_ GE440.out) | exact HB.out)))⟩; clear hw; clear HO427; clear HO430; clear HO435; clear HO438; clear BK420; clear BK432; clear BK440; clear HB; have HO427 := n0_; have HO430 := n1_; have HO435 := n2_; have HO438 := n3_; have BK420 := n4_; have BK432 := n5_; have BK440 := n6_; have HB := n7_; clear n0_ n1_ n2_ n3_ n4_ n5_ n6_ n7_; have hcz57_0 : w56.cell? ⟨gb440, 0, none⟩ = some (.slice Ao51 t433.length co51) := (Bc_ BK440.out 0).trans rfl; have hcz57_1 : w56.cell? ⟨gb440, 1, none⟩ = some (.slice Ao55 t436.length co55) := (Bc_ BK440.out 1).trans rfl; have hfz57_0 := Bf_ BK440.out 0; have hfz57_1 := Bf_ BK440.out 1) | ((with_reducible refine gate_callee (f := 11) rfl ?_); refine goesL_ (some 84) rfl rfl Try.func11 (by kernel_rfl) rfl #[.agg #[.slice Ao51 t433.length co51, .slice Ao55 t436.length co55], .int .i64 a1, .int .i64 a3] rfl (by (try simp only [List.map_toArray, List.map_cons, List.map_nil]); first | done | rfl | (simp only [List.length_drop, List.length_take]; rfl)) ?_; (with_reducible refine (flock_Lock.calls (fun k_ => (k_ ≠ gb420 ∧ (k_ ≠ gb432 ∧ k_ ≠ gb440))) _ _ t433 (fun k_ => (k_ ≠ gb420 ∧ (k_ ≠ gb432 ∧ k_ ≠ gb440))) _ _ t436 a1 a3 t441 t444 t447 _ ?side1 ?side2 A21.out).mono ?_); (case side1 => exact HO435.out); (case side2 => exact HO438.out); rintro e w58 ⟨v442, v445, rfl, ho0, ho1, hb⟩; refine ⟨_, rfl, ?_⟩; have n0_ := Am_ (Vb_ (by (with_reducible repeat (first | apply Va_ | apply Vn_ | apply Vd_)); exact HO427.out) hb); have n1_ := Am_ (Vb_ (by (with_reducible repeat (first | apply Va_ | apply Vn_ | apply Vd_)); exact HO430.out) hb); have n2_ := Am_ (Vb_ (by (with_reducible repeat (first | apply Va_ | apply Vn_ | apply Vd_)); exact HO435.out) hb); have n3_ := Am_ (Vb_ (by (with_reducible repeat (first | apply Va_ | apply Vn_ | apply Vd_)); exact HO438.out) hb); have n4_ := Am_ (Vl_ (Vm_ (ok' := fun k_ => k_ ≠ gb420 ∧ k_ ≠ gb432 ∧ k_ ≠ gb440) ho0 (fun k_ hk_ => ⟨Or.elim hk_ (fun hs_ => Or.elim hs_ (fun hs_ => hs_.1) (fun hs_ => hs_.1)) (fun hn_ => (Kd.freshB (g := gb420) (o := .cells #[.slice (some ad422) l0_0.length c0_0, .slice A0_1 l0_1.length c0_1] 25 (0, 0)) (by (with_reducible repeat (first | refine Bn_ ?_ _ | refine Bd_ ?_ | refine Ba_ ?_ _)); exact BK420.out) k_ hn_)), Or.elim hk_ (fun hs_ => Or.elim hs_ (fun hs_ => hs_.2.1) (fun hs_ => hs_.2.1)) (fun hn_ => (Kd.freshB (g := gb432) (o := .cells #[.slice Ao43 t425.length co43, .slice Ao46 t428.length co46] 25 (0, 0)) (by (with_reducible repeat (first | refine Bn_ ?_ _ | refine Bd_ ?_ | refine Ba_ ?_ _)); exact BK432.out) k_ hn_)), Or.elim hk_ (fun hs_ => Or.elim hs_ (fun hs_ => hs_.2.2) (fun hs_ => hs_.2.2)) (fun hn_ => (Kd.freshB (g := gb440) (o := .cells #[.slice Ao51 t433.length co51, .slice Ao55 t436.length co55] 25 (0, 0)) (by (with_reducible repeat (first | refine Bn_ ?_ _ | refine Bd_ ?_ | refine Ba_ ?_ _)); exact BK440.out) k_ hn_))⟩)) (Bz_ (by repeat (first | (with_reducible first | exact HB.out | apply Pa_ | apply Pn_ | apply Pd_ | refine Bs_ ?_ GE420.out | refine Bs_ ?_ GE432.out | refine Bs_ ?_ GE440.out) | exact HB.out)))); have n5_ := Am_ (Vl_ (Vm_ (ok' := fun k_ => k_ ≠ gb420 ∧ k_ ≠ gb432 ∧ k_ ≠ gb440) ho1 (fun k_ hk_ => ⟨Or.elim hk_ (fun hs_ => Or.elim hs_ (fun hs_ => hs_.1) (fun hs_ => hs_.1)) (fun hn_ => (Kd.freshB (g := gb420) (o := .cells #[.slice (some ad422) l0_0.length c0_0, .slice A0_1 l0_1.length c0_1] 25 (0, 0)) (by (with_reducible repeat (first | refine Bn_ ?_ _ | refine Bd_ ?_ | refine Ba_ ?_ _)); exact BK420.out) k_ hn_)), Or.elim hk_ (fun hs_ => Or.elim hs_ (fun hs_ => hs_.2.1) (fun hs_ => hs_.2.1)) (fun hn_ => (Kd.freshB (g := gb432) (o := .cells #[.slice Ao43 t425.length co43, .slice Ao46 t428.length co46] 25 (0, 0)) (by (with_reducible repeat (first | refine Bn_ ?_ _ | refine Bd_ ?_ | refine Ba_ ?_ _)); exact BK432.out) k_ hn_)), Or.elim hk_ (fun hs_ => Or.elim hs_ (fun hs_ => hs_.2.2) (fun hs_ => hs_.2.2)) (fun hn_ => (Kd.freshB (g := gb440) (o := .cells #[.slice Ao51 t433.length co51, .slice Ao55 t436.length co55] 25 (0, 0)) (by (with_reducible repeat (first | refine Bn_ ?_ _ | refine Bd_ ?_ | refine Ba_ ?_ _)); exact BK440.out) k_ hn_))⟩)) (Bz_ (by repeat (first | (with_reducible first | exact HB.out | apply Pa_ | apply Pn_ | apply Pd_ | refine Bs_ ?_ GE420.out | refine Bs_ ?_ GE432.out | refine Bs_ ?_ GE440.out) | exact HB.out)))); have n6_ := Am_ (Bb_ (g := gb420) (o := .cells #[.slice (some ad422) l0_0.length c0_0, .slice A0_1 l0_1.length c0_1] 25 (0, 0)) (by (with_reducible repeat (first | refine Bn_ ?_ _ | refine Bd_ ?_ | refine Ba_ ?_ _)); exact BK420.out) hb); have n7_ := Am_ (Bb_ (g := gb432) (o := .cells #[.slice Ao43 t425.length co43, .slice Ao46 t428.length co46] 25 (0, 0)) (by (with_reducible repeat (first | refine Bn_ ?_ _ | refine Bd_ ?_ | refine Ba_ ?_ _)); exact BK432.out) hb); have n8_ := Am_ (Bb_ (g := gb440) (o := .cells #[.slice Ao51 t433.length co51, .slice Ao55 t436.length co55] 25 (0, 0)) (by (with_reducible repeat (first | refine Bn_ ?_ _ | refine Bd_ ?_ | refine Ba_ ?_ _)); exact BK440.out) hb); have n9_ := Am_ (Be_ (by repeat (first | (with_reducible first | exact HB.out | apply Pa_ | apply Pn_ | apply Pd_ | refine Bs_ ?_ GE420.out | refine Bs_ ?_ GE432.out | refine Bs_ ?_ GE440.out) | exact HB.out)) hb); clear HO427; clear HO430; clear HO435; clear HO438; clear BK420; clear BK432; clear BK440; clear HB; have HO427 := n0_; have HO430 := n1_; have HO435 := n2_; have HO438 := n3_; have HO443 := n4_; have HO446 := n5_; have BK420 := n6_; have BK432 := n7_; have BK440 := n8_; have HB := n9_; clear n0_ n1_ n2_ n3_ n4_ n5_ n6_ n7_ n8_ n9_; (try clear hb); (try clear hb2); (try clear hk); (try clear hi); (try clear ho0); (try clear ho1)) | ((with_reducible refine gate_dst (N := 15) rfl ?_); (try (refine gate_guard (by rfl) ?_; dsimp only)); refine box_event ?hg (N := 15) ?hd (cs := #[.slice none 0 0, .slice none 0 0]) (t := 25) ?hr ?_; (case hd => rfl); (case hg => rfl); (case hr => first | (go_simp; done) | (go_simp; rfl)); intro gb448 hg w59 hbox hb; have n0_ := Am_ (Vb_ (Ke_ (by (with_reducible repeat (first | apply Va_ | apply Vn_ | apply Vd_)); exact HO427.out) gb448 (Nat.le_of_eq hg.symm)) hb); have n1_ := Am_ (Vb_ (Ke_ (by (with_reducible repeat (first | apply Va_ | apply Vn_ | apply Vd_)); exact HO430.out) gb448 (Nat.le_of_eq hg.symm)) hb); have n2_ := Am_ (Vb_ (Ke_ (by (with_reducible repeat (first | apply Va_ | apply Vn_ | apply Vd_)); exact HO435.out) gb448 (Nat.le_of_eq hg.symm)) hb); have n3_ := Am_ (Vb_ (Ke_ (by (with_reducible repeat (first | apply Va_ | apply Vn_ | apply Vd_)); exact HO438.out) gb448 (Nat.le_of_eq hg.symm)) hb); have n4_ := Am_ (Vb_ (Ke_ (by (with_reducible repeat (first | apply Va_ | apply Vn_ | apply Vd_)); exact HO443.out) gb448 (Nat.le_of_eq hg.symm)) hb); have n5_ := Am_ (Vb_ (Ke_ (by (with_reducible repeat (first | apply Va_ | apply Vn_ | apply Vd_)); exact HO446.out) gb448 (Nat.le_of_eq hg.symm)) hb); have n6_ := Am_ (Bb_ (g := gb420) (o := .cells #[.slice (some ad422) l0_0.length c0_0, .slice A0_1 l0_1.length c0_1] 25 (0, 0)) (by (with_reducible repeat (first | refine Bn_ ?_ _ | refine Bd_ ?_ | refine Ba_ ?_ _)); exact BK420.out) hb); have n7_ := Am_ (Bb_ (g := gb432) (o := .cells #[.slice Ao43 t425.length co43, .slice Ao46 t428.length co46] 25 (0, 0)) (by (with_reducible repeat (first | refine Bn_ ?_ _ | refine Bd_ ?_ | refine Ba_ ?_ _)); exact BK432.out) hb); have n8_ := Am_ (Bb_ (g := gb440) (o := .cells #[.slice Ao51 t433.length co51, .slice Ao55 t436.length co55] 25 (0, 0)) (by (with_reducible repeat (first | refine Bn_ ?_ _ | refine Bd_ ?_ | refine Ba_ ?_ _)); exact BK440.out) hb); have n9_ := Am_ (Be_ (by repeat (first | (with_reducible first | exact HB.out | apply Pa_ | apply Pn_ | apply Pd_ | refine Bs_ ?_ GE420.out | refine Bs_ ?_ GE432.out | refine Bs_ ?_ GE440.out) | exact HB.out)) hb); have n10_ := Am_ (hbox); have n11_ := Am_ ((by rw [hg]; exact (Bz_ (by repeat (first | (with_reducible first | exact HB.out | apply Pa_ | apply Pn_ | apply Pd_ | refine Bs_ ?_ GE420.out | refine Bs_ ?_ GE432.out | refine Bs_ ?_ GE440.out) | exact HB.out))) : w.heap.size ≤ gb448)); have n12_ := Am_ ((by rw [hg]; exact (Bz_ (by repeat (first | (with_reducible first | exact HB.out | apply Pa_ | apply Pn_ | apply Pd_ | refine Bs_ ?_ GE420.out | refine Bs_ ?_ GE432.out | refine Bs_ ?_ GE440.out) | exact HB.out))) : w.heap.size ≤ gb448)); have n13_ := Am_ ((by rw [hg]; exact Nat.ne_of_lt (blk_lt (g := gb420) (o := .cells #[.slice (some ad422) l0_0.length c0_0, .slice A0_1 l0_1.length c0_1] 25 (0, 0)) (by (with_reducible repeat (first | refine Bn_ ?_ _ | refine Bd_ ?_ | refine Ba_ ?_ _)); exact BK420.out)) : gb420 ≠ gb448)); have n14_ := Am_ ((by rw [hg]; exact Nat.ne_of_gt (blk_lt (g := gb420) (o := .cells #[.slice (some ad422) l0_0.length c0_0, .slice A0_1 l0_1.length c0_1] 25 (0, 0)) (by (with_reducible repeat (first | refine Bn_ ?_ _ | refine Bd_ ?_ | refine Ba_ ?_ _)); exact BK420.out)) : gb448 ≠ gb420)); have n15_ := Am_ ((by rw [hg]; exact Nat.ne_of_lt (blk_lt (g := gb432) (o := .cells #[.slice Ao43 t425.length co43, .slice Ao46 t428.length co46] 25 (0, 0)) (by (with_reducible repeat (first | refine Bn_ ?_ _ | refine Bd_ ?_ | refine Ba_ ?_ _)); exact BK432.out)) : gb432 ≠ gb448)); have n16_ := Am_ ((by rw [hg]; exact Nat.ne_of_gt (blk_lt (g := gb432) (o := .cells #[.slice Ao43 t425.length co43, .slice Ao46 t428.length co46] 25 (0, 0)) (by (with_reducible repeat (first | refine Bn_ ?_ _ | refine Bd_ ?_ | refine Ba_ ?_ _)); exact BK432.out)) : gb448 ≠ gb432)); have n17_ := Am_ ((by rw [hg]; exact Nat.ne_of_lt (blk_lt (g := gb440) (o := .cells #[.slice Ao51 t433.length co51, .slice Ao55 t436.length co55] 25 (0, 0)) (by (with_reducible repeat (first | refine Bn_ ?_ _ | refine Bd_ ?_ | refine Ba_ ?_ _)); exact BK440.out)) : gb440 ≠ gb448)); have n18_ := Am_ ((by rw [hg]; exact Nat.ne_of_gt (blk_lt (g := gb440) (o := .cells #[.slice Ao51 t433.length co51, .slice Ao55 t436.length co55] 25 (0, 0)) (by (with_reducible repeat (first | refine Bn_ ?_ _ | refine Bd_ ?_ | refine Ba_ ?_ _)); exact BK440.out)) : gb448 ≠ gb440)); clear HO427; clear HO430; clear HO435; clear HO438; clear HO443; clear HO446; clear BK420; clear BK432; clear BK440; clear HB; have HO427 := n0_; have HO430 := n1_; have HO435 := n2_; have HO438 := n3_; have HO443 := n4_; have HO446 := n5_; have BK420 := n6_; have BK432 := n7_; have BK440 := n8_; have HB := n9_; have BK448 := n10_; have GW448 := n11_; have GE448 := n12_; have NB420_448 := n13_; have NB448_420 := n14_; have NB432_448 := n15_; have NB448_432 := n16_; have NB440_448 := n17_; have NB448_440 := n18_; clear n0_ n1_ n2_ n3_ n4_ n5_ n6_ n7_ n8_ n9_ n10_ n11_ n12_ n13_ n14_ n15_ n16_ n17_ n18_; clear hb hbox hg; obtain ⟨Ao60, co60, eo60⟩ := Vx_ HO443.out; subst eo60; have hnb61 := NB448_420.out; have hnc61 := NB420_448.out; have hnb62 := NB448_432.out; have hnc62 := NB432_448.out; have hnb63 := NB448_440.out; have hnc63 := NB440_448.out; have hcz64_0 : w59.cell? ⟨gb448, 0, none⟩ = some (.slice none 0 0) := (Bc_ BK448.out 0).trans rfl; have hcz64_1 : w59.cell? ⟨gb448, 1, none⟩ = some (.slice none 0 0) := (Bc_ BK448.out 1).trans rfl; have hfz64_0 := Bf_ BK448.out 0; have hfz64_1 := Bf_ BK448.out 1; obtain ⟨Ao65, co65, eo65⟩ := Vx_ HO446.out; subst eo65) | ((with_reducible refine gate_store (t := 25) (p := 15) rfl ?_); refine store_event (t := 25) (p := 15) (v := ?vo_w66) (w1 := ((w59.setCell ⟨gb448, 0, none⟩ (.slice Ao60 t441.length co60)).setCell ⟨gb448, 1, none⟩ (.slice Ao65 t444.length co65))) ?hg ?ho ?hn ?hr ?_; (case ho => rfl); (case hg => rfl); (case hn => rfl); (case hr => first | (go_simp; done) | (go_simp; rfl)); intro w66 hw; have n0_ : Aside0 (Kd.V k44 44 w66 w.heap.size (fun k_ => k_ ≠ gb420 ∧ k_ ≠ gb432 ∧ k_ ≠ gb440 ∧ k_ ≠ gb448) (.slice Ao43 t425.length co43) t425) := ⟨(by rw [hw]; exact (by (with_reducible repeat (first | apply Va_ | apply Vn_ | apply Vd_)); exact Vm_ (Vf_ (p := ⟨gb448, 1, none⟩) (Vf_ (p := ⟨gb448, 0, none⟩) (Vm_ HO427.out (fun k_ hk => (⟨hk, hk.2⟩ : _ ∧ k_ ≠ gb448))) (fun _ hk => hk.2) (.slice Ao60 t441.length co60)) (fun _ hk => hk.2) (.slice Ao65 t444.length co65)) (fun _ hk => ⟨hk.1.1.1, ⟨hk.1.1.2.1, ⟨hk.1.1.2.2, hk.1.2⟩⟩⟩)))⟩; have n1_ : Aside0 (Kd.V (Kd.slice 3 (Kd.int .i64)) 48 w66 w.heap.size (fun k_ => k_ ≠ gb420 ∧ k_ ≠ gb432 ∧ k_ ≠ gb440 ∧ k_ ≠ gb448) (.slice Ao46 t428.length co46) t428) := ⟨(by rw [hw]; exact (by (with_reducible repeat (first | apply Va_ | apply Vn_ | apply Vd_)); exact Vm_ (Vf_ (p := ⟨gb448, 1, none⟩) (Vf_ (p := ⟨gb448, 0, none⟩) (Vm_ HO430.out (fun k_ hk => (⟨hk, hk.2⟩ : _ ∧ k_ ≠ gb448))) (fun _ hk => hk.2) (.slice Ao60 t441.length co60)) (fun _ hk => hk.2) (.slice Ao65 t444.length co65)) (fun _ hk => ⟨hk.1.1.1, ⟨hk.1.1.2.1, ⟨hk.1.1.2.2, hk.1.2⟩⟩⟩)))⟩; have n2_ : Aside0 (Kd.V k44 44 w66 w.heap.size (fun k_ => k_ ≠ gb420 ∧ k_ ≠ gb432 ∧ k_ ≠ gb440 ∧ k_ ≠ gb448) (.slice Ao51 t433.length co51) t433) := ⟨(by rw [hw]; exact (by (with_reducible repeat (first | apply Va_ | apply Vn_ | apply Vd_)); exact Vm_ (Vf_ (p := ⟨gb448, 1, none⟩) (Vf_ (p := ⟨gb448, 0, none⟩) (Vm_ HO435.out (fun k_ hk => (⟨hk, hk.2⟩ : _ ∧ k_ ≠ gb448))) (fun _ hk => hk.2) (.slice Ao60 t441.length co60)) (fun _ hk => hk.2) (.slice Ao65 t444.length co65)) (fun _ hk => ⟨hk.1.1.1, ⟨hk.1.1.2.1, ⟨hk.1.1.2.2, hk.1.2⟩⟩⟩)))⟩; have n3_ : Aside0 (Kd.V (Kd.slice 3 (Kd.int .i64)) 48 w66 w.heap.size (fun k_ => k_ ≠ gb420 ∧ k_ ≠ gb432 ∧ k_ ≠ gb440 ∧ k_ ≠ gb448) (.slice Ao55 t436.length co55) t436) := ⟨(by rw [hw]; exact (by (with_reducible repeat (first | apply Va_ | apply Vn_ | apply Vd_)); exact Vm_ (Vf_ (p := ⟨gb448, 1, none⟩) (Vf_ (p := ⟨gb448, 0, none⟩) (Vm_ HO438.out (fun k_ hk => (⟨hk, hk.2⟩ : _ ∧ k_ ≠ gb448))) (fun _ hk => hk.2) (.slice Ao60 t441.length co60)) (fun _ hk => hk.2) (.slice Ao65 t444.length co65)) (fun _ hk => ⟨hk.1.1.1, ⟨hk.1.1.2.1, ⟨hk.1.1.2.2, hk.1.2⟩⟩⟩)))⟩; have n4_ : Aside0 (Kd.V k44 44 w66 w.heap.size (fun k_ => k_ ≠ gb420 ∧ k_ ≠ gb432 ∧ k_ ≠ gb440 ∧ k_ ≠ gb448) (.slice Ao60 t441.length co60) t441) := ⟨(by rw [hw]; exact (by (with_reducible repeat (first | apply Va_ | apply Vn_ | apply Vd_)); exact Vm_ (Vf_ (p := ⟨gb448, 1, none⟩) (Vf_ (p := ⟨gb448, 0, none⟩) (Vm_ HO443.out (fun k_ hk => (⟨hk, hk.2⟩ : _ ∧ k_ ≠ gb448))) (fun _ hk => hk.2) (.slice Ao60 t441.length co60)) (fun _ hk => hk.2) (.slice Ao65 t444.length co65)) (fun _ hk => ⟨hk.1.1.1, ⟨hk.1.1.2.1, ⟨hk.1.1.2.2, hk.1.2⟩⟩⟩)))⟩; have n5_ : Aside0 (Kd.V (Kd.slice 3 (Kd.int .i64)) 48 w66 w.heap.size (fun k_ => k_ ≠ gb420 ∧ k_ ≠ gb432 ∧ k_ ≠ gb440 ∧ k_ ≠ gb448) (.slice Ao65 t444.length co65) t444) := ⟨(by rw [hw]; exact (by (with_reducible repeat (first | apply Va_ | apply Vn_ | apply Vd_)); exact Vm_ (Vf_ (p := ⟨gb448, 1, none⟩) (Vf_ (p := ⟨gb448, 0, none⟩) (Vm_ HO446.out (fun k_ hk => (⟨hk, hk.2⟩ : _ ∧ k_ ≠ gb448))) (fun _ hk => hk.2) (.slice Ao60 t441.length co60)) (fun _ hk => hk.2) (.slice Ao65 t444.length co65)) (fun _ hk => ⟨hk.1.1.1, ⟨hk.1.1.2.1, ⟨hk.1.1.2.2, hk.1.2⟩⟩⟩)))⟩; have n6_ : Aside0 (w66.heap[gb420]? = some (.cells #[.slice (some ad422) l0_0.length c0_0, .slice A0_1 l0_1.length c0_1] 25 (0, 0))) := ⟨(by rw [hw]; exact (by (with_reducible repeat (first | refine Bn_ ?_ _ | refine Bd_ ?_ | refine Ba_ ?_ _)); refine blk_far ?_ NB420_448.out _; (with_reducible repeat (first | refine Bn_ ?_ _ | refine Bd_ ?_ | refine Ba_ ?_ _)); refine blk_far ?_ NB420_448.out _; (with_reducible repeat (first | refine Bn_ ?_ _ | refine Bd_ ?_ | refine Ba_ ?_ _)); exact BK420.out))⟩; have n7_ : Aside0 (w66.heap[gb432]? = some (.cells #[.slice Ao43 t425.length co43, .slice Ao46 t428.length co46] 25 (0, 0))) := ⟨(by rw [hw]; exact (by (with_reducible repeat (first | refine Bn_ ?_ _ | refine Bd_ ?_ | refine Ba_ ?_ _)); refine blk_far ?_ NB432_448.out _; (with_reducible repeat (first | refine Bn_ ?_ _ | refine Bd_ ?_ | refine Ba_ ?_ _)); refine blk_far ?_ NB432_448.out _; (with_reducible repeat (first | refine Bn_ ?_ _ | refine Bd_ ?_ | refine Ba_ ?_ _)); exact BK432.out))⟩; have n8_ : Aside0 (w66.heap[gb440]? = some (.cells #[.slice Ao51 t433.length co51, .slice Ao55 t436.length co55] 25 (0, 0))) := ⟨(by rw [hw]; exact (by (with_reducible repeat (first | refine Bn_ ?_ _ | refine Bd_ ?_ | refine Ba_ ?_ _)); refine blk_far ?_ NB440_448.out _; (with_reducible repeat (first | refine Bn_ ?_ _ | refine Bd_ ?_ | refine Ba_ ?_ _)); refine blk_far ?_ NB440_448.out _; (with_reducible repeat (first | refine Bn_ ?_ _ | refine Bd_ ?_ | refine Ba_ ?_ _)); exact BK440.out))⟩; have n9_ : Aside0 (w66.heap[gb448]? = some (.cells #[.slice Ao60 t441.length co60, .slice Ao65 t444.length co65] 25 (0, 0))) := ⟨(by rw [hw]; exact (by (with_reducible repeat (first | refine Bn_ ?_ _ | refine Bd_ ?_ | refine Ba_ ?_ _)); refine Bp_ (cs := #[.slice Ao60 t441.length co60, .slice none 0 0]) ?_ 1 _ rfl; (with_reducible repeat (first | refine Bn_ ?_ _ | refine Bd_ ?_ | refine Ba_ ?_ _)); refine Bp_ (cs := #[.slice none 0 0, .slice none 0 0]) ?_ 0 _ rfl; (with_reducible repeat (first | refine Bn_ ?_ _ | refine Bd_ ?_ | refine Ba_ ?_ _)); exact BK448.out))⟩; have n10_ : Aside0 (Below w.heap.size w w66) := ⟨(by rw [hw]; exact (by repeat (first | (with_reducible first | exact HB.out | apply Pa_ | apply Pn_ | apply Pd_ | refine Bs_ ?_ GE420.out | refine Bs_ ?_ GE432.out | refine Bs_ ?_ GE440.out | refine Bs_ ?_ GE448.out) | exact HB.out)))⟩; clear hw; clear HO427; clear HO430; clear HO435; clear HO438; clear HO443; clear HO446; clear BK420; clear BK432; clear BK440; clear BK448; clear HB; have HO427 := n0_; have HO430 := n1_; have HO435 := n2_; have HO438 := n3_; have HO443 := n4_; have HO446 := n5_; have BK420 := n6_; have BK432 := n7_; have BK440 := n8_; have BK448 := n9_; have HB := n10_; clear n0_ n1_ n2_ n3_ n4_ n5_ n6_ n7_ n8_ n9_ n10_; have hcz67_0 : w66.cell? ⟨gb420, 0, none⟩ = some (.slice (some ad422) l0_0.length c0_0) := (Bc_ BK420.out 0).trans rfl; have hcz67_1 : w66.cell? ⟨gb420, 1, none⟩ = some (.slice A0_1 l0_1.length c0_1) := (Bc_ BK420.out 1).trans rfl; have hfz67_0 := Bf_ BK420.out 0; have hfz67_1 := Bf_ BK420.out 1; have p449 : 0 ≤ (a1 : Int) := Ot_ (by first | (with_reducible assumption) | assumption); have q449 : a1 < (l0_0.length : Int) := Ot_ (by first | (with_reducible assumption) | assumption); obtain ⟨ad449, e449, hx449_0, hx449_1, hx449_2, hx449_3, hx449_4, hx449_5⟩ := at_T44 HR0_0.out a1 p449 q449; obtain rfl : ad422 = ad449 := (by injection e449); replace hx449_0 := (HB.out.cell (Bl_ w _ hx449_0)).trans hx449_0; replace hx449_1 := (HB.out.cell (Bl_ w _ hx449_1)).trans hx449_1; replace hx449_2 := (HB.out.cell (Bl_ w _ hx449_2)).trans hx449_2; replace hx449_3 := (HB.out.cell (Bl_ w _ hx449_3)).trans hx449_3; replace hx449_4 := (HB.out.cell (Bl_ w _ hx449_4)).trans hx449_4; replace hx449_5 := (HB.out.cell (Bl_ w _ hx449_5)).trans hx449_5; replace p449 := eq_true p449; replace q449 := eq_true q449; have p450 : 0 ≤ (a1 : Int) := Ot_ (by first | (with_reducible assumption) | assumption); have q450 : a1 < (l0_0.length : Int) := Ot_ (by first | (with_reducible assumption) | assumption); obtain ⟨ad450, e450, hx450_0, hx450_1, hx450_2, hx450_3, hx450_4, hx450_5⟩ := at_T44 HR0_0.out a1 p450 q450; obtain rfl : ad422 = ad450 := (by injection e450); replace hx450_0 := (HB.out.cell (Bl_ w _ hx450_0)).trans hx450_0; replace hx450_1 := (HB.out.cell (Bl_ w _ hx450_1)).trans hx450_1; replace hx450_2 := (HB.out.cell (Bl_ w _ hx450_2)).trans hx450_2; replace hx450_3 := (HB.out.cell (Bl_ w _ hx450_3)).trans hx450_3; replace hx450_4 := (HB.out.cell (Bl_ w _ hx450_4)).trans hx450_4; replace hx450_5 := (HB.out.cell (Bl_ w _ hx450_5)).trans hx450_5; replace p450 := eq_true p450; replace q450 := eq_true q450; have p451 : 0 ≤ (a1 : Int) := Ot_ (by first | (with_reducible assumption) | assumption); have q451 : a1 < (l0_0.length : Int) := Ot_ (by first | (with_reducible assumption) | assumption); obtain ⟨ad451, e451, hx451_0, hx451_1, hx451_2, hx451_3, hx451_4, hx451_5⟩ := at_T44 HR0_0.out a1 p451 q451; obtain rfl : ad422 = ad451 := (by injection e451); replace hx451_0 := (HB.out.cell (Bl_ w _ hx451_0)).trans hx451_0; replace hx451_1 := (HB.out.cell (Bl_ w _ hx451_1)).trans hx451_1; replace hx451_2 := (HB.out.cell (Bl_ w _ hx451_2)).trans hx451_2; replace hx451_3 := (HB.out.cell (Bl_ w _ hx451_3)).trans hx451_3; replace hx451_4 := (HB.out.cell (Bl_ w _ hx451_4)).trans hx451_4; replace hx451_5 := (HB.out.cell (Bl_ w _ hx451_5)).trans hx451_5; replace p451 := eq_true p451; replace q451 := eq_true q451) | (go_at_call 13; (with_reducible refine (flagstonelaw11_its.calls k _ _ l0_0 (fun k_ => k_ < w.heap.size) _ _ l0_1 t452 t455 _ ?side1 ?side2 ?side3 A26.out).mono ?_); (case side1 => repeat (first | exact (Kd.C_below HR0_0.out HB.out) | (with_reducible refine Kd.C_alloc ?_ _) | (with_reducible refine Kd.C_drewN ?_ _) | (with_reducible refine Kd.C_drew ?_))); (case side2 => exact HC0_0.out); (case side3 => exact Kd.V_mk HC0_1.out (Kd.F_below (Kd.C_F (Kd.heap_slice 3 (Kd.heap_int .i64)) HR0_1.out) (by repeat (first | (with_reducible first | exact HB.out | apply Pa_ | apply Pn_ | apply Pd_ | refine Bs_ ?_ GE420.out | refine Bs_ ?_ GE432.out | refine Bs_ ?_ GE440.out | refine Bs_ ?_ GE448.out) | exact HB.out)))); rintro e w68 ⟨v453, v456, rfl, ho0, ho1, hb⟩; have n0_ := Am_ (Kd.V_elder' (by (with_reducible repeat (first | apply Va_ | apply Vn_ | apply Vd_)); exact HO427.out) (Kd.R_base ho0) hb); have n1_ := Am_ (Kd.V_elder' (by (with_reducible repeat (first | apply Va_ | apply Vn_ | apply Vd_)); exact HO430.out) (Kd.R_base ho0) hb); have n2_ := Am_ (Kd.V_elder' (by (with_reducible repeat (first | apply Va_ | apply Vn_ | apply Vd_)); exact HO435.out) (Kd.R_base ho0) hb); have n3_ := Am_ (Kd.V_elder' (by (with_reducible repeat (first | apply Va_ | apply Vn_ | apply Vd_)); exact HO438.out) (Kd.R_base ho0) hb); have n4_ := Am_ (Kd.V_elder' (by (with_reducible repeat (first | apply Va_ | apply Vn_ | apply Vd_)); exact HO443.out) (Kd.R_base ho0) hb); have n5_ := Am_ (Kd.V_elder' (by (with_reducible repeat (first | apply Va_ | apply Vn_ | apply Vd_)); exact HO446.out) (Kd.R_base ho0) hb); have n6_ := Am_ (Kd.R_lower (Kd.R_mono (ok' := fun k_ => True) ho0 (fun _ hk_ => trivial)) (Bz_ (by repeat (first | (with_reducible first | exact HB.out | apply Pa_ | apply Pn_ | apply Pd_ | refine Bs_ ?_ GE420.out | refine Bs_ ?_ GE432.out | refine Bs_ ?_ GE440.out | refine Bs_ ?_ GE448.out) | exact HB.out)))); have n7_ := Am_ (Vl_ (Vm_ (ok' := fun k_ => some k_ ≠ (v453 : Value).ownBlock ∧ k_ ≠ gb420 ∧ k_ ≠ gb432 ∧ k_ ≠ gb440 ∧ k_ ≠ gb448) ho1 (fun k_ hk_ => ⟨hk_.2, Or.elim hk_.1 (fun hs_ => fun e_ => Nat.not_le.2 hs_ (by rw [e_]; exact GW420.out)) (fun hn_ => (Kd.freshB (g := gb420) (o := .cells #[.slice (some ad422) l0_0.length c0_0, .slice A0_1 l0_1.length c0_1] 25 (0, 0)) (by (with_reducible repeat (first | refine Bn_ ?_ _ | refine Bd_ ?_ | refine Ba_ ?_ _)); exact BK420.out) k_ hn_)), Or.elim hk_.1 (fun hs_ => fun e_ => Nat.not_le.2 hs_ (by rw [e_]; exact GW432.out)) (fun hn_ => (Kd.freshB (g := gb432) (o := .cells #[.slice Ao43 t425.length co43, .slice Ao46 t428.length co46] 25 (0, 0)) (by (with_reducible repeat (first | refine Bn_ ?_ _ | refine Bd_ ?_ | refine Ba_ ?_ _)); exact BK432.out) k_ hn_)), Or.elim hk_.1 (fun hs_ => fun e_ => Nat.not_le.2 hs_ (by rw [e_]; exact GW440.out)) (fun hn_ => (Kd.freshB (g := gb440) (o := .cells #[.slice Ao51 t433.length co51, .slice Ao55 t436.length co55] 25 (0, 0)) (by (with_reducible repeat (first | refine Bn_ ?_ _ | refine Bd_ ?_ | refine Ba_ ?_ _)); exact BK440.out) k_ hn_)), Or.elim hk_.1 (fun hs_ => fun e_ => Nat.not_le.2 hs_ (by rw [e_]; exact GW448.out)) (fun hn_ => (Kd.freshB (g := gb448) (o := .cells #[.slice Ao60 t441.length co60, .slice Ao65 t444.length co65] 25 (0, 0)) (by (with_reducible repeat (first | refine Bn_ ?_ _ | refine Bd_ ?_ | refine Ba_ ?_ _)); exact BK448.out) k_ hn_))⟩)) (Bz_ (by repeat (first | (with_reducible first | exact HB.out | apply Pa_ | apply Pn_ | apply Pd_ | refine Bs_ ?_ GE420.out | refine Bs_ ?_ GE432.out | refine Bs_ ?_ GE440.out | refine Bs_ ?_ GE448.out) | exact HB.out)))); have n8_ := Am_ (Bb_ (g := gb420) (o := .cells #[.slice (some ad422) l0_0.length c0_0, .slice A0_1 l0_1.length c0_1] 25 (0, 0)) (by (with_reducible repeat (first | refine Bn_ ?_ _ | refine Bd_ ?_ | refine Ba_ ?_ _)); exact BK420.out) hb); have n9_ := Am_ (Bb_ (g := gb432) (o := .cells #[.slice Ao43 t425.length co43, .slice Ao46 t428.length co46] 25 (0, 0)) (by (with_reducible repeat (first | refine Bn_ ?_ _ | refine Bd_ ?_ | refine Ba_ ?_ _)); exact BK432.out) hb); have n10_ := Am_ (Bb_ (g := gb440) (o := .cells #[.slice Ao51 t433.length co51, .slice Ao55 t436.length co55] 25 (0, 0)) (by (with_reducible repeat (first | refine Bn_ ?_ _ | refine Bd_ ?_ | refine Ba_ ?_ _)); exact BK440.out) hb); have n11_ := Am_ (Bb_ (g := gb448) (o := .cells #[.slice Ao60 t441.length co60, .slice Ao65 t444.length co65] 25 (0, 0)) (by (with_reducible repeat (first | refine Bn_ ?_ _ | refine Bd_ ?_ | refine Ba_ ?_ _)); exact BK448.out) hb); have n12_ := Am_ (Be_ (by repeat (first | (with_reducible first | exact HB.out | apply Pa_ | apply Pn_ | apply Pd_ | refine Bs_ ?_ GE420.out | refine Bs_ ?_ GE432.out | refine Bs_ ?_ GE440.out | refine Bs_ ?_ GE448.out) | exact HB.out)) hb); clear HO427; clear HO430; clear HO435; clear HO438; clear HO443; clear HO446; clear BK420; clear BK432; clear BK440; clear BK448; clear HB; have HO427 := n0_; have HO430 := n1_; have HO435 := n2_; have HO438 := n3_; have HO443 := n4_; have HO446 := n5_; have HO454 := n6_; have HO457 := n7_; have BK420 := n8_; have BK432 := n9_; have BK440 := n10_; have BK448 := n11_; have HB := n12_; clear n0_ n1_ n2_ n3_ n4_ n5_ n6_ n7_ n8_ n9_ n10_ n11_ n12_; (try clear hb); (try clear hb2); (try clear hk); (try clear hi); (try clear ho0); (try clear ho1); obtain ⟨Ao69, co69, eo69⟩ := Kd.R_slice HO454.out; subst eo69; obtain ⟨Ao70, co70, eo70⟩ := Vx_ HO457.out; subst eo70) | (go_at_call 18; (with_reducible refine (flagstoneref11_Fair.calls k _ _ t452 _ _ t455 true _ ?side1 ?side2 ?side3 ?side4 A27.out).mono ?_); (case side1 => repeat (first | exact (Kd.R_reads' HO454.out).2.2 | (with_reducible refine Kd.C_alloc ?_ _) | (with_reducible refine Kd.C_drewN ?_ _) | (with_reducible refine Kd.C_drew ?_))); (case side2 => exact (Kd.R_reads' HO454.out).2.1); (case side3 => repeat (first | exact (Vr_ HO457.out).2.2 | (with_reducible refine Kd.C_alloc ?_ _) | (with_reducible refine Kd.C_drewN ?_ _) | (with_reducible refine Kd.C_drew ?_))); (case side4 => exact (Vr_ HO457.out).2.1); rintro e w71 ⟨rfl, hb⟩; have n0_ := Am_ (Vb_ (by (with_reducible repeat (first | apply Va_ | apply Vn_ | apply Vd_)); exact HO427.out) hb); have n1_ := Am_ (Vb_ (by (with_reducible repeat (first | apply Va_ | apply Vn_ | apply Vd_)); exact HO430.out) hb); have n2_ := Am_ (Vb_ (by (with_reducible repeat (first | apply Va_ | apply Vn_ | apply Vd_)); exact HO435.out) hb); have n3_ := Am_ (Vb_ (by (with_reducible repeat (first | apply Va_ | apply Vn_ | apply Vd_)); exact HO438.out) hb); have n4_ := Am_ (Vb_ (by (with_reducible repeat (first | apply Va_ | apply Vn_ | apply Vd_)); exact HO443.out) hb); have n5_ := Am_ (Vb_ (by (with_reducible repeat (first | apply Va_ | apply Vn_ | apply Vd_)); exact HO446.out) hb); have n6_ := Am_ (Rb_ (by (with_reducible repeat (first | apply Ra_ | apply Rn_ | apply Rd_)); exact HO454.out) hb); have n7_ := Am_ (Vb_ (by (with_reducible repeat (first | apply Va_ | apply Vn_ | apply Vd_)); exact HO457.out) hb); have n8_ := Am_ (Bb_ (g := gb420) (o := .cells #[.slice (some ad422) l0_0.length c0_0, .slice A0_1 l0_1.length c0_1] 25 (0, 0)) (by (with_reducible repeat (first | refine Bn_ ?_ _ | refine Bd_ ?_ | refine Ba_ ?_ _)); exact BK420.out) hb); have n9_ := Am_ (Bb_ (g := gb432) (o := .cells #[.slice Ao43 t425.length co43, .slice Ao46 t428.length co46] 25 (0, 0)) (by (with_reducible repeat (first | refine Bn_ ?_ _ | refine Bd_ ?_ | refine Ba_ ?_ _)); exact BK432.out) hb); have n10_ := Am_ (Bb_ (g := gb440) (o := .cells #[.slice Ao51 t433.length co51, .slice Ao55 t436.length co55] 25 (0, 0)) (by (with_reducible repeat (first | refine Bn_ ?_ _ | refine Bd_ ?_ | refine Ba_ ?_ _)); exact BK440.out) hb); have n11_ := Am_ (Bb_ (g := gb448) (o := .cells #[.slice Ao60 t441.length co60, .slice Ao65 t444.length co65] 25 (0, 0)) (by (with_reducible repeat (first | refine Bn_ ?_ _ | refine Bd_ ?_ | refine Ba_ ?_ _)); exact BK448.out) hb); have n12_ := Am_ (Be_ (by repeat (first | (with_reducible first | exact HB.out | apply Pa_ | apply Pn_ | apply Pd_ | refine Bs_ ?_ GE420.out | refine Bs_ ?_ GE432.out | refine Bs_ ?_ GE440.out | refine Bs_ ?_ GE448.out) | exact HB.out)) hb); clear HO427; clear HO430; clear HO435; clear HO438; clear HO443; clear HO446; clear HO454; clear HO457; clear BK420; clear BK432; clear BK440; clear BK448; clear HB; have HO427 := n0_; have HO430 := n1_; have HO435 := n2_; have HO438 := n3_; have HO443 := n4_; have HO446 := n5_; have HO454 := n6_; have HO457 := n7_; have BK420 := n8_; have BK432 := n9_; have BK440 := n10_; have BK448 := n11_; have HB := n12_; clear n0_ n1_ n2_ n3_ n4_ n5_ n6_ n7_ n8_ n9_ n10_ n11_ n12_; (try clear hb); (try clear hb2); (try clear hk); (try clear hi); have hcz72_0 : w71.cell? ⟨gb420, 0, none⟩ = some (.slice (some ad422) l0_0.length c0_0) := (Bc_ BK420.out 0).trans rfl; have hcz72_1 : w71.cell? ⟨gb420, 1, none⟩ = some (.slice A0_1 l0_1.length c0_1) := (Bc_ BK420.out 1).trans rfl; have hfz72_0 := Bf_ BK420.out 0; have hfz72_1 := Bf_ BK420.out 1) | ((with_reducible refine gate_callee (f := 11) rfl ?_); refine goesL_ (some 124) rfl rfl Try.func11 (by kernel_rfl) rfl #[.agg #[.slice (some ad422) l0_0.length c0_0, .slice A0_1 l0_1.length c0_1], .int .i64 a1, .int .i64 0] rfl (by (try simp only [List.map_toArray, List.map_cons, List.map_nil]); first | done | rfl | (simp only [List.length_drop, List.length_take]; rfl)) ?_; (with_reducible refine (flock_Lock.calls (fun k_ => k_ < w.heap.size) _ _ l0_0 (fun k_ => k_ < w.heap.size) _ _ l0_1 a1 0 t459 t462 t465 _ ?side1 ?side2 A29.out).mono ?_); (case side1 => exact Kd.V_mk HC0_0.out (Kd.F_below (Kd.C_F k44_heap HR0_0.out) (by repeat (first | (with_reducible first | exact HB.out | apply Pa_ | apply Pn_ | apply Pd_ | refine Bs_ ?_ GE420.out | refine Bs_ ?_ GE432.out | refine Bs_ ?_ GE440.out | refine Bs_ ?_ GE448.out) | exact HB.out)))); (case side2 => exact Kd.V_mk HC0_1.out (Kd.F_below (Kd.C_F (Kd.heap_slice 3 (Kd.heap_int .i64)) HR0_1.out) (by repeat (first | (with_reducible first | exact HB.out | apply Pa_ | apply Pn_ | apply Pd_ | refine Bs_ ?_ GE420.out | refine Bs_ ?_ GE432.out | refine Bs_ ?_ GE440.out | refine Bs_ ?_ GE448.out) | exact HB.out)))); rintro e w73 ⟨v460, v463, rfl, ho0, ho1, hb⟩; refine ⟨_, rfl, ?_⟩; have n0_ := Am_ (Vb_ (by (with_reducible repeat (first | apply Va_ | apply Vn_ | apply Vd_)); exact HO427.out) hb); have n1_ := Am_ (Vb_ (by (with_reducible repeat (first | apply Va_ | apply Vn_ | apply Vd_)); exact HO430.out) hb); have n2_ := Am_ (Vb_ (by (with_reducible repeat (first | apply Va_ | apply Vn_ | apply Vd_)); exact HO435.out) hb); have n3_ := Am_ (Vb_ (by (with_reducible repeat (first | apply Va_ | apply Vn_ | apply Vd_)); exact HO438.out) hb); have n4_ := Am_ (Vb_ (by (with_reducible repeat (first | apply Va_ | apply Vn_ | apply Vd_)); exact HO443.out) hb); have n5_ := Am_ (Vb_ (by (with_reducible repeat (first | apply Va_ | apply Vn_ | apply Vd_)); exact HO446.out) hb); have n6_ := Am_ (Rb_ (by (with_reducible repeat (first | apply Ra_ | apply Rn_ | apply Rd_)); exact HO454.out) hb); have n7_ := Am_ (Vb_ (by (with_reducible repeat (first | apply Va_ | apply Vn_ | apply Vd_)); exact HO457.out) hb); have n8_ := Am_ (Vl_ (Vm_ (ok' := fun k_ => some k_ ≠ (.slice Ao69 t452.length co69 : Value).ownBlock ∧ k_ ≠ gb420 ∧ k_ ≠ gb432 ∧ k_ ≠ gb440 ∧ k_ ≠ gb448) ho0 (fun k_ hk_ => ⟨Or.elim hk_ (fun hs_ => Or.elim hs_ (fun hs_ => fun e_ => Nat.not_le.2 hs_ (Kd.R_base HO454.out k_ e_.symm)) (fun hs_ => fun e_ => Nat.not_le.2 hs_ (Kd.R_base HO454.out k_ e_.symm))) (fun hn_ => (Kd.fresh' (Kd.R_lt (by (with_reducible repeat (first | apply Ra_ | apply Rn_ | apply Rd_)); exact HO454.out)) k_ hn_)), Or.elim hk_ (fun hs_ => Or.elim hs_ (fun hs_ => fun e_ => Nat.not_le.2 hs_ (by rw [e_]; exact GW420.out)) (fun hs_ => fun e_ => Nat.not_le.2 hs_ (by rw [e_]; exact GW420.out))) (fun hn_ => (Kd.freshB (g := gb420) (o := .cells #[.slice (some ad422) l0_0.length c0_0, .slice A0_1 l0_1.length c0_1] 25 (0, 0)) (by (with_reducible repeat (first | refine Bn_ ?_ _ | refine Bd_ ?_ | refine Ba_ ?_ _)); exact BK420.out) k_ hn_)), Or.elim hk_ (fun hs_ => Or.elim hs_ (fun hs_ => fun e_ => Nat.not_le.2 hs_ (by rw [e_]; exact GW432.out)) (fun hs_ => fun e_ => Nat.not_le.2 hs_ (by rw [e_]; exact GW432.out))) (fun hn_ => (Kd.freshB (g := gb432) (o := .cells #[.slice Ao43 t425.length co43, .slice Ao46 t428.length co46] 25 (0, 0)) (by (with_reducible repeat (first | refine Bn_ ?_ _ | refine Bd_ ?_ | refine Ba_ ?_ _)); exact BK432.out) k_ hn_)), Or.elim hk_ (fun hs_ => Or.elim hs_ (fun hs_ => fun e_ => Nat.not_le.2 hs_ (by rw [e_]; exact GW440.out)) (fun hs_ => fun e_ => Nat.not_le.2 hs_ (by rw [e_]; exact GW440.out))) (fun hn_ => (Kd.freshB (g := gb440) (o := .cells #[.slice Ao51 t433.length co51, .slice Ao55 t436.length co55] 25 (0, 0)) (by (with_reducible repeat (first | refine Bn_ ?_ _ | refine Bd_ ?_ | refine Ba_ ?_ _)); exact BK440.out) k_ hn_)), Or.elim hk_ (fun hs_ => Or.elim hs_ (fun hs_ => fun e_ => Nat.not_le.2 hs_ (by rw [e_]; exact GW448.out)) (fun hs_ => fun e_ => Nat.not_le.2 hs_ (by rw [e_]; exact GW448.out))) (fun hn_ => (Kd.freshB (g := gb448) (o := .cells #[.slice Ao60 t441.length co60, .slice Ao65 t444.length co65] 25 (0, 0)) (by (with_reducible repeat (first | refine Bn_ ?_ _ | refine Bd_ ?_ | refine Ba_ ?_ _)); exact BK448.out) k_ hn_))⟩)) (Bz_ (by repeat (first | (with_reducible first | exact HB.out | apply Pa_ | apply Pn_ | apply Pd_ | refine Bs_ ?_ GE420.out | refine Bs_ ?_ GE432.out | refine Bs_ ?_ GE440.out | refine Bs_ ?_ GE448.out) | exact HB.out)))); have n9_ := Am_ (Vl_ (Vm_ (ok' := fun k_ => some k_ ≠ (.slice Ao69 t452.length co69 : Value).ownBlock ∧ k_ ≠ gb420 ∧ k_ ≠ gb432 ∧ k_ ≠ gb440 ∧ k_ ≠ gb448) ho1 (fun k_ hk_ => ⟨Or.elim hk_ (fun hs_ => Or.elim hs_ (fun hs_ => fun e_ => Nat.not_le.2 hs_ (Kd.R_base HO454.out k_ e_.symm)) (fun hs_ => fun e_ => Nat.not_le.2 hs_ (Kd.R_base HO454.out k_ e_.symm))) (fun hn_ => (Kd.fresh' (Kd.R_lt (by (with_reducible repeat (first | apply Ra_ | apply Rn_ | apply Rd_)); exact HO454.out)) k_ hn_)), Or.elim hk_ (fun hs_ => Or.elim hs_ (fun hs_ => fun e_ => Nat.not_le.2 hs_ (by rw [e_]; exact GW420.out)) (fun hs_ => fun e_ => Nat.not_le.2 hs_ (by rw [e_]; exact GW420.out))) (fun hn_ => (Kd.freshB (g := gb420) (o := .cells #[.slice (some ad422) l0_0.length c0_0, .slice A0_1 l0_1.length c0_1] 25 (0, 0)) (by (with_reducible repeat (first | refine Bn_ ?_ _ | refine Bd_ ?_ | refine Ba_ ?_ _)); exact BK420.out) k_ hn_)), Or.elim hk_ (fun hs_ => Or.elim hs_ (fun hs_ => fun e_ => Nat.not_le.2 hs_ (by rw [e_]; exact GW432.out)) (fun hs_ => fun e_ => Nat.not_le.2 hs_ (by rw [e_]; exact GW432.out))) (fun hn_ => (Kd.freshB (g := gb432) (o := .cells #[.slice Ao43 t425.length co43, .slice Ao46 t428.length co46] 25 (0, 0)) (by (with_reducible repeat (first | refine Bn_ ?_ _ | refine Bd_ ?_ | refine Ba_ ?_ _)); exact BK432.out) k_ hn_)), Or.elim hk_ (fun hs_ => Or.elim hs_ (fun hs_ => fun e_ => Nat.not_le.2 hs_ (by rw [e_]; exact GW440.out)) (fun hs_ => fun e_ => Nat.not_le.2 hs_ (by rw [e_]; exact GW440.out))) (fun hn_ => (Kd.freshB (g := gb440) (o := .cells #[.slice Ao51 t433.length co51, .slice Ao55 t436.length co55] 25 (0, 0)) (by (with_reducible repeat (first | refine Bn_ ?_ _ | refine Bd_ ?_ | refine Ba_ ?_ _)); exact BK440.out) k_ hn_)), Or.elim hk_ (fun hs_ => Or.elim hs_ (fun hs_ => fun e_ => Nat.not_le.2 hs_ (by rw [e_]; exact GW448.out)) (fun hs_ => fun e_ => Nat.not_le.2 hs_ (by rw [e_]; exact GW448.out))) (fun hn_ => (Kd.freshB (g := gb448) (o := .cells #[.slice Ao60 t441.length co60, .slice Ao65 t444.length co65] 25 (0, 0)) (by (with_reducible repeat (first | refine Bn_ ?_ _ | refine Bd_ ?_ | refine Ba_ ?_ _)); exact BK448.out) k_ hn_))⟩)) (Bz_ (by repeat (first | (with_reducible first | exact HB.out | apply Pa_ | apply Pn_ | apply Pd_ | refine Bs_ ?_ GE420.out | refine Bs_ ?_ GE432.out | refine Bs_ ?_ GE440.out | refine Bs_ ?_ GE448.out) | exact HB.out)))); have n10_ := Am_ (Bb_ (g := gb420) (o := .cells #[.slice (some ad422) l0_0.length c0_0, .slice A0_1 l0_1.length c0_1] 25 (0, 0)) (by (with_reducible repeat (first | refine Bn_ ?_ _ | refine Bd_ ?_ | refine Ba_ ?_ _)); exact BK420.out) hb); have n11_ := Am_ (Bb_ (g := gb432) (o := .cells #[.slice Ao43 t425.length co43, .slice Ao46 t428.length co46] 25 (0, 0)) (by (with_reducible repeat (first | refine Bn_ ?_ _ | refine Bd_ ?_ | refine Ba_ ?_ _)); exact BK432.out) hb); have n12_ := Am_ (Bb_ (g := gb440) (o := .cells #[.slice Ao51 t433.length co51, .slice Ao55 t436.length co55] 25 (0, 0)) (by (with_reducible repeat (first | refine Bn_ ?_ _ | refine Bd_ ?_ | refine Ba_ ?_ _)); exact BK440.out) hb); have n13_ := Am_ (Bb_ (g := gb448) (o := .cells #[.slice Ao60 t441.length co60, .slice Ao65 t444.length co65] 25 (0, 0)) (by (with_reducible repeat (first | refine Bn_ ?_ _ | refine Bd_ ?_ | refine Ba_ ?_ _)); exact BK448.out) hb); have n14_ := Am_ (Be_ (by repeat (first | (with_reducible first | exact HB.out | apply Pa_ | apply Pn_ | apply Pd_ | refine Bs_ ?_ GE420.out | refine Bs_ ?_ GE432.out | refine Bs_ ?_ GE440.out | refine Bs_ ?_ GE448.out) | exact HB.out)) hb); clear HO427; clear HO430; clear HO435; clear HO438; clear HO443; clear HO446; clear HO454; clear HO457; clear BK420; clear BK432; clear BK440; clear BK448; clear HB; have HO427 := n0_; have HO430 := n1_; have HO435 := n2_; have HO438 := n3_; have HO443 := n4_; have HO446 := n5_; have HO454 := n6_; have HO457 := n7_; have HO461 := n8_; have HO464 := n9_; have BK420 := n10_; have BK432 := n11_; have BK440 := n12_; have BK448 := n13_; have HB := n14_; clear n0_ n1_ n2_ n3_ n4_ n5_ n6_ n7_ n8_ n9_ n10_ n11_ n12_ n13_ n14_; (try clear hb); (try clear hb2); (try clear hk); (try clear hi); (try clear ho0); (try clear ho1)) | ((with_reducible refine gate_dst (N := 17) rfl ?_); (try (refine gate_guard (by rfl) ?_; dsimp only)); refine box_event ?hg (N := 17) ?hd (cs := #[.slice none 0 0, .slice none 0 0]) (t := 25) ?hr ?_; (case hd => rfl); (case hg => rfl); (case hr => first | (go_simp; done) | (go_simp; rfl)); intro gb466 hg w74 hbox hb; have n0_ := Am_ (Vb_ (Ke_ (by (with_reducible repeat (first | apply Va_ | apply Vn_ | apply Vd_)); exact HO427.out) gb466 (Nat.le_of_eq hg.symm)) hb); have n1_ := Am_ (Vb_ (Ke_ (by (with_reducible repeat (first | apply Va_ | apply Vn_ | apply Vd_)); exact HO430.out) gb466 (Nat.le_of_eq hg.symm)) hb); have n2_ := Am_ (Vb_ (Ke_ (by (with_reducible repeat (first | apply Va_ | apply Vn_ | apply Vd_)); exact HO435.out) gb466 (Nat.le_of_eq hg.symm)) hb); have n3_ := Am_ (Vb_ (Ke_ (by (with_reducible repeat (first | apply Va_ | apply Vn_ | apply Vd_)); exact HO438.out) gb466 (Nat.le_of_eq hg.symm)) hb); have n4_ := Am_ (Vb_ (Ke_ (by (with_reducible repeat (first | apply Va_ | apply Vn_ | apply Vd_)); exact HO443.out) gb466 (Nat.le_of_eq hg.symm)) hb); have n5_ := Am_ (Vb_ (Ke_ (by (with_reducible repeat (first | apply Va_ | apply Vn_ | apply Vd_)); exact HO446.out) gb466 (Nat.le_of_eq hg.symm)) hb); have n6_ := Am_ (Rb_ (by (with_reducible repeat (first | apply Ra_ | apply Rn_ | apply Rd_)); exact HO454.out) hb); have n7_ := Am_ (Vb_ (Ke_ (by (with_reducible repeat (first | apply Va_ | apply Vn_ | apply Vd_)); exact HO457.out) gb466 (Nat.le_of_eq hg.symm)) hb); have n8_ := Am_ (Vb_ (Ke_ (by (with_reducible repeat (first | apply Va_ | apply Vn_ | apply Vd_)); exact HO461.out) gb466 (Nat.le_of_eq hg.symm)) hb); have n9_ := Am_ (Vb_ (Ke_ (by (with_reducible repeat (first | apply Va_ | apply Vn_ | apply Vd_)); exact HO464.out) gb466 (Nat.le_of_eq hg.symm)) hb); have n10_ := Am_ (Bb_ (g := gb420) (o := .cells #[.slice (some ad422) l0_0.length c0_0, .slice A0_1 l0_1.length c0_1] 25 (0, 0)) (by (with_reducible repeat (first | refine Bn_ ?_ _ | refine Bd_ ?_ | refine Ba_ ?_ _)); exact BK420.out) hb); have n11_ := Am_ (Bb_ (g := gb432) (o := .cells #[.slice Ao43 t425.length co43, .slice Ao46 t428.length co46] 25 (0, 0)) (by (with_reducible repeat (first | refine Bn_ ?_ _ | refine Bd_ ?_ | refine Ba_ ?_ _)); exact BK432.out) hb); have n12_ := Am_ (Bb_ (g := gb440) (o := .cells #[.slice Ao51 t433.length co51, .slice Ao55 t436.length co55] 25 (0, 0)) (by (with_reducible repeat (first | refine Bn_ ?_ _ | refine Bd_ ?_ | refine Ba_ ?_ _)); exact BK440.out) hb); have n13_ := Am_ (Bb_ (g := gb448) (o := .cells #[.slice Ao60 t441.length co60, .slice Ao65 t444.length co65] 25 (0, 0)) (by (with_reducible repeat (first | refine Bn_ ?_ _ | refine Bd_ ?_ | refine Ba_ ?_ _)); exact BK448.out) hb); have n14_ := Am_ (Be_ (by repeat (first | (with_reducible first | exact HB.out | apply Pa_ | apply Pn_ | apply Pd_ | refine Bs_ ?_ GE420.out | refine Bs_ ?_ GE432.out | refine Bs_ ?_ GE440.out | refine Bs_ ?_ GE448.out) | exact HB.out)) hb); have n15_ := Am_ (hbox); have n16_ := Am_ ((by rw [hg]; exact (Bz_ (by repeat (first | (with_reducible first | exact HB.out | apply Pa_ | apply Pn_ | apply Pd_ | refine Bs_ ?_ GE420.out | refine Bs_ ?_ GE432.out | refine Bs_ ?_ GE440.out | refine Bs_ ?_ GE448.out) | exact HB.out))) : w.heap.size ≤ gb466)); have n17_ := Am_ ((by rw [hg]; exact (Bz_ (by repeat (first | (with_reducible first | exact HB.out | apply Pa_ | apply Pn_ | apply Pd_ | refine Bs_ ?_ GE420.out | refine Bs_ ?_ GE432.out | refine Bs_ ?_ GE440.out | refine Bs_ ?_ GE448.out) | exact HB.out))) : w.heap.size ≤ gb466)); have n18_ := Am_ ((by rw [hg]; exact Nat.ne_of_lt (blk_lt (g := gb420) (o := .cells #[.slice (some ad422) l0_0.length c0_0, .slice A0_1 l0_1.length c0_1] 25 (0, 0)) (by (with_reducible repeat (first | refine Bn_ ?_ _ | refine Bd_ ?_ | refine Ba_ ?_ _)); exact BK420.out)) : gb420 ≠ gb466)); have n19_ := Am_ ((by rw [hg]; exact Nat.ne_of_gt (blk_lt (g := gb420) (o := .cells #[.slice (some ad422) l0_0.length c0_0, .slice A0_1 l0_1.length c0_1] 25 (0, 0)) (by (with_reducible repeat (first | refine Bn_ ?_ _ | refine Bd_ ?_ | refine Ba_ ?_ _)); exact BK420.out)) : gb466 ≠ gb420)); have n20_ := Am_ ((by rw [hg]; exact Nat.ne_of_lt (blk_lt (g := gb432) (o := .cells #[.slice Ao43 t425.length co43, .slice Ao46 t428.length co46] 25 (0, 0)) (by (with_reducible repeat (first | refine Bn_ ?_ _ | refine Bd_ ?_ | refine Ba_ ?_ _)); exact BK432.out)) : gb432 ≠ gb466)); have n21_ := Am_ ((by rw [hg]; exact Nat.ne_of_gt (blk_lt (g := gb432) (o := .cells #[.slice Ao43 t425.length co43, .slice Ao46 t428.length co46] 25 (0, 0)) (by (with_reducible repeat (first | refine Bn_ ?_ _ | refine Bd_ ?_ | refine Ba_ ?_ _)); exact BK432.out)) : gb466 ≠ gb432)); have n22_ := Am_ ((by rw [hg]; exact Nat.ne_of_lt (blk_lt (g := gb440) (o := .cells #[.slice Ao51 t433.length co51, .slice Ao55 t436.length co55] 25 (0, 0)) (by (with_reducible repeat (first | refine Bn_ ?_ _ | refine Bd_ ?_ | refine Ba_ ?_ _)); exact BK440.out)) : gb440 ≠ gb466)); have n23_ := Am_ ((by rw [hg]; exact Nat.ne_of_gt (blk_lt (g := gb440) (o := .cells #[.slice Ao51 t433.length co51, .slice Ao55 t436.length co55] 25 (0, 0)) (by (with_reducible repeat (first | refine Bn_ ?_ _ | refine Bd_ ?_ | refine Ba_ ?_ _)); exact BK440.out)) : gb466 ≠ gb440)); have n24_ := Am_ ((by rw [hg]; exact Nat.ne_of_lt (blk_lt (g := gb448) (o := .cells #[.slice Ao60 t441.length co60, .slice Ao65 t444.length co65] 25 (0, 0)) (by (with_reducible repeat (first | refine Bn_ ?_ _ | refine Bd_ ?_ | refine Ba_ ?_ _)); exact BK448.out)) : gb448 ≠ gb466)); have n25_ := Am_ ((by rw [hg]; exact Nat.ne_of_gt (blk_lt (g := gb448) (o := .cells #[.slice Ao60 t441.length co60, .slice Ao65 t444.length co65] 25 (0, 0)) (by (with_reducible repeat (first | refine Bn_ ?_ _ | refine Bd_ ?_ | refine Ba_ ?_ _)); exact BK448.out)) : gb466 ≠ gb448)); clear HO427; clear HO430; clear HO435; clear HO438; clear HO443; clear HO446; clear HO454; clear HO457; clear HO461; clear HO464; clear BK420; clear BK432; clear BK440; clear BK448; clear HB; have HO427 := n0_; have HO430 := n1_; have HO435 := n2_; have HO438 := n3_; have HO443 := n4_; have HO446 := n5_; have HO454 := n6_; have HO457 := n7_; have HO461 := n8_; have HO464 := n9_; have BK420 := n10_; have BK432 := n11_; have BK440 := n12_; have BK448 := n13_; have HB := n14_; have BK466 := n15_; have GW466 := n16_; have GE466 := n17_; have NB420_466 := n18_; have NB466_420 := n19_; have NB432_466 := n20_; have NB466_432 := n21_; have NB440_466 := n22_; have NB466_440 := n23_; have NB448_466 := n24_; have NB466_448 := n25_; clear n0_ n1_ n2_ n3_ n4_ n5_ n6_ n7_ n8_ n9_ n10_ n11_ n12_ n13_ n14_ n15_ n16_ n17_ n18_ n19_ n20_ n21_ n22_ n23_ n24_ n25_; clear hb hbox hg; obtain ⟨Ao75, co75, eo75⟩ := Vx_ HO461.out; subst eo75; have hnb76 := NB466_420.out; have hnc76 := NB420_466.out; have hnb77 := NB466_432.out; have hnc77 := NB432_466.out; have hnb78 := NB466_440.out; have hnc78 := NB440_466.out; have hnb79 := NB466_448.out; have hnc79 := NB448_466.out; have hcz80_0 : w74.cell? ⟨gb466, 0, none⟩ = some (.slice none 0 0) := (Bc_ BK466.out 0).trans rfl; have hcz80_1 : w74.cell? ⟨gb466, 1, none⟩ = some (.slice none 0 0) := (Bc_ BK466.out 1).trans rfl; have hfz80_0 := Bf_ BK466.out 0; have hfz80_1 := Bf_ BK466.out 1; obtain ⟨Ao81, co81, eo81⟩ := Vx_ HO464.out; subst eo81))
                   have n0_ : Aside0 (Kd.V k44 44 ((w74.setCell ⟨gb466, 0, none⟩ (.slice Ao75 t459.length co75)).setCell ⟨gb466, 1, none⟩ (.slice Ao81 t462.length co81)) w.heap.size (fun k_ => some k_ ≠ (.slice Ao69 t452.length co69 : Value).ownBlock ∧ k_ ≠ gb420 ∧ k_ ≠ gb432 ∧ k_ ≠ gb440 ∧ k_ ≠ gb448 ∧ k_ ≠ gb466) (.slice Ao43 t425.length co43) t425) := ⟨by (with_reducible repeat (first | apply Va_ | apply Vn_ | apply Vd_)); exact Vm_ (Vf_ (p := ⟨gb466, 1, none⟩) (Vf_ (p := ⟨gb466, 0, none⟩) (Vm_ HO427.out (fun k_ hk => (⟨hk, hk.2⟩ : _ ∧ k_ ≠ gb466))) (fun _ hk => hk.2) (.slice Ao75 t459.length co75)) (fun _ hk => hk.2) (.slice Ao81 t462.length co81)) (fun _ hk => ⟨hk.1.1.2, ⟨hk.1.1.1.1, ⟨hk.1.1.1.2.1, ⟨hk.1.1.1.2.2.1, ⟨hk.1.1.1.2.2.2, hk.1.2⟩⟩⟩⟩⟩)⟩
                   have n1_ : Aside0 (Kd.V (Kd.slice 3 (Kd.int .i64)) 48 ((w74.setCell ⟨gb466, 0, none⟩ (.slice Ao75 t459.length co75)).setCell ⟨gb466, 1, none⟩ (.slice Ao81 t462.length co81)) w.heap.size (fun k_ => some k_ ≠ (.slice Ao69 t452.length co69 : Value).ownBlock ∧ k_ ≠ gb420 ∧ k_ ≠ gb432 ∧ k_ ≠ gb440 ∧ k_ ≠ gb448 ∧ k_ ≠ gb466) (.slice Ao46 t428.length co46) t428) := ⟨by (with_reducible repeat (first | apply Va_ | apply Vn_ | apply Vd_)); exact Vm_ (Vf_ (p := ⟨gb466, 1, none⟩) (Vf_ (p := ⟨gb466, 0, none⟩) (Vm_ HO430.out (fun k_ hk => (⟨hk, hk.2⟩ : _ ∧ k_ ≠ gb466))) (fun _ hk => hk.2) (.slice Ao75 t459.length co75)) (fun _ hk => hk.2) (.slice Ao81 t462.length co81)) (fun _ hk => ⟨hk.1.1.2, ⟨hk.1.1.1.1, ⟨hk.1.1.1.2.1, ⟨hk.1.1.1.2.2.1, ⟨hk.1.1.1.2.2.2, hk.1.2⟩⟩⟩⟩⟩)⟩
                   have n2_ : Aside0 (Kd.V k44 44 ((w74.setCell ⟨gb466, 0, none⟩ (.slice Ao75 t459.length co75)).setCell ⟨gb466, 1, none⟩ (.slice Ao81 t462.length co81)) w.heap.size (fun k_ => some k_ ≠ (.slice Ao69 t452.length co69 : Value).ownBlock ∧ k_ ≠ gb420 ∧ k_ ≠ gb432 ∧ k_ ≠ gb440 ∧ k_ ≠ gb448 ∧ k_ ≠ gb466) (.slice Ao51 t433.length co51) t433) := ⟨by (with_reducible repeat (first | apply Va_ | apply Vn_ | apply Vd_)); exact Vm_ (Vf_ (p := ⟨gb466, 1, none⟩) (Vf_ (p := ⟨gb466, 0, none⟩) (Vm_ HO435.out (fun k_ hk => (⟨hk, hk.2⟩ : _ ∧ k_ ≠ gb466))) (fun _ hk => hk.2) (.slice Ao75 t459.length co75)) (fun _ hk => hk.2) (.slice Ao81 t462.length co81)) (fun _ hk => ⟨hk.1.1.2, ⟨hk.1.1.1.1, ⟨hk.1.1.1.2.1, ⟨hk.1.1.1.2.2.1, ⟨hk.1.1.1.2.2.2, hk.1.2⟩⟩⟩⟩⟩)⟩
                   have n3_ : Aside0 (Kd.V (Kd.slice 3 (Kd.int .i64)) 48 ((w74.setCell ⟨gb466, 0, none⟩ (.slice Ao75 t459.length co75)).setCell ⟨gb466, 1, none⟩ (.slice Ao81 t462.length co81)) w.heap.size (fun k_ => some k_ ≠ (.slice Ao69 t452.length co69 : Value).ownBlock ∧ k_ ≠ gb420 ∧ k_ ≠ gb432 ∧ k_ ≠ gb440 ∧ k_ ≠ gb448 ∧ k_ ≠ gb466) (.slice Ao55 t436.length co55) t436) := ⟨by (with_reducible repeat (first | apply Va_ | apply Vn_ | apply Vd_)); exact Vm_ (Vf_ (p := ⟨gb466, 1, none⟩) (Vf_ (p := ⟨gb466, 0, none⟩) (Vm_ HO438.out (fun k_ hk => (⟨hk, hk.2⟩ : _ ∧ k_ ≠ gb466))) (fun _ hk => hk.2) (.slice Ao75 t459.length co75)) (fun _ hk => hk.2) (.slice Ao81 t462.length co81)) (fun _ hk => ⟨hk.1.1.2, ⟨hk.1.1.1.1, ⟨hk.1.1.1.2.1, ⟨hk.1.1.1.2.2.1, ⟨hk.1.1.1.2.2.2, hk.1.2⟩⟩⟩⟩⟩)⟩
                   have n4_ : Aside0 (Kd.V k44 44 ((w74.setCell ⟨gb466, 0, none⟩ (.slice Ao75 t459.length co75)).setCell ⟨gb466, 1, none⟩ (.slice Ao81 t462.length co81)) w.heap.size (fun k_ => some k_ ≠ (.slice Ao69 t452.length co69 : Value).ownBlock ∧ k_ ≠ gb420 ∧ k_ ≠ gb432 ∧ k_ ≠ gb440 ∧ k_ ≠ gb448 ∧ k_ ≠ gb466) (.slice Ao60 t441.length co60) t441) := ⟨by (with_reducible repeat (first | apply Va_ | apply Vn_ | apply Vd_)); exact Vm_ (Vf_ (p := ⟨gb466, 1, none⟩) (Vf_ (p := ⟨gb466, 0, none⟩) (Vm_ HO443.out (fun k_ hk => (⟨hk, hk.2⟩ : _ ∧ k_ ≠ gb466))) (fun _ hk => hk.2) (.slice Ao75 t459.length co75)) (fun _ hk => hk.2) (.slice Ao81 t462.length co81)) (fun _ hk => ⟨hk.1.1.2, ⟨hk.1.1.1.1, ⟨hk.1.1.1.2.1, ⟨hk.1.1.1.2.2.1, ⟨hk.1.1.1.2.2.2, hk.1.2⟩⟩⟩⟩⟩)⟩
                   have n5_ : Aside0 (Kd.V (Kd.slice 3 (Kd.int .i64)) 48 ((w74.setCell ⟨gb466, 0, none⟩ (.slice Ao75 t459.length co75)).setCell ⟨gb466, 1, none⟩ (.slice Ao81 t462.length co81)) w.heap.size (fun k_ => some k_ ≠ (.slice Ao69 t452.length co69 : Value).ownBlock ∧ k_ ≠ gb420 ∧ k_ ≠ gb432 ∧ k_ ≠ gb440 ∧ k_ ≠ gb448 ∧ k_ ≠ gb466) (.slice Ao65 t444.length co65) t444) := ⟨by (with_reducible repeat (first | apply Va_ | apply Vn_ | apply Vd_)); exact Vm_ (Vf_ (p := ⟨gb466, 1, none⟩) (Vf_ (p := ⟨gb466, 0, none⟩) (Vm_ HO446.out (fun k_ hk => (⟨hk, hk.2⟩ : _ ∧ k_ ≠ gb466))) (fun _ hk => hk.2) (.slice Ao75 t459.length co75)) (fun _ hk => hk.2) (.slice Ao81 t462.length co81)) (fun _ hk => ⟨hk.1.1.2, ⟨hk.1.1.1.1, ⟨hk.1.1.1.2.1, ⟨hk.1.1.1.2.2.1, ⟨hk.1.1.1.2.2.2, hk.1.2⟩⟩⟩⟩⟩)⟩
                   have n6_ : Aside0 (Kd.R k52 52 ((w74.setCell ⟨gb466, 0, none⟩ (.slice Ao75 t459.length co75)).setCell ⟨gb466, 1, none⟩ (.slice Ao81 t462.length co81)) w.heap.size (fun _ => True) (.slice Ao69 t452.length co69) t452) := ⟨by (with_reducible repeat (first | apply Ra_ | apply Rn_ | apply Rd_)); exact Kd.R_mono (Kd.R_far (p := ⟨gb466, 1, none⟩) (Kd.R_far (p := ⟨gb466, 0, none⟩) (Kd.R_types HO454.out BK466.out (by decide)) (fun _ hk => hk.2) (.slice Ao75 t459.length co75)) (fun _ hk => hk.2) (.slice Ao81 t462.length co81)) (fun _ hk => trivial)⟩
                   have n7_ : Aside0 (Kd.V (Kd.slice 3 (Kd.int .i64)) 48 ((w74.setCell ⟨gb466, 0, none⟩ (.slice Ao75 t459.length co75)).setCell ⟨gb466, 1, none⟩ (.slice Ao81 t462.length co81)) w.heap.size (fun k_ => some k_ ≠ (.slice Ao69 t452.length co69 : Value).ownBlock ∧ k_ ≠ gb420 ∧ k_ ≠ gb432 ∧ k_ ≠ gb440 ∧ k_ ≠ gb448 ∧ k_ ≠ gb466) (.slice Ao70 t455.length co70) t455) := ⟨by (with_reducible repeat (first | apply Va_ | apply Vn_ | apply Vd_)); exact Vm_ (Vf_ (p := ⟨gb466, 1, none⟩) (Vf_ (p := ⟨gb466, 0, none⟩) (Vm_ HO457.out (fun k_ hk => (⟨hk, hk.2⟩ : _ ∧ k_ ≠ gb466))) (fun _ hk => hk.2) (.slice Ao75 t459.length co75)) (fun _ hk => hk.2) (.slice Ao81 t462.length co81)) (fun _ hk => ⟨hk.1.1.1, ⟨hk.1.1.2.1, ⟨hk.1.1.2.2.1, ⟨hk.1.1.2.2.2.1, ⟨hk.1.1.2.2.2.2, hk.1.2⟩⟩⟩⟩⟩)⟩
                   have n8_ : Aside0 (Kd.V k44 44 ((w74.setCell ⟨gb466, 0, none⟩ (.slice Ao75 t459.length co75)).setCell ⟨gb466, 1, none⟩ (.slice Ao81 t462.length co81)) w.heap.size (fun k_ => some k_ ≠ (.slice Ao69 t452.length co69 : Value).ownBlock ∧ k_ ≠ gb420 ∧ k_ ≠ gb432 ∧ k_ ≠ gb440 ∧ k_ ≠ gb448 ∧ k_ ≠ gb466) (.slice Ao75 t459.length co75) t459) := ⟨by (with_reducible repeat (first | apply Va_ | apply Vn_ | apply Vd_)); exact Vm_ (Vf_ (p := ⟨gb466, 1, none⟩) (Vf_ (p := ⟨gb466, 0, none⟩) (Vm_ HO461.out (fun k_ hk => (⟨hk, hk.2⟩ : _ ∧ k_ ≠ gb466))) (fun _ hk => hk.2) (.slice Ao75 t459.length co75)) (fun _ hk => hk.2) (.slice Ao81 t462.length co81)) (fun _ hk => ⟨hk.1.1.1, ⟨hk.1.1.2.1, ⟨hk.1.1.2.2.1, ⟨hk.1.1.2.2.2.1, ⟨hk.1.1.2.2.2.2, hk.1.2⟩⟩⟩⟩⟩)⟩
                   have n9_ : Aside0 (Kd.V (Kd.slice 3 (Kd.int .i64)) 48 ((w74.setCell ⟨gb466, 0, none⟩ (.slice Ao75 t459.length co75)).setCell ⟨gb466, 1, none⟩ (.slice Ao81 t462.length co81)) w.heap.size (fun k_ => some k_ ≠ (.slice Ao69 t452.length co69 : Value).ownBlock ∧ k_ ≠ gb420 ∧ k_ ≠ gb432 ∧ k_ ≠ gb440 ∧ k_ ≠ gb448 ∧ k_ ≠ gb466) (.slice Ao81 t462.length co81) t462) := ⟨by (with_reducible repeat (first | apply Va_ | apply Vn_ | apply Vd_)); exact Vm_ (Vf_ (p := ⟨gb466, 1, none⟩) (Vf_ (p := ⟨gb466, 0, none⟩) (Vm_ HO464.out (fun k_ hk => (⟨hk, hk.2⟩ : _ ∧ k_ ≠ gb466))) (fun _ hk => hk.2) (.slice Ao75 t459.length co75)) (fun _ hk => hk.2) (.slice Ao81 t462.length co81)) (fun _ hk => ⟨hk.1.1.1, ⟨hk.1.1.2.1, ⟨hk.1.1.2.2.1, ⟨hk.1.1.2.2.2.1, ⟨hk.1.1.2.2.2.2, hk.1.2⟩⟩⟩⟩⟩)⟩
                   have n10_ : Aside0 (((w74.setCell ⟨gb466, 0, none⟩ (.slice Ao75 t459.length co75)).setCell ⟨gb466, 1, none⟩ (.slice Ao81 t462.length co81)).heap[gb420]? = some (.cells #[.slice (some ad422) l0_0.length c0_0, .slice A0_1 l0_1.length c0_1] 25 (0, 0))) := ⟨by (with_reducible repeat (first | refine Bn_ ?_ _ | refine Bd_ ?_ | refine Ba_ ?_ _)); refine blk_far ?_ NB420_466.out _; (with_reducible repeat (first | refine Bn_ ?_ _ | refine Bd_ ?_ | refine Ba_ ?_ _)); refine blk_far ?_ NB420_466.out _; (with_reducible repeat (first | refine Bn_ ?_ _ | refine Bd_ ?_ | refine Ba_ ?_ _)); exact BK420.out⟩
                   have n11_ : Aside0 (((w74.setCell ⟨gb466, 0, none⟩ (.slice Ao75 t459.length co75)).setCell ⟨gb466, 1, none⟩ (.slice Ao81 t462.length co81)).heap[gb432]? = some (.cells #[.slice Ao43 t425.length co43, .slice Ao46 t428.length co46] 25 (0, 0))) := ⟨by (with_reducible repeat (first | refine Bn_ ?_ _ | refine Bd_ ?_ | refine Ba_ ?_ _)); refine blk_far ?_ NB432_466.out _; (with_reducible repeat (first | refine Bn_ ?_ _ | refine Bd_ ?_ | refine Ba_ ?_ _)); refine blk_far ?_ NB432_466.out _; (with_reducible repeat (first | refine Bn_ ?_ _ | refine Bd_ ?_ | refine Ba_ ?_ _)); exact BK432.out⟩
                   have n12_ : Aside0 (((w74.setCell ⟨gb466, 0, none⟩ (.slice Ao75 t459.length co75)).setCell ⟨gb466, 1, none⟩ (.slice Ao81 t462.length co81)).heap[gb440]? = some (.cells #[.slice Ao51 t433.length co51, .slice Ao55 t436.length co55] 25 (0, 0))) := ⟨by (with_reducible repeat (first | refine Bn_ ?_ _ | refine Bd_ ?_ | refine Ba_ ?_ _)); refine blk_far ?_ NB440_466.out _; (with_reducible repeat (first | refine Bn_ ?_ _ | refine Bd_ ?_ | refine Ba_ ?_ _)); refine blk_far ?_ NB440_466.out _; (with_reducible repeat (first | refine Bn_ ?_ _ | refine Bd_ ?_ | refine Ba_ ?_ _)); exact BK440.out⟩
                   have n13_ : Aside0 (((w74.setCell ⟨gb466, 0, none⟩ (.slice Ao75 t459.length co75)).setCell ⟨gb466, 1, none⟩ (.slice Ao81 t462.length co81)).heap[gb448]? = some (.cells #[.slice Ao60 t441.length co60, .slice Ao65 t444.length co65] 25 (0, 0))) := ⟨by (with_reducible repeat (first | refine Bn_ ?_ _ | refine Bd_ ?_ | refine Ba_ ?_ _)); refine blk_far ?_ NB448_466.out _; (with_reducible repeat (first | refine Bn_ ?_ _ | refine Bd_ ?_ | refine Ba_ ?_ _)); refine blk_far ?_ NB448_466.out _; (with_reducible repeat (first | refine Bn_ ?_ _ | refine Bd_ ?_ | refine Ba_ ?_ _)); exact BK448.out⟩
                   have n14_ : Aside0 (((w74.setCell ⟨gb466, 0, none⟩ (.slice Ao75 t459.length co75)).setCell ⟨gb466, 1, none⟩ (.slice Ao81 t462.length co81)).heap[gb466]? = some (.cells #[.slice Ao75 t459.length co75, .slice Ao81 t462.length co81] 25 (0, 0))) := ⟨by (with_reducible repeat (first | refine Bn_ ?_ _ | refine Bd_ ?_ | refine Ba_ ?_ _)); refine Bp_ (cs := #[.slice Ao75 t459.length co75, .slice none 0 0]) ?_ 1 _ rfl; (with_reducible repeat (first | refine Bn_ ?_ _ | refine Bd_ ?_ | refine Ba_ ?_ _)); refine Bp_ (cs := #[.slice none 0 0, .slice none 0 0]) ?_ 0 _ rfl; (with_reducible repeat (first | refine Bn_ ?_ _ | refine Bd_ ?_ | refine Ba_ ?_ _)); exact BK466.out⟩
                   have n15_ : Aside0 (Below w.heap.size w ((w74.setCell ⟨gb466, 0, none⟩ (.slice Ao75 t459.length co75)).setCell ⟨gb466, 1, none⟩ (.slice Ao81 t462.length co81))) := ⟨by repeat (first | (with_reducible first | exact HB.out | apply Pa_ | apply Pn_ | apply Pd_ | refine Bs_ ?_ GE420.out | refine Bs_ ?_ GE432.out | refine Bs_ ?_ GE440.out | refine Bs_ ?_ GE448.out | refine Bs_ ?_ GE466.out) | exact HB.out)⟩
                   (try clear HO427)
                   (try clear HO430)
                   (try clear HO435)
                   (try clear HO438)
                   (try clear HO443)
                   (try clear HO446)
                   (try clear HO454)
                   (try clear HO457)
                   (try clear HO461)
                   (try clear HO464)
                   (try clear BK420)
                   (try clear BK432)
                   (try clear BK440)
                   (try clear BK448)
                   (try clear BK466)
                   (try clear HB)
                   generalize ((w74.setCell ⟨gb466, 0, none⟩ (.slice Ao75 t459.length co75)).setCell ⟨gb466, 1, none⟩ (.slice Ao81 t462.length co81)) = w82 at n0_ n1_ n2_ n3_ n4_ n5_ n6_ n7_ n8_ n9_ n10_ n11_ n12_ n13_ n14_ n15_ ⊢
                   have HO427 := n0_
                   have HO430 := n1_
                   have HO435 := n2_
                   have HO438 := n3_
                   have HO443 := n4_
                   have HO446 := n5_
                   have HO454 := n6_
                   have HO457 := n7_
                   have HO461 := n8_
                   have HO464 := n9_
                   have BK420 := n10_
                   have BK432 := n11_
                   have BK440 := n12_
                   have BK448 := n13_
                   have BK466 := n14_
                   have HB := n15_
                   clear n0_ n1_ n2_ n3_ n4_ n5_ n6_ n7_ n8_ n9_ n10_ n11_ n12_ n13_ n14_ n15_
                   have n0_ := Am_ (Vd_ HO427.out)
                   have n1_ := Am_ (Vd_ HO430.out)
                   have n2_ := Am_ (Vd_ HO435.out)
                   have n3_ := Am_ (Vd_ HO438.out)
                   have n4_ := Am_ (Vd_ HO443.out)
                   have n5_ := Am_ (Vd_ HO446.out)
                   have n6_ := Am_ (Rd_ HO454.out)
                   have n7_ := Am_ (Vd_ HO457.out)
                   have n8_ := Am_ (Vd_ HO461.out)
                   have n9_ := Am_ (Vd_ HO464.out)
                   have n10_ := Am_ (Bd_ BK420.out)
                   have n11_ := Am_ (Bd_ BK432.out)
                   have n12_ := Am_ (Bd_ BK440.out)
                   have n13_ := Am_ (Bd_ BK448.out)
                   have n14_ := Am_ (Bd_ BK466.out)
                   have n15_ := Am_ (Pd_ HB.out)
                   clear HO427
                   clear HO430
                   clear HO435
                   clear HO438
                   clear HO443
                   clear HO446
                   clear HO454
                   clear HO457
                   clear HO461
                   clear HO464
                   clear BK420
                   clear BK432
                   clear BK440
                   clear BK448
                   clear BK466
                   clear HB
                   have HO427 := n0_
                   have HO430 := n1_
                   have HO435 := n2_
                   have HO438 := n3_
                   have HO443 := n4_
                   have HO446 := n5_
                   have HO454 := n6_
                   have HO457 := n7_
                   have HO461 := n8_
                   have HO464 := n9_
                   have BK420 := n10_
                   have BK432 := n11_
                   have BK440 := n12_
                   have BK448 := n13_
                   have BK466 := n14_
                   have HB := n15_
                   clear n0_ n1_ n2_ n3_ n4_ n5_ n6_ n7_ n8_ n9_ n10_ n11_ n12_ n13_ n14_ n15_
                   have p467 : 0 ≤ (a1 : Int) := Ot_ (by first | (with_reducible assumption) | assumption)
                   have q467 : a1 < (l0_0.length : Int) := Ot_ (by first | (with_reducible assumption) | assumption)
                   obtain ⟨ad467, e467, hx467_0, hx467_1, hx467_2, hx467_3, hx467_4, hx467_5⟩ := at_T44 HR0_0.out a1 p467 q467
                   have hw467_5 := hx467_5
                   have hw467_4 := hx467_4
                   have hw467_3 := hx467_3
                   have hw467_2 := hx467_2
                   have hw467_1 := hx467_1
                   have hw467_0 := hx467_0
                   obtain rfl : ad422 = ad467 := (by injection e467)
                   replace hx467_0 := (HB.out.cell (Bl_ w _ hx467_0)).trans hx467_0
                   replace hx467_1 := (HB.out.cell (Bl_ w _ hx467_1)).trans hx467_1
                   replace hx467_2 := (HB.out.cell (Bl_ w _ hx467_2)).trans hx467_2
                   replace hx467_3 := (HB.out.cell (Bl_ w _ hx467_3)).trans hx467_3
                   replace hx467_4 := (HB.out.cell (Bl_ w _ hx467_4)).trans hx467_4
                   replace hx467_5 := (HB.out.cell (Bl_ w _ hx467_5)).trans hx467_5
                   replace p467 := eq_true p467
                   replace q467 := eq_true q467
                   refine start_ (n := 15) (S := fun w' => w'.cell? ⟨gb466, 0, none⟩ = some (.slice Ao75 t459.length co75) ∧ w'.cell? ⟨gb466, 1, none⟩ = some (.slice Ao81 t462.length co81) ∧ w'.cell? ⟨gb420, 0, none⟩ = some (.slice (some ad422) l0_0.length c0_0) ∧ w'.cell? ⟨gb420, 1, none⟩ = some (.slice A0_1 l0_1.length c0_1) ∧ w'.cell? (ad422.add ((a1).toNat * 6)) = some (.int .i64 ((rd_T44 l0_0 a1).f0)) ∧ w'.cell? ⟨(ad422.add ((a1).toNat * 6)).block, (ad422.add ((a1).toNat * 6)).off + 1, none⟩ = some (.int .i64 ((rd_T44 l0_0 a1).f1)) ∧ w'.cell? ⟨(ad422.add ((a1).toNat * 6)).block, (ad422.add ((a1).toNat * 6)).off + 2, none⟩ = some (.bool ((rd_T44 l0_0 a1).f2)) ∧ w'.cell? ⟨(ad422.add ((a1).toNat * 6)).block, (ad422.add ((a1).toNat * 6)).off + 3, none⟩ = some (.bool ((rd_T44 l0_0 a1).f3)) ∧ w'.cell? ⟨(ad422.add ((a1).toNat * 6)).block, (ad422.add ((a1).toNat * 6)).off + 4, none⟩ = some (.int .i64 ((rd_T44 l0_0 a1).f4)) ∧ w'.cell? ⟨(ad422.add ((a1).toNat * 6)).block, (ad422.add ((a1).toNat * 6)).off + 5, none⟩ = some (.int .i64 ((rd_T44 l0_0 a1).f5))) (ds := []) #[f_,f_,f_,f_,f_,f_,f_,f_,f_,f_,f_,f_,f_,f_,f_] (by kernel_rfl) rfl rfl ⟨(Bc_ BK466.out 0).trans rfl, (Bc_ BK466.out 1).trans rfl, (Bc_ BK420.out 0).trans rfl, (Bc_ BK420.out 1).trans rfl, ((HB.out.cell (Bl_ w _ hw467_0)).trans hw467_0), ((HB.out.cell (Bl_ w _ hw467_1)).trans hw467_1), ((HB.out.cell (Bl_ w _ hw467_2)).trans hw467_2), ((HB.out.cell (Bl_ w _ hw467_3)).trans hw467_3), ((HB.out.cell (Bl_ w _ hw467_4)).trans hw467_4), ((HB.out.cell (Bl_ w _ hw467_5)).trans hw467_5)⟩ (fun hHeld => ?_); refine with_tabW flagstonelaw11_FlockOtherC.tab11 flagstonelaw11_FlockOtherC.bits11 (fun HT_ HW_ => ?_)
                   generalize w82.drew = w83 at HO427 HO430 HO435 HO438 HO443 HO446 HO454 HO457 HO461 HO464 BK420 BK432 BK440 BK448 BK466 HB hx467_0 hx467_1 hx467_2 hx467_3 hx467_4 hx467_5 hHeld ⊢
                   refine pure_ (i := 1) (N := some 129) (v := ?_) (a' := ?_) #[f_,t_,f_,f_,f_,f_,f_,f_,f_,f_,f_,f_,f_,f_,f_] rfl rfl (any_of HT_.out (by kernel_rfl)) (fun _ _ _ h => h) (Or.inl ⟨by rfl, ?_⟩) ?_ ?_
                   rotate_left
                   ·intro w'
                    go_simp
                    with_reducible rfl
                   rotate_left
                   ·simp only [Act.put, La_, Lb_, Lc_, i64_w, i32_w]
                    rfl
                   refine pure_ (i := 2) (N := some 130) (v := ?_) (a' := ?_) #[f_,t_,t_,f_,f_,f_,f_,f_,f_,f_,f_,f_,f_,f_,f_] rfl rfl (any_of HT_.out (by kernel_rfl)) (fun _ _ _ h => h) (Or.inl ⟨by rfl, ?_⟩) ?_ ?_
                   rotate_left
                   ·intro w'
                    go_simp
                    with_reducible rfl
                   rotate_left
                   ·simp only [Act.put, La_, Lb_, Lc_, i64_w, i32_w]
                    rfl
                   refine pure_ (i := 4) (N := some 132) (v := ?_) (a' := ?_) #[f_,t_,t_,f_,t_,f_,f_,f_,f_,f_,f_,f_,f_,f_,f_] rfl rfl (any_of HT_.out (by kernel_rfl)) (fun _ _ _ h => h) (Or.inl ⟨by rfl, ?_⟩) ?_ ?_
                   rotate_left
                   ·intro w'
                    go_simp
                    with_reducible rfl
                   rotate_left
                   ·simp only [Act.put, La_, Lb_, Lc_, i64_w, i32_w]
                    rfl
                   refine take_ (i := 0) (N := some 128) (v := ?_) (a' := ?_) #[t_,t_,t_,f_,t_,f_,f_,f_,f_,f_,f_,f_,f_,f_,f_] rfl rfl (take_ofW HT_.out HW_.out (by kernel_rfl)) (fun _ _ _ h => h) (Or.inl ⟨by rfl, ?_⟩) hHeld ?_ ?_
                   rotate_left
                   ·rintro w' ⟨s0, s1, s2, s3, s4, s5, s6, s7, s8, s9⟩
                    go_simp
                    with_reducible rfl
                   rotate_left
                   ·simp only [Act.put, La_, Lb_, Lc_, i64_w, i32_w]
                    rfl
                   refine take_ (i := 3) (N := some 131) (v := ?_) (a' := ?_) #[t_,t_,t_,t_,t_,f_,f_,f_,f_,f_,f_,f_,f_,f_,f_] rfl rfl (take_ofW HT_.out HW_.out (by kernel_rfl)) (fun _ _ _ h => h) (Or.inl ⟨by rfl, ?_⟩) hHeld ?_ ?_
                   rotate_left
                   ·rintro w' ⟨s0, s1, s2, s3, s4, s5, s6, s7, s8, s9⟩
                    go_simp
                    with_reducible rfl
                   rotate_left
                   ·simp only [Act.put, La_, Lb_, Lc_, i64_w, i32_w]
                    rfl
                   refine pure_ (i := 5) (N := some 133) (v := ?_) (a' := ?_) #[t_,t_,t_,t_,t_,t_,f_,f_,f_,f_,f_,f_,f_,f_,f_] rfl rfl (any_of HT_.out (by kernel_rfl)) (fun _ _ _ h => h) (Or.inl ⟨by rfl, ?_⟩) ?_ ?_
                   rotate_left
                   ·intro w'
                    go_simp
                    with_reducible rfl
                   rotate_left
                   ·simp only [Act.put, La_, Lb_, Lc_, i64_w, i32_w]
                    rfl
                   refine pure_ (i := 6) (N := some 134) (v := ?_) (a' := ?_) #[t_,t_,t_,t_,t_,t_,t_,f_,f_,f_,f_,f_,f_,f_,f_] rfl rfl (any_of HT_.out (by kernel_rfl)) (fun _ _ _ h => h) (Or.inl ⟨by rfl, ?_⟩) ?_ ?_
                   rotate_left
                   ·intro w'
                    go_simp
                    with_reducible rfl
                   rotate_left
                   ·simp only [Act.put, La_, Lb_, Lc_, i64_w, i32_w]
                    rfl
                   refine take_ (i := 7) (N := some 135) (v := ?_) (a' := ?_) #[t_,t_,t_,t_,t_,t_,t_,t_,f_,f_,f_,f_,f_,f_,f_] rfl rfl (take_ofW HT_.out HW_.out (by kernel_rfl)) (fun _ _ _ h => h) (Or.inl ⟨by rfl, ?_⟩) hHeld ?_ ?_
                   rotate_left
                   ·rintro w' ⟨s0, s1, s2, s3, s4, s5, s6, s7, s8, s9⟩
                    go_simp
                    with_reducible rfl
                   rotate_left
                   ·simp only [Act.put, La_, Lb_, Lc_, i64_w, i32_w]
                    rfl
                   refine join_ (σ := Value × Value × Nat) 2 #[t_,t_,t_,t_,t_,t_,t_,t_,t_,t_,t_,t_,t_,f_,f_] (fun s_ => [(136, .tuple #[.agg #[s_.1, s_.2.1], .int .i64 t474]), (19, .pointer (some ⟨s_.2.2, 0, none⟩)), (127, .tuple #[.agg #[s_.1, s_.2.1], .int .i64 t474]), (137, .agg #[s_.1, s_.2.1]), (138, .int .i64 t474)]) (fun s_ w' => (w'.cell? ⟨gb466, 0, none⟩ = some (.slice Ao75 t459.length co75) ∧ w'.cell? ⟨gb466, 1, none⟩ = some (.slice Ao81 t462.length co81) ∧ w'.cell? ⟨gb420, 0, none⟩ = some (.slice (some ad422) l0_0.length c0_0) ∧ w'.cell? ⟨gb420, 1, none⟩ = some (.slice A0_1 l0_1.length c0_1) ∧ w'.cell? (ad422.add ((a1).toNat * 6)) = some (.int .i64 ((rd_T44 l0_0 a1).f0)) ∧ w'.cell? ⟨(ad422.add ((a1).toNat * 6)).block, (ad422.add ((a1).toNat * 6)).off + 1, none⟩ = some (.int .i64 ((rd_T44 l0_0 a1).f1)) ∧ w'.cell? ⟨(ad422.add ((a1).toNat * 6)).block, (ad422.add ((a1).toNat * 6)).off + 2, none⟩ = some (.bool ((rd_T44 l0_0 a1).f2)) ∧ w'.cell? ⟨(ad422.add ((a1).toNat * 6)).block, (ad422.add ((a1).toNat * 6)).off + 3, none⟩ = some (.bool ((rd_T44 l0_0 a1).f3)) ∧ w'.cell? ⟨(ad422.add ((a1).toNat * 6)).block, (ad422.add ((a1).toNat * 6)).off + 4, none⟩ = some (.int .i64 ((rd_T44 l0_0 a1).f4)) ∧ w'.cell? ⟨(ad422.add ((a1).toNat * 6)).block, (ad422.add ((a1).toNat * 6)).off + 5, none⟩ = some (.int .i64 ((rd_T44 l0_0 a1).f5))) ∧ (Kd.V k44 44 w' w.heap.size (fun k_ => some k_ ≠ (.slice Ao69 t452.length co69 : Value).ownBlock ∧ k_ ≠ gb420 ∧ k_ ≠ gb432 ∧ k_ ≠ gb440 ∧ k_ ≠ gb448 ∧ k_ ≠ gb466 ∧ k_ ≠ s_.2.2) (.slice Ao43 t425.length co43) t425) ∧ (Kd.V (Kd.slice 3 (Kd.int .i64)) 48 w' w.heap.size (fun k_ => some k_ ≠ (.slice Ao69 t452.length co69 : Value).ownBlock ∧ k_ ≠ gb420 ∧ k_ ≠ gb432 ∧ k_ ≠ gb440 ∧ k_ ≠ gb448 ∧ k_ ≠ gb466 ∧ k_ ≠ s_.2.2) (.slice Ao46 t428.length co46) t428) ∧ (Kd.V k44 44 w' w.heap.size (fun k_ => some k_ ≠ (.slice Ao69 t452.length co69 : Value).ownBlock ∧ k_ ≠ gb420 ∧ k_ ≠ gb432 ∧ k_ ≠ gb440 ∧ k_ ≠ gb448 ∧ k_ ≠ gb466 ∧ k_ ≠ s_.2.2) (.slice Ao51 t433.length co51) t433) ∧ (Kd.V (Kd.slice 3 (Kd.int .i64)) 48 w' w.heap.size (fun k_ => some k_ ≠ (.slice Ao69 t452.length co69 : Value).ownBlock ∧ k_ ≠ gb420 ∧ k_ ≠ gb432 ∧ k_ ≠ gb440 ∧ k_ ≠ gb448 ∧ k_ ≠ gb466 ∧ k_ ≠ s_.2.2) (.slice Ao55 t436.length co55) t436) ∧ (Kd.V k44 44 w' w.heap.size (fun k_ => some k_ ≠ (.slice Ao69 t452.length co69 : Value).ownBlock ∧ k_ ≠ gb420 ∧ k_ ≠ gb432 ∧ k_ ≠ gb440 ∧ k_ ≠ gb448 ∧ k_ ≠ gb466 ∧ k_ ≠ s_.2.2) (.slice Ao60 t441.length co60) t441) ∧ (Kd.V (Kd.slice 3 (Kd.int .i64)) 48 w' w.heap.size (fun k_ => some k_ ≠ (.slice Ao69 t452.length co69 : Value).ownBlock ∧ k_ ≠ gb420 ∧ k_ ≠ gb432 ∧ k_ ≠ gb440 ∧ k_ ≠ gb448 ∧ k_ ≠ gb466 ∧ k_ ≠ s_.2.2) (.slice Ao65 t444.length co65) t444) ∧ (Kd.R k52 52 w' w.heap.size (fun _ => True) (.slice Ao69 t452.length co69) t452) ∧ (Kd.V (Kd.slice 3 (Kd.int .i64)) 48 w' w.heap.size (fun k_ => some k_ ≠ (.slice Ao69 t452.length co69 : Value).ownBlock ∧ k_ ≠ gb420 ∧ k_ ≠ gb432 ∧ k_ ≠ gb440 ∧ k_ ≠ gb448 ∧ k_ ≠ gb466 ∧ k_ ≠ s_.2.2) (.slice Ao70 t455.length co70) t455) ∧ (Kd.V k44 44 w' w.heap.size (fun k_ => some k_ ≠ (.slice Ao69 t452.length co69 : Value).ownBlock ∧ k_ ≠ gb420 ∧ k_ ≠ gb432 ∧ k_ ≠ gb440 ∧ k_ ≠ gb448 ∧ k_ ≠ gb466 ∧ k_ ≠ s_.2.2) (.slice Ao75 t459.length co75) t459) ∧ (Kd.V (Kd.slice 3 (Kd.int .i64)) 48 w' w.heap.size (fun k_ => some k_ ≠ (.slice Ao69 t452.length co69 : Value).ownBlock ∧ k_ ≠ gb420 ∧ k_ ≠ gb432 ∧ k_ ≠ gb440 ∧ k_ ≠ gb448 ∧ k_ ≠ gb466 ∧ k_ ≠ s_.2.2) (.slice Ao81 t462.length co81) t462) ∧ (Kd.V k44 44 w' w.heap.size (fun k_ => some k_ ≠ (.slice Ao69 t452.length co69 : Value).ownBlock ∧ k_ ≠ gb420 ∧ k_ ≠ gb432 ∧ k_ ≠ gb440 ∧ k_ ≠ gb448 ∧ k_ ≠ gb466 ∧ k_ ≠ s_.2.2) s_.1 t468) ∧ (Kd.V (Kd.slice 3 (Kd.int .i64)) 48 w' w.heap.size (fun k_ => some k_ ≠ (.slice Ao69 t452.length co69 : Value).ownBlock ∧ k_ ≠ gb420 ∧ k_ ≠ gb432 ∧ k_ ≠ gb440 ∧ k_ ≠ gb448 ∧ k_ ≠ gb466 ∧ k_ ≠ s_.2.2) s_.2.1 t471) ∧ (w'.heap[gb420]? = some (.cells #[.slice (some ad422) l0_0.length c0_0, .slice A0_1 l0_1.length c0_1] 25 (0, 0))) ∧ (w'.heap[gb432]? = some (.cells #[.slice Ao43 t425.length co43, .slice Ao46 t428.length co46] 25 (0, 0))) ∧ (w'.heap[gb440]? = some (.cells #[.slice Ao51 t433.length co51, .slice Ao55 t436.length co55] 25 (0, 0))) ∧ (w'.heap[gb448]? = some (.cells #[.slice Ao60 t441.length co60, .slice Ao65 t444.length co65] 25 (0, 0))) ∧ (w'.heap[gb466]? = some (.cells #[.slice Ao75 t459.length co75, .slice Ao81 t462.length co81] 25 (0, 0))) ∧ (w'.heap[s_.2.2]? = some (.cells #[.slice none 0 0, .slice none 0 0] 25 (0, 0))) ∧ (w.heap.size ≤ s_.2.2) ∧ (w.heap.size ≤ s_.2.2) ∧ (gb420 ≠ s_.2.2) ∧ (s_.2.2 ≠ gb420) ∧ (gb432 ≠ s_.2.2) ∧ (s_.2.2 ≠ gb432) ∧ (gb440 ≠ s_.2.2) ∧ (s_.2.2 ≠ gb440) ∧ (gb448 ≠ s_.2.2) ∧ (s_.2.2 ≠ gb448) ∧ (gb466 ≠ s_.2.2) ∧ (s_.2.2 ≠ gb466) ∧ (Below w.heap.size w w')) ?_ ?_
                   rotate_left
                   ·intro hCont
                    refine two_ (i := 8) (j := 12) (Ni := some 136) (Nj := some 19) #[t_,t_,t_,t_,t_,t_,t_,t_,t_,f_,f_,f_,f_,f_,f_] #[t_,t_,t_,t_,t_,t_,t_,t_,f_,f_,f_,f_,t_,f_,f_] rfl rfl rfl rfl (two_of HT_.out (by kernel_rfl)) (by decide) (by decide) (fun K hK => ?_) (fun K hK => ?_)
                    ·skip
                     refine goes_ Try.func11 (by kernel_rfl) rfl #[.agg #[.slice Ao75 t459.length co75, .slice Ao81 t462.length co81], .int .i64 a1, .int .i64 ((rd_T44 l0_0 a1).f5)] (by rfl) rfl rfl (by (try simp only [List.map_toArray, List.map_cons, List.map_nil]); first | done | rfl | (simp only [List.length_drop, List.length_take]; rfl)) ?_
                     with_reducible refine (flock_Lock.calls (fun k_ => (some k_ ≠ (.slice Ao69 t452.length co69 : Value).ownBlock ∧ (k_ ≠ gb420 ∧ (k_ ≠ gb432 ∧ (k_ ≠ gb440 ∧ (k_ ≠ gb448 ∧ k_ ≠ gb466)))))) _ _ t459 (fun k_ => (some k_ ≠ (.slice Ao69 t452.length co69 : Value).ownBlock ∧ (k_ ≠ gb420 ∧ (k_ ≠ gb432 ∧ (k_ ≠ gb440 ∧ (k_ ≠ gb448 ∧ k_ ≠ gb466)))))) _ _ t462 a1 ((rd_T44 l0_0 a1).f5) t468 t471 t474 _ ?side1 ?side2 A30.out).mono ?_
                     (case side1 => exact HO461.out)
                     (case side2 => exact HO464.out)
                     rintro e w84 ⟨v469, v472, rfl, ho0, ho1, hb⟩
                     refine ⟨_, rfl, ?_⟩
                     have n0_ := Am_ (Vb_ (by (with_reducible repeat (first | apply Va_ | apply Vn_ | apply Vd_)); exact HO427.out) hb)
                     have n1_ := Am_ (Vb_ (by (with_reducible repeat (first | apply Va_ | apply Vn_ | apply Vd_)); exact HO430.out) hb)
                     have n2_ := Am_ (Vb_ (by (with_reducible repeat (first | apply Va_ | apply Vn_ | apply Vd_)); exact HO435.out) hb)
                     have n3_ := Am_ (Vb_ (by (with_reducible repeat (first | apply Va_ | apply Vn_ | apply Vd_)); exact HO438.out) hb)
                     have n4_ := Am_ (Vb_ (by (with_reducible repeat (first | apply Va_ | apply Vn_ | apply Vd_)); exact HO443.out) hb)
                     have n5_ := Am_ (Vb_ (by (with_reducible repeat (first | apply Va_ | apply Vn_ | apply Vd_)); exact HO446.out) hb)
                     have n6_ := Am_ (Rb_ (by (with_reducible repeat (first | apply Ra_ | apply Rn_ | apply Rd_)); exact HO454.out) hb)
                     have n7_ := Am_ (Vb_ (by (with_reducible repeat (first | apply Va_ | apply Vn_ | apply Vd_)); exact HO457.out) hb)
                     have n8_ := Am_ (Vb_ (by (with_reducible repeat (first | apply Va_ | apply Vn_ | apply Vd_)); exact HO461.out) hb)
                     have n9_ := Am_ (Vb_ (by (with_reducible repeat (first | apply Va_ | apply Vn_ | apply Vd_)); exact HO464.out) hb)
                     have n10_ := Am_ (Vl_ (Vm_ (ok' := fun k_ => some k_ ≠ (.slice Ao69 t452.length co69 : Value).ownBlock ∧ k_ ≠ gb420 ∧ k_ ≠ gb432 ∧ k_ ≠ gb440 ∧ k_ ≠ gb448 ∧ k_ ≠ gb466) ho0 (fun k_ hk_ => ⟨Or.elim hk_ (fun hs_ => Or.elim hs_ (fun hs_ => hs_.1) (fun hs_ => hs_.1)) (fun hn_ => (Kd.fresh' (Kd.R_lt (by (with_reducible repeat (first | apply Ra_ | apply Rn_ | apply Rd_)); exact HO454.out)) k_ hn_)), Or.elim hk_ (fun hs_ => Or.elim hs_ (fun hs_ => hs_.2.1) (fun hs_ => hs_.2.1)) (fun hn_ => (Kd.freshB (g := gb420) (o := .cells #[.slice (some ad422) l0_0.length c0_0, .slice A0_1 l0_1.length c0_1] 25 (0, 0)) (by (with_reducible repeat (first | refine Bn_ ?_ _ | refine Bd_ ?_ | refine Ba_ ?_ _)); exact BK420.out) k_ hn_)), Or.elim hk_ (fun hs_ => Or.elim hs_ (fun hs_ => hs_.2.2.1) (fun hs_ => hs_.2.2.1)) (fun hn_ => (Kd.freshB (g := gb432) (o := .cells #[.slice Ao43 t425.length co43, .slice Ao46 t428.length co46] 25 (0, 0)) (by (with_reducible repeat (first | refine Bn_ ?_ _ | refine Bd_ ?_ | refine Ba_ ?_ _)); exact BK432.out) k_ hn_)), Or.elim hk_ (fun hs_ => Or.elim hs_ (fun hs_ => hs_.2.2.2.1) (fun hs_ => hs_.2.2.2.1)) (fun hn_ => (Kd.freshB (g := gb440) (o := .cells #[.slice Ao51 t433.length co51, .slice Ao55 t436.length co55] 25 (0, 0)) (by (with_reducible repeat (first | refine Bn_ ?_ _ | refine Bd_ ?_ | refine Ba_ ?_ _)); exact BK440.out) k_ hn_)), Or.elim hk_ (fun hs_ => Or.elim hs_ (fun hs_ => hs_.2.2.2.2.1) (fun hs_ => hs_.2.2.2.2.1)) (fun hn_ => (Kd.freshB (g := gb448) (o := .cells #[.slice Ao60 t441.length co60, .slice Ao65 t444.length co65] 25 (0, 0)) (by (with_reducible repeat (first | refine Bn_ ?_ _ | refine Bd_ ?_ | refine Ba_ ?_ _)); exact BK448.out) k_ hn_)), Or.elim hk_ (fun hs_ => Or.elim hs_ (fun hs_ => hs_.2.2.2.2.2) (fun hs_ => hs_.2.2.2.2.2)) (fun hn_ => (Kd.freshB (g := gb466) (o := .cells #[.slice Ao75 t459.length co75, .slice Ao81 t462.length co81] 25 (0, 0)) (by (with_reducible repeat (first | refine Bn_ ?_ _ | refine Bd_ ?_ | refine Ba_ ?_ _)); exact BK466.out) k_ hn_))⟩)) (Bz_ (by repeat (first | (with_reducible first | exact HB.out | apply Pa_ | apply Pn_ | apply Pd_ | refine Bs_ ?_ GE420.out | refine Bs_ ?_ GE432.out | refine Bs_ ?_ GE440.out | refine Bs_ ?_ GE448.out | refine Bs_ ?_ GE466.out) | exact HB.out))))
                     have n11_ := Am_ (Vl_ (Vm_ (ok' := fun k_ => some k_ ≠ (.slice Ao69 t452.length co69 : Value).ownBlock ∧ k_ ≠ gb420 ∧ k_ ≠ gb432 ∧ k_ ≠ gb440 ∧ k_ ≠ gb448 ∧ k_ ≠ gb466) ho1 (fun k_ hk_ => ⟨Or.elim hk_ (fun hs_ => Or.elim hs_ (fun hs_ => hs_.1) (fun hs_ => hs_.1)) (fun hn_ => (Kd.fresh' (Kd.R_lt (by (with_reducible repeat (first | apply Ra_ | apply Rn_ | apply Rd_)); exact HO454.out)) k_ hn_)), Or.elim hk_ (fun hs_ => Or.elim hs_ (fun hs_ => hs_.2.1) (fun hs_ => hs_.2.1)) (fun hn_ => (Kd.freshB (g := gb420) (o := .cells #[.slice (some ad422) l0_0.length c0_0, .slice A0_1 l0_1.length c0_1] 25 (0, 0)) (by (with_reducible repeat (first | refine Bn_ ?_ _ | refine Bd_ ?_ | refine Ba_ ?_ _)); exact BK420.out) k_ hn_)), Or.elim hk_ (fun hs_ => Or.elim hs_ (fun hs_ => hs_.2.2.1) (fun hs_ => hs_.2.2.1)) (fun hn_ => (Kd.freshB (g := gb432) (o := .cells #[.slice Ao43 t425.length co43, .slice Ao46 t428.length co46] 25 (0, 0)) (by (with_reducible repeat (first | refine Bn_ ?_ _ | refine Bd_ ?_ | refine Ba_ ?_ _)); exact BK432.out) k_ hn_)), Or.elim hk_ (fun hs_ => Or.elim hs_ (fun hs_ => hs_.2.2.2.1) (fun hs_ => hs_.2.2.2.1)) (fun hn_ => (Kd.freshB (g := gb440) (o := .cells #[.slice Ao51 t433.length co51, .slice Ao55 t436.length co55] 25 (0, 0)) (by (with_reducible repeat (first | refine Bn_ ?_ _ | refine Bd_ ?_ | refine Ba_ ?_ _)); exact BK440.out) k_ hn_)), Or.elim hk_ (fun hs_ => Or.elim hs_ (fun hs_ => hs_.2.2.2.2.1) (fun hs_ => hs_.2.2.2.2.1)) (fun hn_ => (Kd.freshB (g := gb448) (o := .cells #[.slice Ao60 t441.length co60, .slice Ao65 t444.length co65] 25 (0, 0)) (by (with_reducible repeat (first | refine Bn_ ?_ _ | refine Bd_ ?_ | refine Ba_ ?_ _)); exact BK448.out) k_ hn_)), Or.elim hk_ (fun hs_ => Or.elim hs_ (fun hs_ => hs_.2.2.2.2.2) (fun hs_ => hs_.2.2.2.2.2)) (fun hn_ => (Kd.freshB (g := gb466) (o := .cells #[.slice Ao75 t459.length co75, .slice Ao81 t462.length co81] 25 (0, 0)) (by (with_reducible repeat (first | refine Bn_ ?_ _ | refine Bd_ ?_ | refine Ba_ ?_ _)); exact BK466.out) k_ hn_))⟩)) (Bz_ (by repeat (first | (with_reducible first | exact HB.out | apply Pa_ | apply Pn_ | apply Pd_ | refine Bs_ ?_ GE420.out | refine Bs_ ?_ GE432.out | refine Bs_ ?_ GE440.out | refine Bs_ ?_ GE448.out | refine Bs_ ?_ GE466.out) | exact HB.out))))
                     have n12_ := Am_ (Bb_ (g := gb420) (o := .cells #[.slice (some ad422) l0_0.length c0_0, .slice A0_1 l0_1.length c0_1] 25 (0, 0)) (by (with_reducible repeat (first | refine Bn_ ?_ _ | refine Bd_ ?_ | refine Ba_ ?_ _)); exact BK420.out) hb)
                     have n13_ := Am_ (Bb_ (g := gb432) (o := .cells #[.slice Ao43 t425.length co43, .slice Ao46 t428.length co46] 25 (0, 0)) (by (with_reducible repeat (first | refine Bn_ ?_ _ | refine Bd_ ?_ | refine Ba_ ?_ _)); exact BK432.out) hb)
                     have n14_ := Am_ (Bb_ (g := gb440) (o := .cells #[.slice Ao51 t433.length co51, .slice Ao55 t436.length co55] 25 (0, 0)) (by (with_reducible repeat (first | refine Bn_ ?_ _ | refine Bd_ ?_ | refine Ba_ ?_ _)); exact BK440.out) hb)
                     have n15_ := Am_ (Bb_ (g := gb448) (o := .cells #[.slice Ao60 t441.length co60, .slice Ao65 t444.length co65] 25 (0, 0)) (by (with_reducible repeat (first | refine Bn_ ?_ _ | refine Bd_ ?_ | refine Ba_ ?_ _)); exact BK448.out) hb)
                     have n16_ := Am_ (Bb_ (g := gb466) (o := .cells #[.slice Ao75 t459.length co75, .slice Ao81 t462.length co81] 25 (0, 0)) (by (with_reducible repeat (first | refine Bn_ ?_ _ | refine Bd_ ?_ | refine Ba_ ?_ _)); exact BK466.out) hb)
                     have n17_ := Am_ (Be_ (by repeat (first | (with_reducible first | exact HB.out | apply Pa_ | apply Pn_ | apply Pd_ | refine Bs_ ?_ GE420.out | refine Bs_ ?_ GE432.out | refine Bs_ ?_ GE440.out | refine Bs_ ?_ GE448.out | refine Bs_ ?_ GE466.out) | exact HB.out)) hb)
                     clear HO427
                     clear HO430
                     clear HO435
                     clear HO438
                     clear HO443
                     clear HO446
                     clear HO454
                     clear HO457
                     clear HO461
                     clear HO464
                     clear BK420
                     clear BK432
                     clear BK440
                     clear BK448
                     clear BK466
                     clear HB
                     have HO427 := n0_
                     have HO430 := n1_
                     have HO435 := n2_
                     have HO438 := n3_
                     have HO443 := n4_
                     have HO446 := n5_
                     have HO454 := n6_
                     have HO457 := n7_
                     have HO461 := n8_
                     have HO464 := n9_
                     have HO470 := n10_
                     have HO473 := n11_
                     have BK420 := n12_
                     have BK432 := n13_
                     have BK440 := n14_
                     have BK448 := n15_
                     have BK466 := n16_
                     have HB := n17_
                     clear n0_ n1_ n2_ n3_ n4_ n5_ n6_ n7_ n8_ n9_ n10_ n11_ n12_ n13_ n14_ n15_ n16_ n17_
                     (try clear hb)
                     (try clear hb2)
                     (try clear hk)
                     (try clear hi)
                     (try clear ho0)
                     (try clear ho1)
                     refine hK.out _ _ ⟨(Bc_ BK466.out 0).trans rfl, (Bc_ BK466.out 1).trans rfl, (Bc_ BK420.out 0).trans rfl, (Bc_ BK420.out 1).trans rfl, ((HB.out.cell (Bl_ w _ hw467_0)).trans hw467_0), ((HB.out.cell (Bl_ w _ hw467_1)).trans hw467_1), ((HB.out.cell (Bl_ w _ hw467_2)).trans hw467_2), ((HB.out.cell (Bl_ w _ hw467_3)).trans hw467_3), ((HB.out.cell (Bl_ w _ hw467_4)).trans hw467_4), ((HB.out.cell (Bl_ w _ hw467_5)).trans hw467_5)⟩ (fun hHeld => ?_)
                     clear hK K
                     refine norm_ (a' := ?_) ?_ ?_
                     rotate_left
                     ·show Act.put _ (some 136) _ = _
                      simp only [Act.put, La_, Lb_, Lc_, i64_w, i32_w]
                      rfl
                     refine pure_ (i := 9) (N := some 127) (v := ?_) (a' := ?_) #[t_,t_,t_,t_,t_,t_,t_,t_,t_,t_,f_,f_,f_,f_,f_] rfl rfl (any_of HT_.out (by kernel_rfl)) (fun _ _ _ h => h) (Or.inl ⟨by rfl, ?_⟩) ?_ ?_
                     rotate_left
                     ·intro w'
                      go_simp
                      with_reducible rfl
                     rotate_left
                     ·simp only [Act.put, La_, Lb_, Lc_, i64_w, i32_w]
                      rfl
                     refine pure_ (i := 10) (N := some 137) (v := ?_) (a' := ?_) #[t_,t_,t_,t_,t_,t_,t_,t_,t_,t_,t_,f_,f_,f_,f_] rfl rfl (any_of HT_.out (by kernel_rfl)) (fun _ _ _ h => h) (Or.inl ⟨by rfl, ?_⟩) ?_ ?_
                     rotate_left
                     ·intro w'
                      go_simp
                      with_reducible rfl
                     rotate_left
                     ·simp only [Act.put, La_, Lb_, Lc_, i64_w, i32_w]
                      rfl
                     refine pure_ (i := 11) (N := some 138) (v := ?_) (a' := ?_) #[t_,t_,t_,t_,t_,t_,t_,t_,t_,t_,t_,t_,f_,f_,f_] rfl rfl (any_of HT_.out (by kernel_rfl)) (fun _ _ _ h => h) (Or.inl ⟨by rfl, ?_⟩) ?_ ?_
                     rotate_left
                     ·intro w'
                      go_simp
                      with_reducible rfl
                     rotate_left
                     ·simp only [Act.put, La_, Lb_, Lc_, i64_w, i32_w]
                      rfl
                     refine one_ (i := 12) (N := some 19) #[t_,t_,t_,t_,t_,t_,t_,t_,t_,t_,t_,t_,t_,f_,f_] rfl rfl (one_of HT_.out (by kernel_rfl)) (by decide) (fun K hK => ?_)
                     refine box_step ?hg (N := 19) ?hd (cs := #[.slice none 0 0, .slice none 0 0]) (t := 25) ?hr ?_; (case hd => rfl); (case hg => rfl); (case hr => first | (go_simp; done) | (go_simp; rfl))
                     intro gb475 hg w85 hbox hb
                     have n0_ := Am_ (Vb_ (Ke_ (by (with_reducible repeat (first | apply Va_ | apply Vn_ | apply Vd_)); exact HO427.out) gb475 (Nat.le_of_eq hg.symm)) hb)
                     have n1_ := Am_ (Vb_ (Ke_ (by (with_reducible repeat (first | apply Va_ | apply Vn_ | apply Vd_)); exact HO430.out) gb475 (Nat.le_of_eq hg.symm)) hb)
                     have n2_ := Am_ (Vb_ (Ke_ (by (with_reducible repeat (first | apply Va_ | apply Vn_ | apply Vd_)); exact HO435.out) gb475 (Nat.le_of_eq hg.symm)) hb)
                     have n3_ := Am_ (Vb_ (Ke_ (by (with_reducible repeat (first | apply Va_ | apply Vn_ | apply Vd_)); exact HO438.out) gb475 (Nat.le_of_eq hg.symm)) hb)
                     have n4_ := Am_ (Vb_ (Ke_ (by (with_reducible repeat (first | apply Va_ | apply Vn_ | apply Vd_)); exact HO443.out) gb475 (Nat.le_of_eq hg.symm)) hb)
                     have n5_ := Am_ (Vb_ (Ke_ (by (with_reducible repeat (first | apply Va_ | apply Vn_ | apply Vd_)); exact HO446.out) gb475 (Nat.le_of_eq hg.symm)) hb)
                     have n6_ := Am_ (Rb_ (by (with_reducible repeat (first | apply Ra_ | apply Rn_ | apply Rd_)); exact HO454.out) hb)
                     have n7_ := Am_ (Vb_ (Ke_ (by (with_reducible repeat (first | apply Va_ | apply Vn_ | apply Vd_)); exact HO457.out) gb475 (Nat.le_of_eq hg.symm)) hb)
                     have n8_ := Am_ (Vb_ (Ke_ (by (with_reducible repeat (first | apply Va_ | apply Vn_ | apply Vd_)); exact HO461.out) gb475 (Nat.le_of_eq hg.symm)) hb)
                     have n9_ := Am_ (Vb_ (Ke_ (by (with_reducible repeat (first | apply Va_ | apply Vn_ | apply Vd_)); exact HO464.out) gb475 (Nat.le_of_eq hg.symm)) hb)
                     have n10_ := Am_ (Vb_ (Ke_ (by (with_reducible repeat (first | apply Va_ | apply Vn_ | apply Vd_)); exact HO470.out) gb475 (Nat.le_of_eq hg.symm)) hb)
                     have n11_ := Am_ (Vb_ (Ke_ (by (with_reducible repeat (first | apply Va_ | apply Vn_ | apply Vd_)); exact HO473.out) gb475 (Nat.le_of_eq hg.symm)) hb)
                     have n12_ := Am_ (Bb_ (g := gb420) (o := .cells #[.slice (some ad422) l0_0.length c0_0, .slice A0_1 l0_1.length c0_1] 25 (0, 0)) (by (with_reducible repeat (first | refine Bn_ ?_ _ | refine Bd_ ?_ | refine Ba_ ?_ _)); exact BK420.out) hb)
                     have n13_ := Am_ (Bb_ (g := gb432) (o := .cells #[.slice Ao43 t425.length co43, .slice Ao46 t428.length co46] 25 (0, 0)) (by (with_reducible repeat (first | refine Bn_ ?_ _ | refine Bd_ ?_ | refine Ba_ ?_ _)); exact BK432.out) hb)
                     have n14_ := Am_ (Bb_ (g := gb440) (o := .cells #[.slice Ao51 t433.length co51, .slice Ao55 t436.length co55] 25 (0, 0)) (by (with_reducible repeat (first | refine Bn_ ?_ _ | refine Bd_ ?_ | refine Ba_ ?_ _)); exact BK440.out) hb)
                     have n15_ := Am_ (Bb_ (g := gb448) (o := .cells #[.slice Ao60 t441.length co60, .slice Ao65 t444.length co65] 25 (0, 0)) (by (with_reducible repeat (first | refine Bn_ ?_ _ | refine Bd_ ?_ | refine Ba_ ?_ _)); exact BK448.out) hb)
                     have n16_ := Am_ (Bb_ (g := gb466) (o := .cells #[.slice Ao75 t459.length co75, .slice Ao81 t462.length co81] 25 (0, 0)) (by (with_reducible repeat (first | refine Bn_ ?_ _ | refine Bd_ ?_ | refine Ba_ ?_ _)); exact BK466.out) hb)
                     have n17_ := Am_ (Be_ (by repeat (first | (with_reducible first | exact HB.out | apply Pa_ | apply Pn_ | apply Pd_ | refine Bs_ ?_ GE420.out | refine Bs_ ?_ GE432.out | refine Bs_ ?_ GE440.out | refine Bs_ ?_ GE448.out | refine Bs_ ?_ GE466.out) | exact HB.out)) hb)
                     have n18_ := Am_ (hbox)
                     have n19_ := Am_ ((by rw [hg]; exact (Bz_ (by repeat (first | (with_reducible first | exact HB.out | apply Pa_ | apply Pn_ | apply Pd_ | refine Bs_ ?_ GE420.out | refine Bs_ ?_ GE432.out | refine Bs_ ?_ GE440.out | refine Bs_ ?_ GE448.out | refine Bs_ ?_ GE466.out) | exact HB.out))) : w.heap.size ≤ gb475))
                     have n20_ := Am_ ((by rw [hg]; exact (Bz_ (by repeat (first | (with_reducible first | exact HB.out | apply Pa_ | apply Pn_ | apply Pd_ | refine Bs_ ?_ GE420.out | refine Bs_ ?_ GE432.out | refine Bs_ ?_ GE440.out | refine Bs_ ?_ GE448.out | refine Bs_ ?_ GE466.out) | exact HB.out))) : w.heap.size ≤ gb475))
                     have n21_ := Am_ ((by rw [hg]; exact Nat.ne_of_lt (blk_lt (g := gb420) (o := .cells #[.slice (some ad422) l0_0.length c0_0, .slice A0_1 l0_1.length c0_1] 25 (0, 0)) (by (with_reducible repeat (first | refine Bn_ ?_ _ | refine Bd_ ?_ | refine Ba_ ?_ _)); exact BK420.out)) : gb420 ≠ gb475))
                     have n22_ := Am_ ((by rw [hg]; exact Nat.ne_of_gt (blk_lt (g := gb420) (o := .cells #[.slice (some ad422) l0_0.length c0_0, .slice A0_1 l0_1.length c0_1] 25 (0, 0)) (by (with_reducible repeat (first | refine Bn_ ?_ _ | refine Bd_ ?_ | refine Ba_ ?_ _)); exact BK420.out)) : gb475 ≠ gb420))
                     have n23_ := Am_ ((by rw [hg]; exact Nat.ne_of_lt (blk_lt (g := gb432) (o := .cells #[.slice Ao43 t425.length co43, .slice Ao46 t428.length co46] 25 (0, 0)) (by (with_reducible repeat (first | refine Bn_ ?_ _ | refine Bd_ ?_ | refine Ba_ ?_ _)); exact BK432.out)) : gb432 ≠ gb475))
                     have n24_ := Am_ ((by rw [hg]; exact Nat.ne_of_gt (blk_lt (g := gb432) (o := .cells #[.slice Ao43 t425.length co43, .slice Ao46 t428.length co46] 25 (0, 0)) (by (with_reducible repeat (first | refine Bn_ ?_ _ | refine Bd_ ?_ | refine Ba_ ?_ _)); exact BK432.out)) : gb475 ≠ gb432))
                     have n25_ := Am_ ((by rw [hg]; exact Nat.ne_of_lt (blk_lt (g := gb440) (o := .cells #[.slice Ao51 t433.length co51, .slice Ao55 t436.length co55] 25 (0, 0)) (by (with_reducible repeat (first | refine Bn_ ?_ _ | refine Bd_ ?_ | refine Ba_ ?_ _)); exact BK440.out)) : gb440 ≠ gb475))
                     have n26_ := Am_ ((by rw [hg]; exact Nat.ne_of_gt (blk_lt (g := gb440) (o := .cells #[.slice Ao51 t433.length co51, .slice Ao55 t436.length co55] 25 (0, 0)) (by (with_reducible repeat (first | refine Bn_ ?_ _ | refine Bd_ ?_ | refine Ba_ ?_ _)); exact BK440.out)) : gb475 ≠ gb440))
                     have n27_ := Am_ ((by rw [hg]; exact Nat.ne_of_lt (blk_lt (g := gb448) (o := .cells #[.slice Ao60 t441.length co60, .slice Ao65 t444.length co65] 25 (0, 0)) (by (with_reducible repeat (first | refine Bn_ ?_ _ | refine Bd_ ?_ | refine Ba_ ?_ _)); exact BK448.out)) : gb448 ≠ gb475))
                     have n28_ := Am_ ((by rw [hg]; exact Nat.ne_of_gt (blk_lt (g := gb448) (o := .cells #[.slice Ao60 t441.length co60, .slice Ao65 t444.length co65] 25 (0, 0)) (by (with_reducible repeat (first | refine Bn_ ?_ _ | refine Bd_ ?_ | refine Ba_ ?_ _)); exact BK448.out)) : gb475 ≠ gb448))
                     have n29_ := Am_ ((by rw [hg]; exact Nat.ne_of_lt (blk_lt (g := gb466) (o := .cells #[.slice Ao75 t459.length co75, .slice Ao81 t462.length co81] 25 (0, 0)) (by (with_reducible repeat (first | refine Bn_ ?_ _ | refine Bd_ ?_ | refine Ba_ ?_ _)); exact BK466.out)) : gb466 ≠ gb475))
                     have n30_ := Am_ ((by rw [hg]; exact Nat.ne_of_gt (blk_lt (g := gb466) (o := .cells #[.slice Ao75 t459.length co75, .slice Ao81 t462.length co81] 25 (0, 0)) (by (with_reducible repeat (first | refine Bn_ ?_ _ | refine Bd_ ?_ | refine Ba_ ?_ _)); exact BK466.out)) : gb475 ≠ gb466))
                     clear HO427
                     clear HO430
                     clear HO435
                     clear HO438
                     clear HO443
                     clear HO446
                     clear HO454
                     clear HO457
                     clear HO461
                     clear HO464
                     clear HO470
                     clear HO473
                     clear BK420
                     clear BK432
                     clear BK440
                     clear BK448
                     clear BK466
                     clear HB
                     have HO427 := n0_
                     have HO430 := n1_
                     have HO435 := n2_
                     have HO438 := n3_
                     have HO443 := n4_
                     have HO446 := n5_
                     have HO454 := n6_
                     have HO457 := n7_
                     have HO461 := n8_
                     have HO464 := n9_
                     have HO470 := n10_
                     have HO473 := n11_
                     have BK420 := n12_
                     have BK432 := n13_
                     have BK440 := n14_
                     have BK448 := n15_
                     have BK466 := n16_
                     have HB := n17_
                     have BK475 := n18_
                     have GW475 := n19_
                     have GE475 := n20_
                     have NB420_475 := n21_
                     have NB475_420 := n22_
                     have NB432_475 := n23_
                     have NB475_432 := n24_
                     have NB440_475 := n25_
                     have NB475_440 := n26_
                     have NB448_475 := n27_
                     have NB475_448 := n28_
                     have NB466_475 := n29_
                     have NB475_466 := n30_
                     clear n0_ n1_ n2_ n3_ n4_ n5_ n6_ n7_ n8_ n9_ n10_ n11_ n12_ n13_ n14_ n15_ n16_ n17_ n18_ n19_ n20_ n21_ n22_ n23_ n24_ n25_ n26_ n27_ n28_ n29_ n30_
                     clear hb hbox hg
                     refine hK.out _ _ ⟨(Bc_ BK466.out 0).trans rfl, (Bc_ BK466.out 1).trans rfl, (Bc_ BK420.out 0).trans rfl, (Bc_ BK420.out 1).trans rfl, ((HB.out.cell (Bl_ w _ hw467_0)).trans hw467_0), ((HB.out.cell (Bl_ w _ hw467_1)).trans hw467_1), ((HB.out.cell (Bl_ w _ hw467_2)).trans hw467_2), ((HB.out.cell (Bl_ w _ hw467_3)).trans hw467_3), ((HB.out.cell (Bl_ w _ hw467_4)).trans hw467_4), ((HB.out.cell (Bl_ w _ hw467_5)).trans hw467_5)⟩ (fun hHeld => ?_)
                     clear hK K
                     refine norm_ (a' := ?_) ?_ ?_
                     rotate_left
                     ·show Act.put _ (some 19) _ = _
                      simp only [Act.put, La_, Lb_, Lc_, i64_w, i32_w]
                      rfl
                     exact norm_ (by simp only [putAll, Act.put, La_, Lb_, Lc_]) (hCont (v469, v472, gb475) _ ⟨hHeld, (by (with_reducible repeat (first | apply Va_ | apply Vn_ | apply Vd_)); exact Vm_ HO427.out (fun _ hk => ⟨hk.1.1, ⟨hk.1.2.1, ⟨hk.1.2.2.1, ⟨hk.1.2.2.2.1, ⟨hk.1.2.2.2.2.1, ⟨hk.1.2.2.2.2.2, hk.2⟩⟩⟩⟩⟩⟩)), (by (with_reducible repeat (first | apply Va_ | apply Vn_ | apply Vd_)); exact Vm_ HO430.out (fun _ hk => ⟨hk.1.1, ⟨hk.1.2.1, ⟨hk.1.2.2.1, ⟨hk.1.2.2.2.1, ⟨hk.1.2.2.2.2.1, ⟨hk.1.2.2.2.2.2, hk.2⟩⟩⟩⟩⟩⟩)), (by (with_reducible repeat (first | apply Va_ | apply Vn_ | apply Vd_)); exact Vm_ HO435.out (fun _ hk => ⟨hk.1.1, ⟨hk.1.2.1, ⟨hk.1.2.2.1, ⟨hk.1.2.2.2.1, ⟨hk.1.2.2.2.2.1, ⟨hk.1.2.2.2.2.2, hk.2⟩⟩⟩⟩⟩⟩)), (by (with_reducible repeat (first | apply Va_ | apply Vn_ | apply Vd_)); exact Vm_ HO438.out (fun _ hk => ⟨hk.1.1, ⟨hk.1.2.1, ⟨hk.1.2.2.1, ⟨hk.1.2.2.2.1, ⟨hk.1.2.2.2.2.1, ⟨hk.1.2.2.2.2.2, hk.2⟩⟩⟩⟩⟩⟩)), (by (with_reducible repeat (first | apply Va_ | apply Vn_ | apply Vd_)); exact Vm_ HO443.out (fun _ hk => ⟨hk.1.1, ⟨hk.1.2.1, ⟨hk.1.2.2.1, ⟨hk.1.2.2.2.1, ⟨hk.1.2.2.2.2.1, ⟨hk.1.2.2.2.2.2, hk.2⟩⟩⟩⟩⟩⟩)), (by (with_reducible repeat (first | apply Va_ | apply Vn_ | apply Vd_)); exact Vm_ HO446.out (fun _ hk => ⟨hk.1.1, ⟨hk.1.2.1, ⟨hk.1.2.2.1, ⟨hk.1.2.2.2.1, ⟨hk.1.2.2.2.2.1, ⟨hk.1.2.2.2.2.2, hk.2⟩⟩⟩⟩⟩⟩)), (by (with_reducible repeat (first | apply Ra_ | apply Rn_ | apply Rd_)); exact HO454.out), (by (with_reducible repeat (first | apply Va_ | apply Vn_ | apply Vd_)); exact Vm_ HO457.out (fun _ hk => ⟨hk.1.1, ⟨hk.1.2.1, ⟨hk.1.2.2.1, ⟨hk.1.2.2.2.1, ⟨hk.1.2.2.2.2.1, ⟨hk.1.2.2.2.2.2, hk.2⟩⟩⟩⟩⟩⟩)), (by (with_reducible repeat (first | apply Va_ | apply Vn_ | apply Vd_)); exact Vm_ HO461.out (fun _ hk => ⟨hk.1.1, ⟨hk.1.2.1, ⟨hk.1.2.2.1, ⟨hk.1.2.2.2.1, ⟨hk.1.2.2.2.2.1, ⟨hk.1.2.2.2.2.2, hk.2⟩⟩⟩⟩⟩⟩)), (by (with_reducible repeat (first | apply Va_ | apply Vn_ | apply Vd_)); exact Vm_ HO464.out (fun _ hk => ⟨hk.1.1, ⟨hk.1.2.1, ⟨hk.1.2.2.1, ⟨hk.1.2.2.2.1, ⟨hk.1.2.2.2.2.1, ⟨hk.1.2.2.2.2.2, hk.2⟩⟩⟩⟩⟩⟩)), (by (with_reducible repeat (first | apply Va_ | apply Vn_ | apply Vd_)); exact Vm_ HO470.out (fun _ hk => ⟨hk.1.1, ⟨hk.1.2.1, ⟨hk.1.2.2.1, ⟨hk.1.2.2.2.1, ⟨hk.1.2.2.2.2.1, ⟨hk.1.2.2.2.2.2, hk.2⟩⟩⟩⟩⟩⟩)), (by (with_reducible repeat (first | apply Va_ | apply Vn_ | apply Vd_)); exact Vm_ HO473.out (fun _ hk => ⟨hk.1.1, ⟨hk.1.2.1, ⟨hk.1.2.2.1, ⟨hk.1.2.2.2.1, ⟨hk.1.2.2.2.2.1, ⟨hk.1.2.2.2.2.2, hk.2⟩⟩⟩⟩⟩⟩)), (by (with_reducible repeat (first | refine Bn_ ?_ _ | refine Bd_ ?_ | refine Ba_ ?_ _)); exact BK420.out), (by (with_reducible repeat (first | refine Bn_ ?_ _ | refine Bd_ ?_ | refine Ba_ ?_ _)); exact BK432.out), (by (with_reducible repeat (first | refine Bn_ ?_ _ | refine Bd_ ?_ | refine Ba_ ?_ _)); exact BK440.out), (by (with_reducible repeat (first | refine Bn_ ?_ _ | refine Bd_ ?_ | refine Ba_ ?_ _)); exact BK448.out), (by (with_reducible repeat (first | refine Bn_ ?_ _ | refine Bd_ ?_ | refine Ba_ ?_ _)); exact BK466.out), (by (with_reducible repeat (first | refine Bn_ ?_ _ | refine Bd_ ?_ | refine Ba_ ?_ _)); exact BK475.out), GW475.out, GE475.out, NB420_475.out, NB475_420.out, NB432_475.out, NB475_432.out, NB440_475.out, NB475_440.out, NB448_475.out, NB475_448.out, NB466_475.out, NB475_466.out, (by repeat (first | (with_reducible first | exact HB.out | apply Pa_ | apply Pn_ | apply Pd_ | refine Bs_ ?_ GE420.out | refine Bs_ ?_ GE432.out | refine Bs_ ?_ GE440.out | refine Bs_ ?_ GE448.out | refine Bs_ ?_ GE466.out | refine Bs_ ?_ GE475.out) | exact HB.out))⟩)
                    ·skip
                     refine box_step ?hg (N := 19) ?hd (cs := #[.slice none 0 0, .slice none 0 0]) (t := 25) ?hr ?_; (case hd => rfl); (case hg => rfl); (case hr => first | (go_simp; done) | (go_simp; rfl))
                     intro gb475 hg w84 hbox hb
                     have n0_ := Am_ (Vb_ (Ke_ (by (with_reducible repeat (first | apply Va_ | apply Vn_ | apply Vd_)); exact HO427.out) gb475 (Nat.le_of_eq hg.symm)) hb)
                     have n1_ := Am_ (Vb_ (Ke_ (by (with_reducible repeat (first | apply Va_ | apply Vn_ | apply Vd_)); exact HO430.out) gb475 (Nat.le_of_eq hg.symm)) hb)
                     have n2_ := Am_ (Vb_ (Ke_ (by (with_reducible repeat (first | apply Va_ | apply Vn_ | apply Vd_)); exact HO435.out) gb475 (Nat.le_of_eq hg.symm)) hb)
                     have n3_ := Am_ (Vb_ (Ke_ (by (with_reducible repeat (first | apply Va_ | apply Vn_ | apply Vd_)); exact HO438.out) gb475 (Nat.le_of_eq hg.symm)) hb)
                     have n4_ := Am_ (Vb_ (Ke_ (by (with_reducible repeat (first | apply Va_ | apply Vn_ | apply Vd_)); exact HO443.out) gb475 (Nat.le_of_eq hg.symm)) hb)
                     have n5_ := Am_ (Vb_ (Ke_ (by (with_reducible repeat (first | apply Va_ | apply Vn_ | apply Vd_)); exact HO446.out) gb475 (Nat.le_of_eq hg.symm)) hb)
                     have n6_ := Am_ (Rb_ (by (with_reducible repeat (first | apply Ra_ | apply Rn_ | apply Rd_)); exact HO454.out) hb)
                     have n7_ := Am_ (Vb_ (Ke_ (by (with_reducible repeat (first | apply Va_ | apply Vn_ | apply Vd_)); exact HO457.out) gb475 (Nat.le_of_eq hg.symm)) hb)
                     have n8_ := Am_ (Vb_ (Ke_ (by (with_reducible repeat (first | apply Va_ | apply Vn_ | apply Vd_)); exact HO461.out) gb475 (Nat.le_of_eq hg.symm)) hb)
                     have n9_ := Am_ (Vb_ (Ke_ (by (with_reducible repeat (first | apply Va_ | apply Vn_ | apply Vd_)); exact HO464.out) gb475 (Nat.le_of_eq hg.symm)) hb)
                     have n10_ := Am_ (Bb_ (g := gb420) (o := .cells #[.slice (some ad422) l0_0.length c0_0, .slice A0_1 l0_1.length c0_1] 25 (0, 0)) (by (with_reducible repeat (first | refine Bn_ ?_ _ | refine Bd_ ?_ | refine Ba_ ?_ _)); exact BK420.out) hb)
                     have n11_ := Am_ (Bb_ (g := gb432) (o := .cells #[.slice Ao43 t425.length co43, .slice Ao46 t428.length co46] 25 (0, 0)) (by (with_reducible repeat (first | refine Bn_ ?_ _ | refine Bd_ ?_ | refine Ba_ ?_ _)); exact BK432.out) hb)
                     have n12_ := Am_ (Bb_ (g := gb440) (o := .cells #[.slice Ao51 t433.length co51, .slice Ao55 t436.length co55] 25 (0, 0)) (by (with_reducible repeat (first | refine Bn_ ?_ _ | refine Bd_ ?_ | refine Ba_ ?_ _)); exact BK440.out) hb)
                     have n13_ := Am_ (Bb_ (g := gb448) (o := .cells #[.slice Ao60 t441.length co60, .slice Ao65 t444.length co65] 25 (0, 0)) (by (with_reducible repeat (first | refine Bn_ ?_ _ | refine Bd_ ?_ | refine Ba_ ?_ _)); exact BK448.out) hb)
                     have n14_ := Am_ (Bb_ (g := gb466) (o := .cells #[.slice Ao75 t459.length co75, .slice Ao81 t462.length co81] 25 (0, 0)) (by (with_reducible repeat (first | refine Bn_ ?_ _ | refine Bd_ ?_ | refine Ba_ ?_ _)); exact BK466.out) hb)
                     have n15_ := Am_ (Be_ (by repeat (first | (with_reducible first | exact HB.out | apply Pa_ | apply Pn_ | apply Pd_ | refine Bs_ ?_ GE420.out | refine Bs_ ?_ GE432.out | refine Bs_ ?_ GE440.out | refine Bs_ ?_ GE448.out | refine Bs_ ?_ GE466.out) | exact HB.out)) hb)
                     have n16_ := Am_ (hbox)
                     have n17_ := Am_ ((by rw [hg]; exact (Bz_ (by repeat (first | (with_reducible first | exact HB.out | apply Pa_ | apply Pn_ | apply Pd_ | refine Bs_ ?_ GE420.out | refine Bs_ ?_ GE432.out | refine Bs_ ?_ GE440.out | refine Bs_ ?_ GE448.out | refine Bs_ ?_ GE466.out) | exact HB.out))) : w.heap.size ≤ gb475))
                     have n18_ := Am_ ((by rw [hg]; exact (Bz_ (by repeat (first | (with_reducible first | exact HB.out | apply Pa_ | apply Pn_ | apply Pd_ | refine Bs_ ?_ GE420.out | refine Bs_ ?_ GE432.out | refine Bs_ ?_ GE440.out | refine Bs_ ?_ GE448.out | refine Bs_ ?_ GE466.out) | exact HB.out))) : w.heap.size ≤ gb475))
                     have n19_ := Am_ ((by rw [hg]; exact Nat.ne_of_lt (blk_lt (g := gb420) (o := .cells #[.slice (some ad422) l0_0.length c0_0, .slice A0_1 l0_1.length c0_1] 25 (0, 0)) (by (with_reducible repeat (first | refine Bn_ ?_ _ | refine Bd_ ?_ | refine Ba_ ?_ _)); exact BK420.out)) : gb420 ≠ gb475))
                     have n20_ := Am_ ((by rw [hg]; exact Nat.ne_of_gt (blk_lt (g := gb420) (o := .cells #[.slice (some ad422) l0_0.length c0_0, .slice A0_1 l0_1.length c0_1] 25 (0, 0)) (by (with_reducible repeat (first | refine Bn_ ?_ _ | refine Bd_ ?_ | refine Ba_ ?_ _)); exact BK420.out)) : gb475 ≠ gb420))
                     have n21_ := Am_ ((by rw [hg]; exact Nat.ne_of_lt (blk_lt (g := gb432) (o := .cells #[.slice Ao43 t425.length co43, .slice Ao46 t428.length co46] 25 (0, 0)) (by (with_reducible repeat (first | refine Bn_ ?_ _ | refine Bd_ ?_ | refine Ba_ ?_ _)); exact BK432.out)) : gb432 ≠ gb475))
                     have n22_ := Am_ ((by rw [hg]; exact Nat.ne_of_gt (blk_lt (g := gb432) (o := .cells #[.slice Ao43 t425.length co43, .slice Ao46 t428.length co46] 25 (0, 0)) (by (with_reducible repeat (first | refine Bn_ ?_ _ | refine Bd_ ?_ | refine Ba_ ?_ _)); exact BK432.out)) : gb475 ≠ gb432))
                     have n23_ := Am_ ((by rw [hg]; exact Nat.ne_of_lt (blk_lt (g := gb440) (o := .cells #[.slice Ao51 t433.length co51, .slice Ao55 t436.length co55] 25 (0, 0)) (by (with_reducible repeat (first | refine Bn_ ?_ _ | refine Bd_ ?_ | refine Ba_ ?_ _)); exact BK440.out)) : gb440 ≠ gb475))
                     have n24_ := Am_ ((by rw [hg]; exact Nat.ne_of_gt (blk_lt (g := gb440) (o := .cells #[.slice Ao51 t433.length co51, .slice Ao55 t436.length co55] 25 (0, 0)) (by (with_reducible repeat (first | refine Bn_ ?_ _ | refine Bd_ ?_ | refine Ba_ ?_ _)); exact BK440.out)) : gb475 ≠ gb440))
                     have n25_ := Am_ ((by rw [hg]; exact Nat.ne_of_lt (blk_lt (g := gb448) (o := .cells #[.slice Ao60 t441.length co60, .slice Ao65 t444.length co65] 25 (0, 0)) (by (with_reducible repeat (first | refine Bn_ ?_ _ | refine Bd_ ?_ | refine Ba_ ?_ _)); exact BK448.out)) : gb448 ≠ gb475))
                     have n26_ := Am_ ((by rw [hg]; exact Nat.ne_of_gt (blk_lt (g := gb448) (o := .cells #[.slice Ao60 t441.length co60, .slice Ao65 t444.length co65] 25 (0, 0)) (by (with_reducible repeat (first | refine Bn_ ?_ _ | refine Bd_ ?_ | refine Ba_ ?_ _)); exact BK448.out)) : gb475 ≠ gb448))
                     have n27_ := Am_ ((by rw [hg]; exact Nat.ne_of_lt (blk_lt (g := gb466) (o := .cells #[.slice Ao75 t459.length co75, .slice Ao81 t462.length co81] 25 (0, 0)) (by (with_reducible repeat (first | refine Bn_ ?_ _ | refine Bd_ ?_ | refine Ba_ ?_ _)); exact BK466.out)) : gb466 ≠ gb475))
                     have n28_ := Am_ ((by rw [hg]; exact Nat.ne_of_gt (blk_lt (g := gb466) (o := .cells #[.slice Ao75 t459.length co75, .slice Ao81 t462.length co81] 25 (0, 0)) (by (with_reducible repeat (first | refine Bn_ ?_ _ | refine Bd_ ?_ | refine Ba_ ?_ _)); exact BK466.out)) : gb475 ≠ gb466))
                     clear HO427
                     clear HO430
                     clear HO435
                     clear HO438
                     clear HO443
                     clear HO446
                     clear HO454
                     clear HO457
                     clear HO461
                     clear HO464
                     clear BK420
                     clear BK432
                     clear BK440
                     clear BK448
                     clear BK466
                     clear HB
                     have HO427 := n0_
                     have HO430 := n1_
                     have HO435 := n2_
                     have HO438 := n3_
                     have HO443 := n4_
                     have HO446 := n5_
                     have HO454 := n6_
                     have HO457 := n7_
                     have HO461 := n8_
                     have HO464 := n9_
                     have BK420 := n10_
                     have BK432 := n11_
                     have BK440 := n12_
                     have BK448 := n13_
                     have BK466 := n14_
                     have HB := n15_
                     have BK475 := n16_
                     have GW475 := n17_
                     have GE475 := n18_
                     have NB420_475 := n19_
                     have NB475_420 := n20_
                     have NB432_475 := n21_
                     have NB475_432 := n22_
                     have NB440_475 := n23_
                     have NB475_440 := n24_
                     have NB448_475 := n25_
                     have NB475_448 := n26_
                     have NB466_475 := n27_
                     have NB475_466 := n28_
                     clear n0_ n1_ n2_ n3_ n4_ n5_ n6_ n7_ n8_ n9_ n10_ n11_ n12_ n13_ n14_ n15_ n16_ n17_ n18_ n19_ n20_ n21_ n22_ n23_ n24_ n25_ n26_ n27_ n28_
                     clear hb hbox hg
                     refine hK.out _ _ ⟨(Bc_ BK466.out 0).trans rfl, (Bc_ BK466.out 1).trans rfl, (Bc_ BK420.out 0).trans rfl, (Bc_ BK420.out 1).trans rfl, ((HB.out.cell (Bl_ w _ hw467_0)).trans hw467_0), ((HB.out.cell (Bl_ w _ hw467_1)).trans hw467_1), ((HB.out.cell (Bl_ w _ hw467_2)).trans hw467_2), ((HB.out.cell (Bl_ w _ hw467_3)).trans hw467_3), ((HB.out.cell (Bl_ w _ hw467_4)).trans hw467_4), ((HB.out.cell (Bl_ w _ hw467_5)).trans hw467_5)⟩ (fun hHeld => ?_)
                     clear hK K
                     refine norm_ (a' := ?_) ?_ ?_
                     rotate_left
                     ·show Act.put _ (some 19) _ = _
                      simp only [Act.put, La_, Lb_, Lc_, i64_w, i32_w]
                      rfl
                     refine one_ (i := 8) (N := some 136) #[t_,t_,t_,t_,t_,t_,t_,t_,t_,f_,f_,f_,t_,f_,f_] rfl rfl (one_of HT_.out (by kernel_rfl)) (by decide) (fun K hK => ?_)
                     refine goes_ Try.func11 (by kernel_rfl) rfl #[.agg #[.slice Ao75 t459.length co75, .slice Ao81 t462.length co81], .int .i64 a1, .int .i64 ((rd_T44 l0_0 a1).f5)] (by rfl) rfl rfl (by (try simp only [List.map_toArray, List.map_cons, List.map_nil]); first | done | rfl | (simp only [List.length_drop, List.length_take]; rfl)) ?_
                     with_reducible refine (flock_Lock.calls (fun k_ => ((some k_ ≠ (.slice Ao69 t452.length co69 : Value).ownBlock ∧ (k_ ≠ gb420 ∧ (k_ ≠ gb432 ∧ (k_ ≠ gb440 ∧ (k_ ≠ gb448 ∧ k_ ≠ gb466))))) ∧ k_ ≠ gb475)) _ _ t459 (fun k_ => ((some k_ ≠ (.slice Ao69 t452.length co69 : Value).ownBlock ∧ (k_ ≠ gb420 ∧ (k_ ≠ gb432 ∧ (k_ ≠ gb440 ∧ (k_ ≠ gb448 ∧ k_ ≠ gb466))))) ∧ k_ ≠ gb475)) _ _ t462 a1 ((rd_T44 l0_0 a1).f5) t468 t471 t474 _ ?side1 ?side2 A30.out).mono ?_
                     (case side1 => exact HO461.out)
                     (case side2 => exact HO464.out)
                     rintro e w85 ⟨v469, v472, rfl, ho0, ho1, hb⟩
                     refine ⟨_, rfl, ?_⟩
                     have n0_ := Am_ (Vb_ (by (with_reducible repeat (first | apply Va_ | apply Vn_ | apply Vd_)); exact HO427.out) hb)
                     have n1_ := Am_ (Vb_ (by (with_reducible repeat (first | apply Va_ | apply Vn_ | apply Vd_)); exact HO430.out) hb)
                     have n2_ := Am_ (Vb_ (by (with_reducible repeat (first | apply Va_ | apply Vn_ | apply Vd_)); exact HO435.out) hb)
                     have n3_ := Am_ (Vb_ (by (with_reducible repeat (first | apply Va_ | apply Vn_ | apply Vd_)); exact HO438.out) hb)
                     have n4_ := Am_ (Vb_ (by (with_reducible repeat (first | apply Va_ | apply Vn_ | apply Vd_)); exact HO443.out) hb)
                     have n5_ := Am_ (Vb_ (by (with_reducible repeat (first | apply Va_ | apply Vn_ | apply Vd_)); exact HO446.out) hb)
                     have n6_ := Am_ (Rb_ (by (with_reducible repeat (first | apply Ra_ | apply Rn_ | apply Rd_)); exact HO454.out) hb)
                     have n7_ := Am_ (Vb_ (by (with_reducible repeat (first | apply Va_ | apply Vn_ | apply Vd_)); exact HO457.out) hb)
                     have n8_ := Am_ (Vb_ (by (with_reducible repeat (first | apply Va_ | apply Vn_ | apply Vd_)); exact HO461.out) hb)
                     have n9_ := Am_ (Vb_ (by (with_reducible repeat (first | apply Va_ | apply Vn_ | apply Vd_)); exact HO464.out) hb)
                     have n10_ := Am_ (Vl_ (Vm_ (ok' := fun k_ => some k_ ≠ (.slice Ao69 t452.length co69 : Value).ownBlock ∧ k_ ≠ gb420 ∧ k_ ≠ gb432 ∧ k_ ≠ gb440 ∧ k_ ≠ gb448 ∧ k_ ≠ gb466 ∧ k_ ≠ gb475) ho0 (fun k_ hk_ => ⟨Or.elim hk_ (fun hs_ => Or.elim hs_ (fun hs_ => hs_.1.1) (fun hs_ => hs_.1.1)) (fun hn_ => (Kd.fresh' (Kd.R_lt (by (with_reducible repeat (first | apply Ra_ | apply Rn_ | apply Rd_)); exact HO454.out)) k_ hn_)), Or.elim hk_ (fun hs_ => Or.elim hs_ (fun hs_ => hs_.1.2.1) (fun hs_ => hs_.1.2.1)) (fun hn_ => (Kd.freshB (g := gb420) (o := .cells #[.slice (some ad422) l0_0.length c0_0, .slice A0_1 l0_1.length c0_1] 25 (0, 0)) (by (with_reducible repeat (first | refine Bn_ ?_ _ | refine Bd_ ?_ | refine Ba_ ?_ _)); exact BK420.out) k_ hn_)), Or.elim hk_ (fun hs_ => Or.elim hs_ (fun hs_ => hs_.1.2.2.1) (fun hs_ => hs_.1.2.2.1)) (fun hn_ => (Kd.freshB (g := gb432) (o := .cells #[.slice Ao43 t425.length co43, .slice Ao46 t428.length co46] 25 (0, 0)) (by (with_reducible repeat (first | refine Bn_ ?_ _ | refine Bd_ ?_ | refine Ba_ ?_ _)); exact BK432.out) k_ hn_)), Or.elim hk_ (fun hs_ => Or.elim hs_ (fun hs_ => hs_.1.2.2.2.1) (fun hs_ => hs_.1.2.2.2.1)) (fun hn_ => (Kd.freshB (g := gb440) (o := .cells #[.slice Ao51 t433.length co51, .slice Ao55 t436.length co55] 25 (0, 0)) (by (with_reducible repeat (first | refine Bn_ ?_ _ | refine Bd_ ?_ | refine Ba_ ?_ _)); exact BK440.out) k_ hn_)), Or.elim hk_ (fun hs_ => Or.elim hs_ (fun hs_ => hs_.1.2.2.2.2.1) (fun hs_ => hs_.1.2.2.2.2.1)) (fun hn_ => (Kd.freshB (g := gb448) (o := .cells #[.slice Ao60 t441.length co60, .slice Ao65 t444.length co65] 25 (0, 0)) (by (with_reducible repeat (first | refine Bn_ ?_ _ | refine Bd_ ?_ | refine Ba_ ?_ _)); exact BK448.out) k_ hn_)), Or.elim hk_ (fun hs_ => Or.elim hs_ (fun hs_ => hs_.1.2.2.2.2.2) (fun hs_ => hs_.1.2.2.2.2.2)) (fun hn_ => (Kd.freshB (g := gb466) (o := .cells #[.slice Ao75 t459.length co75, .slice Ao81 t462.length co81] 25 (0, 0)) (by (with_reducible repeat (first | refine Bn_ ?_ _ | refine Bd_ ?_ | refine Ba_ ?_ _)); exact BK466.out) k_ hn_)), Or.elim hk_ (fun hs_ => Or.elim hs_ (fun hs_ => hs_.2) (fun hs_ => hs_.2)) (fun hn_ => (Kd.freshB (g := gb475) (o := .cells #[.slice none 0 0, .slice none 0 0] 25 (0, 0)) (by (with_reducible repeat (first | refine Bn_ ?_ _ | refine Bd_ ?_ | refine Ba_ ?_ _)); exact BK475.out) k_ hn_))⟩)) (Bz_ (by repeat (first | (with_reducible first | exact HB.out | apply Pa_ | apply Pn_ | apply Pd_ | refine Bs_ ?_ GE420.out | refine Bs_ ?_ GE432.out | refine Bs_ ?_ GE440.out | refine Bs_ ?_ GE448.out | refine Bs_ ?_ GE466.out | refine Bs_ ?_ GE475.out) | exact HB.out))))
                     have n11_ := Am_ (Vl_ (Vm_ (ok' := fun k_ => some k_ ≠ (.slice Ao69 t452.length co69 : Value).ownBlock ∧ k_ ≠ gb420 ∧ k_ ≠ gb432 ∧ k_ ≠ gb440 ∧ k_ ≠ gb448 ∧ k_ ≠ gb466 ∧ k_ ≠ gb475) ho1 (fun k_ hk_ => ⟨Or.elim hk_ (fun hs_ => Or.elim hs_ (fun hs_ => hs_.1.1) (fun hs_ => hs_.1.1)) (fun hn_ => (Kd.fresh' (Kd.R_lt (by (with_reducible repeat (first | apply Ra_ | apply Rn_ | apply Rd_)); exact HO454.out)) k_ hn_)), Or.elim hk_ (fun hs_ => Or.elim hs_ (fun hs_ => hs_.1.2.1) (fun hs_ => hs_.1.2.1)) (fun hn_ => (Kd.freshB (g := gb420) (o := .cells #[.slice (some ad422) l0_0.length c0_0, .slice A0_1 l0_1.length c0_1] 25 (0, 0)) (by (with_reducible repeat (first | refine Bn_ ?_ _ | refine Bd_ ?_ | refine Ba_ ?_ _)); exact BK420.out) k_ hn_)), Or.elim hk_ (fun hs_ => Or.elim hs_ (fun hs_ => hs_.1.2.2.1) (fun hs_ => hs_.1.2.2.1)) (fun hn_ => (Kd.freshB (g := gb432) (o := .cells #[.slice Ao43 t425.length co43, .slice Ao46 t428.length co46] 25 (0, 0)) (by (with_reducible repeat (first | refine Bn_ ?_ _ | refine Bd_ ?_ | refine Ba_ ?_ _)); exact BK432.out) k_ hn_)), Or.elim hk_ (fun hs_ => Or.elim hs_ (fun hs_ => hs_.1.2.2.2.1) (fun hs_ => hs_.1.2.2.2.1)) (fun hn_ => (Kd.freshB (g := gb440) (o := .cells #[.slice Ao51 t433.length co51, .slice Ao55 t436.length co55] 25 (0, 0)) (by (with_reducible repeat (first | refine Bn_ ?_ _ | refine Bd_ ?_ | refine Ba_ ?_ _)); exact BK440.out) k_ hn_)), Or.elim hk_ (fun hs_ => Or.elim hs_ (fun hs_ => hs_.1.2.2.2.2.1) (fun hs_ => hs_.1.2.2.2.2.1)) (fun hn_ => (Kd.freshB (g := gb448) (o := .cells #[.slice Ao60 t441.length co60, .slice Ao65 t444.length co65] 25 (0, 0)) (by (with_reducible repeat (first | refine Bn_ ?_ _ | refine Bd_ ?_ | refine Ba_ ?_ _)); exact BK448.out) k_ hn_)), Or.elim hk_ (fun hs_ => Or.elim hs_ (fun hs_ => hs_.1.2.2.2.2.2) (fun hs_ => hs_.1.2.2.2.2.2)) (fun hn_ => (Kd.freshB (g := gb466) (o := .cells #[.slice Ao75 t459.length co75, .slice Ao81 t462.length co81] 25 (0, 0)) (by (with_reducible repeat (first | refine Bn_ ?_ _ | refine Bd_ ?_ | refine Ba_ ?_ _)); exact BK466.out) k_ hn_)), Or.elim hk_ (fun hs_ => Or.elim hs_ (fun hs_ => hs_.2) (fun hs_ => hs_.2)) (fun hn_ => (Kd.freshB (g := gb475) (o := .cells #[.slice none 0 0, .slice none 0 0] 25 (0, 0)) (by (with_reducible repeat (first | refine Bn_ ?_ _ | refine Bd_ ?_ | refine Ba_ ?_ _)); exact BK475.out) k_ hn_))⟩)) (Bz_ (by repeat (first | (with_reducible first | exact HB.out | apply Pa_ | apply Pn_ | apply Pd_ | refine Bs_ ?_ GE420.out | refine Bs_ ?_ GE432.out | refine Bs_ ?_ GE440.out | refine Bs_ ?_ GE448.out | refine Bs_ ?_ GE466.out | refine Bs_ ?_ GE475.out) | exact HB.out))))
                     have n12_ := Am_ (Bb_ (g := gb420) (o := .cells #[.slice (some ad422) l0_0.length c0_0, .slice A0_1 l0_1.length c0_1] 25 (0, 0)) (by (with_reducible repeat (first | refine Bn_ ?_ _ | refine Bd_ ?_ | refine Ba_ ?_ _)); exact BK420.out) hb)
                     have n13_ := Am_ (Bb_ (g := gb432) (o := .cells #[.slice Ao43 t425.length co43, .slice Ao46 t428.length co46] 25 (0, 0)) (by (with_reducible repeat (first | refine Bn_ ?_ _ | refine Bd_ ?_ | refine Ba_ ?_ _)); exact BK432.out) hb)
                     have n14_ := Am_ (Bb_ (g := gb440) (o := .cells #[.slice Ao51 t433.length co51, .slice Ao55 t436.length co55] 25 (0, 0)) (by (with_reducible repeat (first | refine Bn_ ?_ _ | refine Bd_ ?_ | refine Ba_ ?_ _)); exact BK440.out) hb)
                     have n15_ := Am_ (Bb_ (g := gb448) (o := .cells #[.slice Ao60 t441.length co60, .slice Ao65 t444.length co65] 25 (0, 0)) (by (with_reducible repeat (first | refine Bn_ ?_ _ | refine Bd_ ?_ | refine Ba_ ?_ _)); exact BK448.out) hb)
                     have n16_ := Am_ (Bb_ (g := gb466) (o := .cells #[.slice Ao75 t459.length co75, .slice Ao81 t462.length co81] 25 (0, 0)) (by (with_reducible repeat (first | refine Bn_ ?_ _ | refine Bd_ ?_ | refine Ba_ ?_ _)); exact BK466.out) hb)
                     have n17_ := Am_ (Bb_ (g := gb475) (o := .cells #[.slice none 0 0, .slice none 0 0] 25 (0, 0)) (by (with_reducible repeat (first | refine Bn_ ?_ _ | refine Bd_ ?_ | refine Ba_ ?_ _)); exact BK475.out) hb)
                     have n18_ := Am_ (Be_ (by repeat (first | (with_reducible first | exact HB.out | apply Pa_ | apply Pn_ | apply Pd_ | refine Bs_ ?_ GE420.out | refine Bs_ ?_ GE432.out | refine Bs_ ?_ GE440.out | refine Bs_ ?_ GE448.out | refine Bs_ ?_ GE466.out | refine Bs_ ?_ GE475.out) | exact HB.out)) hb)
                     clear HO427
                     clear HO430
                     clear HO435
                     clear HO438
                     clear HO443
                     clear HO446
                     clear HO454
                     clear HO457
                     clear HO461
                     clear HO464
                     clear BK420
                     clear BK432
                     clear BK440
                     clear BK448
                     clear BK466
                     clear BK475
                     clear HB
                     have HO427 := n0_
                     have HO430 := n1_
                     have HO435 := n2_
                     have HO438 := n3_
                     have HO443 := n4_
                     have HO446 := n5_
                     have HO454 := n6_
                     have HO457 := n7_
                     have HO461 := n8_
                     have HO464 := n9_
                     have HO470 := n10_
                     have HO473 := n11_
                     have BK420 := n12_
                     have BK432 := n13_
                     have BK440 := n14_
                     have BK448 := n15_
                     have BK466 := n16_
                     have BK475 := n17_
                     have HB := n18_
                     clear n0_ n1_ n2_ n3_ n4_ n5_ n6_ n7_ n8_ n9_ n10_ n11_ n12_ n13_ n14_ n15_ n16_ n17_ n18_
                     (try clear hb)
                     (try clear hb2)
                     (try clear hk)
                     (try clear hi)
                     (try clear ho0)
                     (try clear ho1)
                     refine hK.out _ _ ⟨(Bc_ BK466.out 0).trans rfl, (Bc_ BK466.out 1).trans rfl, (Bc_ BK420.out 0).trans rfl, (Bc_ BK420.out 1).trans rfl, ((HB.out.cell (Bl_ w _ hw467_0)).trans hw467_0), ((HB.out.cell (Bl_ w _ hw467_1)).trans hw467_1), ((HB.out.cell (Bl_ w _ hw467_2)).trans hw467_2), ((HB.out.cell (Bl_ w _ hw467_3)).trans hw467_3), ((HB.out.cell (Bl_ w _ hw467_4)).trans hw467_4), ((HB.out.cell (Bl_ w _ hw467_5)).trans hw467_5)⟩ (fun hHeld => ?_)
                     clear hK K
                     refine norm_ (a' := ?_) ?_ ?_
                     rotate_left
                     ·show Act.put _ (some 136) _ = _
                      simp only [Act.put, La_, Lb_, Lc_, i64_w, i32_w]
                      rfl
                     refine pure_ (i := 9) (N := some 127) (v := ?_) (a' := ?_) #[t_,t_,t_,t_,t_,t_,t_,t_,t_,t_,f_,f_,t_,f_,f_] rfl rfl (any_of HT_.out (by kernel_rfl)) (fun _ _ _ h => h) (Or.inl ⟨by rfl, ?_⟩) ?_ ?_
                     rotate_left
                     ·intro w'
                      go_simp
                      with_reducible rfl
                     rotate_left
                     ·simp only [Act.put, La_, Lb_, Lc_, i64_w, i32_w]
                      rfl
                     refine pure_ (i := 10) (N := some 137) (v := ?_) (a' := ?_) #[t_,t_,t_,t_,t_,t_,t_,t_,t_,t_,t_,f_,t_,f_,f_] rfl rfl (any_of HT_.out (by kernel_rfl)) (fun _ _ _ h => h) (Or.inl ⟨by rfl, ?_⟩) ?_ ?_
                     rotate_left
                     ·intro w'
                      go_simp
                      with_reducible rfl
                     rotate_left
                     ·simp only [Act.put, La_, Lb_, Lc_, i64_w, i32_w]
                      rfl
                     refine pure_ (i := 11) (N := some 138) (v := ?_) (a' := ?_) #[t_,t_,t_,t_,t_,t_,t_,t_,t_,t_,t_,t_,t_,f_,f_] rfl rfl (any_of HT_.out (by kernel_rfl)) (fun _ _ _ h => h) (Or.inl ⟨by rfl, ?_⟩) ?_ ?_
                     rotate_left
                     ·intro w'
                      go_simp
                      with_reducible rfl
                     rotate_left
                     ·simp only [Act.put, La_, Lb_, Lc_, i64_w, i32_w]
                      rfl
                     exact norm_ (by simp only [putAll, Act.put, La_, Lb_, Lc_]) (hCont (v469, v472, gb475) _ ⟨hHeld, (by (with_reducible repeat (first | apply Va_ | apply Vn_ | apply Vd_)); exact Vm_ HO427.out (fun _ hk => ⟨hk.1.1, ⟨hk.1.2.1, ⟨hk.1.2.2.1, ⟨hk.1.2.2.2.1, ⟨hk.1.2.2.2.2.1, ⟨hk.1.2.2.2.2.2, hk.2⟩⟩⟩⟩⟩⟩)), (by (with_reducible repeat (first | apply Va_ | apply Vn_ | apply Vd_)); exact Vm_ HO430.out (fun _ hk => ⟨hk.1.1, ⟨hk.1.2.1, ⟨hk.1.2.2.1, ⟨hk.1.2.2.2.1, ⟨hk.1.2.2.2.2.1, ⟨hk.1.2.2.2.2.2, hk.2⟩⟩⟩⟩⟩⟩)), (by (with_reducible repeat (first | apply Va_ | apply Vn_ | apply Vd_)); exact Vm_ HO435.out (fun _ hk => ⟨hk.1.1, ⟨hk.1.2.1, ⟨hk.1.2.2.1, ⟨hk.1.2.2.2.1, ⟨hk.1.2.2.2.2.1, ⟨hk.1.2.2.2.2.2, hk.2⟩⟩⟩⟩⟩⟩)), (by (with_reducible repeat (first | apply Va_ | apply Vn_ | apply Vd_)); exact Vm_ HO438.out (fun _ hk => ⟨hk.1.1, ⟨hk.1.2.1, ⟨hk.1.2.2.1, ⟨hk.1.2.2.2.1, ⟨hk.1.2.2.2.2.1, ⟨hk.1.2.2.2.2.2, hk.2⟩⟩⟩⟩⟩⟩)), (by (with_reducible repeat (first | apply Va_ | apply Vn_ | apply Vd_)); exact Vm_ HO443.out (fun _ hk => ⟨hk.1.1, ⟨hk.1.2.1, ⟨hk.1.2.2.1, ⟨hk.1.2.2.2.1, ⟨hk.1.2.2.2.2.1, ⟨hk.1.2.2.2.2.2, hk.2⟩⟩⟩⟩⟩⟩)), (by (with_reducible repeat (first | apply Va_ | apply Vn_ | apply Vd_)); exact Vm_ HO446.out (fun _ hk => ⟨hk.1.1, ⟨hk.1.2.1, ⟨hk.1.2.2.1, ⟨hk.1.2.2.2.1, ⟨hk.1.2.2.2.2.1, ⟨hk.1.2.2.2.2.2, hk.2⟩⟩⟩⟩⟩⟩)), (by (with_reducible repeat (first | apply Ra_ | apply Rn_ | apply Rd_)); exact HO454.out), (by (with_reducible repeat (first | apply Va_ | apply Vn_ | apply Vd_)); exact Vm_ HO457.out (fun _ hk => ⟨hk.1.1, ⟨hk.1.2.1, ⟨hk.1.2.2.1, ⟨hk.1.2.2.2.1, ⟨hk.1.2.2.2.2.1, ⟨hk.1.2.2.2.2.2, hk.2⟩⟩⟩⟩⟩⟩)), (by (with_reducible repeat (first | apply Va_ | apply Vn_ | apply Vd_)); exact Vm_ HO461.out (fun _ hk => ⟨hk.1.1, ⟨hk.1.2.1, ⟨hk.1.2.2.1, ⟨hk.1.2.2.2.1, ⟨hk.1.2.2.2.2.1, ⟨hk.1.2.2.2.2.2, hk.2⟩⟩⟩⟩⟩⟩)), (by (with_reducible repeat (first | apply Va_ | apply Vn_ | apply Vd_)); exact Vm_ HO464.out (fun _ hk => ⟨hk.1.1, ⟨hk.1.2.1, ⟨hk.1.2.2.1, ⟨hk.1.2.2.2.1, ⟨hk.1.2.2.2.2.1, ⟨hk.1.2.2.2.2.2, hk.2⟩⟩⟩⟩⟩⟩)), (by (with_reducible repeat (first | apply Va_ | apply Vn_ | apply Vd_)); exact HO470.out), (by (with_reducible repeat (first | apply Va_ | apply Vn_ | apply Vd_)); exact HO473.out), (by (with_reducible repeat (first | refine Bn_ ?_ _ | refine Bd_ ?_ | refine Ba_ ?_ _)); exact BK420.out), (by (with_reducible repeat (first | refine Bn_ ?_ _ | refine Bd_ ?_ | refine Ba_ ?_ _)); exact BK432.out), (by (with_reducible repeat (first | refine Bn_ ?_ _ | refine Bd_ ?_ | refine Ba_ ?_ _)); exact BK440.out), (by (with_reducible repeat (first | refine Bn_ ?_ _ | refine Bd_ ?_ | refine Ba_ ?_ _)); exact BK448.out), (by (with_reducible repeat (first | refine Bn_ ?_ _ | refine Bd_ ?_ | refine Ba_ ?_ _)); exact BK466.out), (by (with_reducible repeat (first | refine Bn_ ?_ _ | refine Bd_ ?_ | refine Ba_ ?_ _)); exact BK475.out), GW475.out, GE475.out, NB420_475.out, NB475_420.out, NB432_475.out, NB475_432.out, NB440_475.out, NB475_440.out, NB448_475.out, NB475_448.out, NB466_475.out, NB475_466.out, (by repeat (first | (with_reducible first | exact HB.out | apply Pa_ | apply Pn_ | apply Pd_ | refine Bs_ ?_ GE420.out | refine Bs_ ?_ GE432.out | refine Bs_ ?_ GE440.out | refine Bs_ ?_ GE448.out | refine Bs_ ?_ GE466.out | refine Bs_ ?_ GE475.out) | exact HB.out))⟩)
                   rintro ⟨v469, v472, gb475⟩ w86 ⟨hS_, h0_, h1_, h2_, h3_, h4_, h5_, h6_, h7_, h8_, h9_, h10_, h11_, h12_, h13_, h14_, h15_, h16_, h17_, h18_, h19_, h20_, h21_, h22_, h23_, h24_, h25_, h26_, h27_, h28_, h29_, h30_⟩
                   have n0_ : Aside0 (Kd.V k44 44 w86 w.heap.size (fun k_ => some k_ ≠ (.slice Ao69 t452.length co69 : Value).ownBlock ∧ k_ ≠ gb420 ∧ k_ ≠ gb432 ∧ k_ ≠ gb440 ∧ k_ ≠ gb448 ∧ k_ ≠ gb466 ∧ k_ ≠ gb475) (.slice Ao43 t425.length co43) t425) := ⟨h0_⟩
                   have n1_ : Aside0 (Kd.V (Kd.slice 3 (Kd.int .i64)) 48 w86 w.heap.size (fun k_ => some k_ ≠ (.slice Ao69 t452.length co69 : Value).ownBlock ∧ k_ ≠ gb420 ∧ k_ ≠ gb432 ∧ k_ ≠ gb440 ∧ k_ ≠ gb448 ∧ k_ ≠ gb466 ∧ k_ ≠ gb475) (.slice Ao46 t428.length co46) t428) := ⟨h1_⟩
                   have n2_ : Aside0 (Kd.V k44 44 w86 w.heap.size (fun k_ => some k_ ≠ (.slice Ao69 t452.length co69 : Value).ownBlock ∧ k_ ≠ gb420 ∧ k_ ≠ gb432 ∧ k_ ≠ gb440 ∧ k_ ≠ gb448 ∧ k_ ≠ gb466 ∧ k_ ≠ gb475) (.slice Ao51 t433.length co51) t433) := ⟨h2_⟩
                   have n3_ : Aside0 (Kd.V (Kd.slice 3 (Kd.int .i64)) 48 w86 w.heap.size (fun k_ => some k_ ≠ (.slice Ao69 t452.length co69 : Value).ownBlock ∧ k_ ≠ gb420 ∧ k_ ≠ gb432 ∧ k_ ≠ gb440 ∧ k_ ≠ gb448 ∧ k_ ≠ gb466 ∧ k_ ≠ gb475) (.slice Ao55 t436.length co55) t436) := ⟨h3_⟩
                   have n4_ : Aside0 (Kd.V k44 44 w86 w.heap.size (fun k_ => some k_ ≠ (.slice Ao69 t452.length co69 : Value).ownBlock ∧ k_ ≠ gb420 ∧ k_ ≠ gb432 ∧ k_ ≠ gb440 ∧ k_ ≠ gb448 ∧ k_ ≠ gb466 ∧ k_ ≠ gb475) (.slice Ao60 t441.length co60) t441) := ⟨h4_⟩
                   have n5_ : Aside0 (Kd.V (Kd.slice 3 (Kd.int .i64)) 48 w86 w.heap.size (fun k_ => some k_ ≠ (.slice Ao69 t452.length co69 : Value).ownBlock ∧ k_ ≠ gb420 ∧ k_ ≠ gb432 ∧ k_ ≠ gb440 ∧ k_ ≠ gb448 ∧ k_ ≠ gb466 ∧ k_ ≠ gb475) (.slice Ao65 t444.length co65) t444) := ⟨h5_⟩
                   have n6_ : Aside0 (Kd.R k52 52 w86 w.heap.size (fun _ => True) (.slice Ao69 t452.length co69) t452) := ⟨h6_⟩
                   have n7_ : Aside0 (Kd.V (Kd.slice 3 (Kd.int .i64)) 48 w86 w.heap.size (fun k_ => some k_ ≠ (.slice Ao69 t452.length co69 : Value).ownBlock ∧ k_ ≠ gb420 ∧ k_ ≠ gb432 ∧ k_ ≠ gb440 ∧ k_ ≠ gb448 ∧ k_ ≠ gb466 ∧ k_ ≠ gb475) (.slice Ao70 t455.length co70) t455) := ⟨h7_⟩
                   have n8_ : Aside0 (Kd.V k44 44 w86 w.heap.size (fun k_ => some k_ ≠ (.slice Ao69 t452.length co69 : Value).ownBlock ∧ k_ ≠ gb420 ∧ k_ ≠ gb432 ∧ k_ ≠ gb440 ∧ k_ ≠ gb448 ∧ k_ ≠ gb466 ∧ k_ ≠ gb475) (.slice Ao75 t459.length co75) t459) := ⟨h8_⟩
                   have n9_ : Aside0 (Kd.V (Kd.slice 3 (Kd.int .i64)) 48 w86 w.heap.size (fun k_ => some k_ ≠ (.slice Ao69 t452.length co69 : Value).ownBlock ∧ k_ ≠ gb420 ∧ k_ ≠ gb432 ∧ k_ ≠ gb440 ∧ k_ ≠ gb448 ∧ k_ ≠ gb466 ∧ k_ ≠ gb475) (.slice Ao81 t462.length co81) t462) := ⟨h9_⟩
                   have n10_ : Aside0 (Kd.V k44 44 w86 w.heap.size (fun k_ => some k_ ≠ (.slice Ao69 t452.length co69 : Value).ownBlock ∧ k_ ≠ gb420 ∧ k_ ≠ gb432 ∧ k_ ≠ gb440 ∧ k_ ≠ gb448 ∧ k_ ≠ gb466 ∧ k_ ≠ gb475) v469 t468) := ⟨h10_⟩
                   have n11_ : Aside0 (Kd.V (Kd.slice 3 (Kd.int .i64)) 48 w86 w.heap.size (fun k_ => some k_ ≠ (.slice Ao69 t452.length co69 : Value).ownBlock ∧ k_ ≠ gb420 ∧ k_ ≠ gb432 ∧ k_ ≠ gb440 ∧ k_ ≠ gb448 ∧ k_ ≠ gb466 ∧ k_ ≠ gb475) v472 t471) := ⟨h11_⟩
                   have n12_ : Aside0 (w86.heap[gb420]? = some (.cells #[.slice (some ad422) l0_0.length c0_0, .slice A0_1 l0_1.length c0_1] 25 (0, 0))) := ⟨h12_⟩
                   have n13_ : Aside0 (w86.heap[gb432]? = some (.cells #[.slice Ao43 t425.length co43, .slice Ao46 t428.length co46] 25 (0, 0))) := ⟨h13_⟩
                   have n14_ : Aside0 (w86.heap[gb440]? = some (.cells #[.slice Ao51 t433.length co51, .slice Ao55 t436.length co55] 25 (0, 0))) := ⟨h14_⟩
                   have n15_ : Aside0 (w86.heap[gb448]? = some (.cells #[.slice Ao60 t441.length co60, .slice Ao65 t444.length co65] 25 (0, 0))) := ⟨h15_⟩
                   have n16_ : Aside0 (w86.heap[gb466]? = some (.cells #[.slice Ao75 t459.length co75, .slice Ao81 t462.length co81] 25 (0, 0))) := ⟨h16_⟩
                   have n17_ : Aside0 (w86.heap[gb475]? = some (.cells #[.slice none 0 0, .slice none 0 0] 25 (0, 0))) := ⟨h17_⟩
                   have n18_ : Aside0 (w.heap.size ≤ gb475) := ⟨h18_⟩
                   have n19_ : Aside0 (w.heap.size ≤ gb475) := ⟨h19_⟩
                   have n20_ : Aside0 (gb420 ≠ gb475) := ⟨h20_⟩
                   have n21_ : Aside0 (gb475 ≠ gb420) := ⟨h21_⟩
                   have n22_ : Aside0 (gb432 ≠ gb475) := ⟨h22_⟩
                   have n23_ : Aside0 (gb475 ≠ gb432) := ⟨h23_⟩
                   have n24_ : Aside0 (gb440 ≠ gb475) := ⟨h24_⟩
                   have n25_ : Aside0 (gb475 ≠ gb440) := ⟨h25_⟩
                   have n26_ : Aside0 (gb448 ≠ gb475) := ⟨h26_⟩
                   have n27_ : Aside0 (gb475 ≠ gb448) := ⟨h27_⟩
                   have n28_ : Aside0 (gb466 ≠ gb475) := ⟨h28_⟩
                   have n29_ : Aside0 (gb475 ≠ gb466) := ⟨h29_⟩
                   have n30_ : Aside0 (Below w.heap.size w w86) := ⟨h30_⟩
                   clear HO427
                   clear HO430
                   clear HO435
                   clear HO438
                   clear HO443
                   clear HO446
                   clear HO454
                   clear HO457
                   clear HO461
                   clear HO464
                   clear BK420
                   clear BK432
                   clear BK440
                   clear BK448
                   clear BK466
                   clear HB
                   clear h0_ h1_ h2_ h3_ h4_ h5_ h6_ h7_ h8_ h9_ h10_ h11_ h12_ h13_ h14_ h15_ h16_ h17_ h18_ h19_ h20_ h21_ h22_ h23_ h24_ h25_ h26_ h27_ h28_ h29_ h30_
                   have HO427 := n0_
                   have HO430 := n1_
                   have HO435 := n2_
                   have HO438 := n3_
                   have HO443 := n4_
                   have HO446 := n5_
                   have HO454 := n6_
                   have HO457 := n7_
                   have HO461 := n8_
                   have HO464 := n9_
                   have HO470 := n10_
                   have HO473 := n11_
                   have BK420 := n12_
                   have BK432 := n13_
                   have BK440 := n14_
                   have BK448 := n15_
                   have BK466 := n16_
                   have BK475 := n17_
                   have GW475 := n18_
                   have GE475 := n19_
                   have NB420_475 := n20_
                   have NB475_420 := n21_
                   have NB432_475 := n22_
                   have NB475_432 := n23_
                   have NB440_475 := n24_
                   have NB475_440 := n25_
                   have NB448_475 := n26_
                   have NB475_448 := n27_
                   have NB466_475 := n28_
                   have NB475_466 := n29_
                   have HB := n30_
                   clear n0_ n1_ n2_ n3_ n4_ n5_ n6_ n7_ n8_ n9_ n10_ n11_ n12_ n13_ n14_ n15_ n16_ n17_ n18_ n19_ n20_ n21_ n22_ n23_ n24_ n25_ n26_ n27_ n28_ n29_ n30_
                   have hHeld : w86.cell? ⟨gb466, 0, none⟩ = some (.slice Ao75 t459.length co75) ∧ w86.cell? ⟨gb466, 1, none⟩ = some (.slice Ao81 t462.length co81) ∧ w86.cell? ⟨gb420, 0, none⟩ = some (.slice (some ad422) l0_0.length c0_0) ∧ w86.cell? ⟨gb420, 1, none⟩ = some (.slice A0_1 l0_1.length c0_1) ∧ w86.cell? (ad422.add ((a1).toNat * 6)) = some (.int .i64 ((rd_T44 l0_0 a1).f0)) ∧ w86.cell? ⟨(ad422.add ((a1).toNat * 6)).block, (ad422.add ((a1).toNat * 6)).off + 1, none⟩ = some (.int .i64 ((rd_T44 l0_0 a1).f1)) ∧ w86.cell? ⟨(ad422.add ((a1).toNat * 6)).block, (ad422.add ((a1).toNat * 6)).off + 2, none⟩ = some (.bool ((rd_T44 l0_0 a1).f2)) ∧ w86.cell? ⟨(ad422.add ((a1).toNat * 6)).block, (ad422.add ((a1).toNat * 6)).off + 3, none⟩ = some (.bool ((rd_T44 l0_0 a1).f3)) ∧ w86.cell? ⟨(ad422.add ((a1).toNat * 6)).block, (ad422.add ((a1).toNat * 6)).off + 4, none⟩ = some (.int .i64 ((rd_T44 l0_0 a1).f4)) ∧ w86.cell? ⟨(ad422.add ((a1).toNat * 6)).block, (ad422.add ((a1).toNat * 6)).off + 5, none⟩ = some (.int .i64 ((rd_T44 l0_0 a1).f5)) := hS_
                   obtain ⟨Ao87, co87, eo87⟩ := Vx_ HO470.out
                   (first | subst eo87 | (injection eo87 with f1_ f2_ f3_; have f4_ := f1_.symm; have f5_ := f3_.symm; clear f1_ f2_ f3_; subst f4_; subst f5_))
                   obtain ⟨Ao89, co89, eo89⟩ := Vx_ HO473.out
                   (first | subst eo89 | (injection eo89 with f1_ f2_ f3_; have f4_ := f1_.symm; have f5_ := f3_.symm; clear f1_ f2_ f3_; subst f4_; subst f5_))
                   refine norm_ (a' := ?_) ?_ ?_
                   rotate_left
                   ·simp only [putAll, Act.put, La_, Lb_, Lc_]
                    rfl
                   refine one_ (i := 13) (N := none) #[t_,t_,t_,t_,t_,t_,t_,t_,t_,t_,t_,t_,t_,t_,f_] rfl rfl (one_of HT_.out (by kernel_rfl)) (by decide) (fun K hK => ?_)
                   have hs88 : w86.cell? ⟨gb475, 0, none⟩ = some (.slice none 0 0) := (Bc_ BK475.out 0).trans rfl
                   have hfs88 := Bf_ BK475.out 0
                   have hns88_0 := NB420_475.out
                   have hns88_1 := NB432_475.out
                   have hns88_2 := NB440_475.out
                   have hns88_3 := NB448_475.out
                   have hns88_4 := NB466_475.out
                   have hms88_0 := NB475_420.out
                   have hms88_1 := NB475_432.out
                   have hms88_2 := NB475_440.out
                   have hms88_3 := NB475_448.out
                   have hms88_4 := NB475_466.out
                   have hs90 : w86.cell? ⟨gb475, 1, none⟩ = some (.slice none 0 0) := (Bc_ BK475.out 1).trans rfl
                   have hfs90 := Bf_ BK475.out 1
                   have hns90_0 := NB420_475.out
                   have hns90_1 := NB432_475.out
                   have hns90_2 := NB440_475.out
                   have hns90_3 := NB448_475.out
                   have hns90_4 := NB466_475.out
                   have hms90_0 := NB475_420.out
                   have hms90_1 := NB475_432.out
                   have hms90_2 := NB475_440.out
                   have hms90_3 := NB475_448.out
                   have hms90_4 := NB475_466.out
                   refine skip_ (w1 := ?_) (by rfl) rfl ?_ ?_
                   rotate_left
                   ·go_simp
                    rfl
                   refine hK.out _ _ ⟨((Cf_ (p := ⟨gb475, _, none⟩) NB466_475.out _).trans (((Cf_ (p := ⟨gb475, _, none⟩) NB466_475.out _).trans (hHeld.1)))), ((Cf_ (p := ⟨gb475, _, none⟩) NB466_475.out _).trans (((Cf_ (p := ⟨gb475, _, none⟩) NB466_475.out _).trans (hHeld.2.1)))), ((Cf_ (p := ⟨gb475, _, none⟩) NB420_475.out _).trans (((Cf_ (p := ⟨gb475, _, none⟩) NB420_475.out _).trans (hHeld.2.2.1)))), ((Cf_ (p := ⟨gb475, _, none⟩) NB420_475.out _).trans (((Cf_ (p := ⟨gb475, _, none⟩) NB420_475.out _).trans (hHeld.2.2.2.1)))), ((Cf_ (p := ⟨gb475, _, none⟩) (by first | exact Nat.ne_of_lt (Nat.lt_of_lt_of_le (by have := Bl_ _ _ hw467_0; first | rwa [Ab_] at this | exact this) GW475.out) | (rw [Ab_]; exact Nat.ne_of_lt (Nat.lt_of_lt_of_le (by have := Bl_ _ _ hw467_0; first | rwa [Ab_] at this | exact this) GW475.out)) | (show (Addr.add _ _).block ≠ _; rw [Ab_]; exact Nat.ne_of_lt (Nat.lt_of_lt_of_le (by have := Bl_ _ _ hw467_0; first | rwa [Ab_] at this | exact this) GW475.out)) | (dsimp only; exact Nat.ne_of_lt (Nat.lt_of_lt_of_le (by have := Bl_ _ _ hw467_0; first | rwa [Ab_] at this | exact this) GW475.out))) _).trans (((Cf_ (p := ⟨gb475, _, none⟩) (by first | exact Nat.ne_of_lt (Nat.lt_of_lt_of_le (by have := Bl_ _ _ hw467_0; first | rwa [Ab_] at this | exact this) GW475.out) | (rw [Ab_]; exact Nat.ne_of_lt (Nat.lt_of_lt_of_le (by have := Bl_ _ _ hw467_0; first | rwa [Ab_] at this | exact this) GW475.out)) | (show (Addr.add _ _).block ≠ _; rw [Ab_]; exact Nat.ne_of_lt (Nat.lt_of_lt_of_le (by have := Bl_ _ _ hw467_0; first | rwa [Ab_] at this | exact this) GW475.out)) | (dsimp only; exact Nat.ne_of_lt (Nat.lt_of_lt_of_le (by have := Bl_ _ _ hw467_0; first | rwa [Ab_] at this | exact this) GW475.out))) _).trans (hHeld.2.2.2.2.1)))), ((Cf_ (p := ⟨gb475, _, none⟩) (by first | exact Nat.ne_of_lt (Nat.lt_of_lt_of_le (by have := Bl_ _ _ hw467_1; first | rwa [Ab_] at this | exact this) GW475.out) | (rw [Ab_]; exact Nat.ne_of_lt (Nat.lt_of_lt_of_le (by have := Bl_ _ _ hw467_1; first | rwa [Ab_] at this | exact this) GW475.out)) | (show (Addr.add _ _).block ≠ _; rw [Ab_]; exact Nat.ne_of_lt (Nat.lt_of_lt_of_le (by have := Bl_ _ _ hw467_1; first | rwa [Ab_] at this | exact this) GW475.out)) | (dsimp only; exact Nat.ne_of_lt (Nat.lt_of_lt_of_le (by have := Bl_ _ _ hw467_1; first | rwa [Ab_] at this | exact this) GW475.out))) _).trans (((Cf_ (p := ⟨gb475, _, none⟩) (by first | exact Nat.ne_of_lt (Nat.lt_of_lt_of_le (by have := Bl_ _ _ hw467_1; first | rwa [Ab_] at this | exact this) GW475.out) | (rw [Ab_]; exact Nat.ne_of_lt (Nat.lt_of_lt_of_le (by have := Bl_ _ _ hw467_1; first | rwa [Ab_] at this | exact this) GW475.out)) | (show (Addr.add _ _).block ≠ _; rw [Ab_]; exact Nat.ne_of_lt (Nat.lt_of_lt_of_le (by have := Bl_ _ _ hw467_1; first | rwa [Ab_] at this | exact this) GW475.out)) | (dsimp only; exact Nat.ne_of_lt (Nat.lt_of_lt_of_le (by have := Bl_ _ _ hw467_1; first | rwa [Ab_] at this | exact this) GW475.out))) _).trans (hHeld.2.2.2.2.2.1)))), ((Cf_ (p := ⟨gb475, _, none⟩) (by first | exact Nat.ne_of_lt (Nat.lt_of_lt_of_le (by have := Bl_ _ _ hw467_2; first | rwa [Ab_] at this | exact this) GW475.out) | (rw [Ab_]; exact Nat.ne_of_lt (Nat.lt_of_lt_of_le (by have := Bl_ _ _ hw467_2; first | rwa [Ab_] at this | exact this) GW475.out)) | (show (Addr.add _ _).block ≠ _; rw [Ab_]; exact Nat.ne_of_lt (Nat.lt_of_lt_of_le (by have := Bl_ _ _ hw467_2; first | rwa [Ab_] at this | exact this) GW475.out)) | (dsimp only; exact Nat.ne_of_lt (Nat.lt_of_lt_of_le (by have := Bl_ _ _ hw467_2; first | rwa [Ab_] at this | exact this) GW475.out))) _).trans (((Cf_ (p := ⟨gb475, _, none⟩) (by first | exact Nat.ne_of_lt (Nat.lt_of_lt_of_le (by have := Bl_ _ _ hw467_2; first | rwa [Ab_] at this | exact this) GW475.out) | (rw [Ab_]; exact Nat.ne_of_lt (Nat.lt_of_lt_of_le (by have := Bl_ _ _ hw467_2; first | rwa [Ab_] at this | exact this) GW475.out)) | (show (Addr.add _ _).block ≠ _; rw [Ab_]; exact Nat.ne_of_lt (Nat.lt_of_lt_of_le (by have := Bl_ _ _ hw467_2; first | rwa [Ab_] at this | exact this) GW475.out)) | (dsimp only; exact Nat.ne_of_lt (Nat.lt_of_lt_of_le (by have := Bl_ _ _ hw467_2; first | rwa [Ab_] at this | exact this) GW475.out))) _).trans (hHeld.2.2.2.2.2.2.1)))), ((Cf_ (p := ⟨gb475, _, none⟩) (by first | exact Nat.ne_of_lt (Nat.lt_of_lt_of_le (by have := Bl_ _ _ hw467_3; first | rwa [Ab_] at this | exact this) GW475.out) | (rw [Ab_]; exact Nat.ne_of_lt (Nat.lt_of_lt_of_le (by have := Bl_ _ _ hw467_3; first | rwa [Ab_] at this | exact this) GW475.out)) | (show (Addr.add _ _).block ≠ _; rw [Ab_]; exact Nat.ne_of_lt (Nat.lt_of_lt_of_le (by have := Bl_ _ _ hw467_3; first | rwa [Ab_] at this | exact this) GW475.out)) | (dsimp only; exact Nat.ne_of_lt (Nat.lt_of_lt_of_le (by have := Bl_ _ _ hw467_3; first | rwa [Ab_] at this | exact this) GW475.out))) _).trans (((Cf_ (p := ⟨gb475, _, none⟩) (by first | exact Nat.ne_of_lt (Nat.lt_of_lt_of_le (by have := Bl_ _ _ hw467_3; first | rwa [Ab_] at this | exact this) GW475.out) | (rw [Ab_]; exact Nat.ne_of_lt (Nat.lt_of_lt_of_le (by have := Bl_ _ _ hw467_3; first | rwa [Ab_] at this | exact this) GW475.out)) | (show (Addr.add _ _).block ≠ _; rw [Ab_]; exact Nat.ne_of_lt (Nat.lt_of_lt_of_le (by have := Bl_ _ _ hw467_3; first | rwa [Ab_] at this | exact this) GW475.out)) | (dsimp only; exact Nat.ne_of_lt (Nat.lt_of_lt_of_le (by have := Bl_ _ _ hw467_3; first | rwa [Ab_] at this | exact this) GW475.out))) _).trans (hHeld.2.2.2.2.2.2.2.1)))), ((Cf_ (p := ⟨gb475, _, none⟩) (by first | exact Nat.ne_of_lt (Nat.lt_of_lt_of_le (by have := Bl_ _ _ hw467_4; first | rwa [Ab_] at this | exact this) GW475.out) | (rw [Ab_]; exact Nat.ne_of_lt (Nat.lt_of_lt_of_le (by have := Bl_ _ _ hw467_4; first | rwa [Ab_] at this | exact this) GW475.out)) | (show (Addr.add _ _).block ≠ _; rw [Ab_]; exact Nat.ne_of_lt (Nat.lt_of_lt_of_le (by have := Bl_ _ _ hw467_4; first | rwa [Ab_] at this | exact this) GW475.out)) | (dsimp only; exact Nat.ne_of_lt (Nat.lt_of_lt_of_le (by have := Bl_ _ _ hw467_4; first | rwa [Ab_] at this | exact this) GW475.out))) _).trans (((Cf_ (p := ⟨gb475, _, none⟩) (by first | exact Nat.ne_of_lt (Nat.lt_of_lt_of_le (by have := Bl_ _ _ hw467_4; first | rwa [Ab_] at this | exact this) GW475.out) | (rw [Ab_]; exact Nat.ne_of_lt (Nat.lt_of_lt_of_le (by have := Bl_ _ _ hw467_4; first | rwa [Ab_] at this | exact this) GW475.out)) | (show (Addr.add _ _).block ≠ _; rw [Ab_]; exact Nat.ne_of_lt (Nat.lt_of_lt_of_le (by have := Bl_ _ _ hw467_4; first | rwa [Ab_] at this | exact this) GW475.out)) | (dsimp only; exact Nat.ne_of_lt (Nat.lt_of_lt_of_le (by have := Bl_ _ _ hw467_4; first | rwa [Ab_] at this | exact this) GW475.out))) _).trans (hHeld.2.2.2.2.2.2.2.2.1)))), ((Cf_ (p := ⟨gb475, _, none⟩) (by first | exact Nat.ne_of_lt (Nat.lt_of_lt_of_le (by have := Bl_ _ _ hw467_5; first | rwa [Ab_] at this | exact this) GW475.out) | (rw [Ab_]; exact Nat.ne_of_lt (Nat.lt_of_lt_of_le (by have := Bl_ _ _ hw467_5; first | rwa [Ab_] at this | exact this) GW475.out)) | (show (Addr.add _ _).block ≠ _; rw [Ab_]; exact Nat.ne_of_lt (Nat.lt_of_lt_of_le (by have := Bl_ _ _ hw467_5; first | rwa [Ab_] at this | exact this) GW475.out)) | (dsimp only; exact Nat.ne_of_lt (Nat.lt_of_lt_of_le (by have := Bl_ _ _ hw467_5; first | rwa [Ab_] at this | exact this) GW475.out))) _).trans (((Cf_ (p := ⟨gb475, _, none⟩) (by first | exact Nat.ne_of_lt (Nat.lt_of_lt_of_le (by have := Bl_ _ _ hw467_5; first | rwa [Ab_] at this | exact this) GW475.out) | (rw [Ab_]; exact Nat.ne_of_lt (Nat.lt_of_lt_of_le (by have := Bl_ _ _ hw467_5; first | rwa [Ab_] at this | exact this) GW475.out)) | (show (Addr.add _ _).block ≠ _; rw [Ab_]; exact Nat.ne_of_lt (Nat.lt_of_lt_of_le (by have := Bl_ _ _ hw467_5; first | rwa [Ab_] at this | exact this) GW475.out)) | (dsimp only; exact Nat.ne_of_lt (Nat.lt_of_lt_of_le (by have := Bl_ _ _ hw467_5; first | rwa [Ab_] at this | exact this) GW475.out))) _).trans (hHeld.2.2.2.2.2.2.2.2.2))))⟩ (fun hHeld => ?_)
                   clear hK K
                   refine pure_ (i := 14) (N := some 20) (v := ?_) (a' := ?_) #[t_,t_,t_,t_,t_,t_,t_,t_,t_,t_,t_,t_,t_,t_,t_] rfl rfl (any_of HT_.out (by kernel_rfl)) (fun _ _ _ h => h) (Or.inl ⟨by rfl, ?_⟩) ?_ ?_
                   rotate_left
                   ·intro w'
                    go_simp
                    with_reducible rfl
                   rotate_left
                   ·simp only [Act.put, La_, Lb_, Lc_, i64_w, i32_w]
                    rfl
                   refine done_ (done_of HT_.out (by kernel_rfl)) ?_
                   try go_wp2
                   have n0_ : Aside0 (Kd.V k44 44 ((w86.setCell ⟨gb475, 0, none⟩ (.slice Ao87 t468.length co87)).setCell ⟨gb475, 1, none⟩ (.slice Ao89 t471.length co89)) w.heap.size (fun k_ => some k_ ≠ (.slice Ao69 t452.length co69 : Value).ownBlock ∧ k_ ≠ gb420 ∧ k_ ≠ gb432 ∧ k_ ≠ gb440 ∧ k_ ≠ gb448 ∧ k_ ≠ gb466 ∧ k_ ≠ gb475) (.slice Ao43 t425.length co43) t425) := ⟨by (with_reducible repeat (first | apply Va_ | apply Vn_ | apply Vd_)); exact Vm_ (Vf_ (p := ⟨gb475, 1, none⟩) (Vf_ (p := ⟨gb475, 0, none⟩) (Vm_ HO427.out (fun k_ hk => (⟨hk, hk.2.2.2.2.2.2⟩ : _ ∧ k_ ≠ gb475))) (fun _ hk => hk.2) (.slice Ao87 t468.length co87)) (fun _ hk => hk.2) (.slice Ao89 t471.length co89)) (fun _ hk => ⟨hk.1.1, ⟨hk.1.2.1, ⟨hk.1.2.2.1, ⟨hk.1.2.2.2.1, ⟨hk.1.2.2.2.2.1, ⟨hk.1.2.2.2.2.2.1, hk.1.2.2.2.2.2.2⟩⟩⟩⟩⟩⟩)⟩
                   have n1_ : Aside0 (Kd.V (Kd.slice 3 (Kd.int .i64)) 48 ((w86.setCell ⟨gb475, 0, none⟩ (.slice Ao87 t468.length co87)).setCell ⟨gb475, 1, none⟩ (.slice Ao89 t471.length co89)) w.heap.size (fun k_ => some k_ ≠ (.slice Ao69 t452.length co69 : Value).ownBlock ∧ k_ ≠ gb420 ∧ k_ ≠ gb432 ∧ k_ ≠ gb440 ∧ k_ ≠ gb448 ∧ k_ ≠ gb466 ∧ k_ ≠ gb475) (.slice Ao46 t428.length co46) t428) := ⟨by (with_reducible repeat (first | apply Va_ | apply Vn_ | apply Vd_)); exact Vm_ (Vf_ (p := ⟨gb475, 1, none⟩) (Vf_ (p := ⟨gb475, 0, none⟩) (Vm_ HO430.out (fun k_ hk => (⟨hk, hk.2.2.2.2.2.2⟩ : _ ∧ k_ ≠ gb475))) (fun _ hk => hk.2) (.slice Ao87 t468.length co87)) (fun _ hk => hk.2) (.slice Ao89 t471.length co89)) (fun _ hk => ⟨hk.1.1, ⟨hk.1.2.1, ⟨hk.1.2.2.1, ⟨hk.1.2.2.2.1, ⟨hk.1.2.2.2.2.1, ⟨hk.1.2.2.2.2.2.1, hk.1.2.2.2.2.2.2⟩⟩⟩⟩⟩⟩)⟩
                   have n2_ : Aside0 (Kd.V k44 44 ((w86.setCell ⟨gb475, 0, none⟩ (.slice Ao87 t468.length co87)).setCell ⟨gb475, 1, none⟩ (.slice Ao89 t471.length co89)) w.heap.size (fun k_ => some k_ ≠ (.slice Ao69 t452.length co69 : Value).ownBlock ∧ k_ ≠ gb420 ∧ k_ ≠ gb432 ∧ k_ ≠ gb440 ∧ k_ ≠ gb448 ∧ k_ ≠ gb466 ∧ k_ ≠ gb475) (.slice Ao51 t433.length co51) t433) := ⟨by (with_reducible repeat (first | apply Va_ | apply Vn_ | apply Vd_)); exact Vm_ (Vf_ (p := ⟨gb475, 1, none⟩) (Vf_ (p := ⟨gb475, 0, none⟩) (Vm_ HO435.out (fun k_ hk => (⟨hk, hk.2.2.2.2.2.2⟩ : _ ∧ k_ ≠ gb475))) (fun _ hk => hk.2) (.slice Ao87 t468.length co87)) (fun _ hk => hk.2) (.slice Ao89 t471.length co89)) (fun _ hk => ⟨hk.1.1, ⟨hk.1.2.1, ⟨hk.1.2.2.1, ⟨hk.1.2.2.2.1, ⟨hk.1.2.2.2.2.1, ⟨hk.1.2.2.2.2.2.1, hk.1.2.2.2.2.2.2⟩⟩⟩⟩⟩⟩)⟩
                   have n3_ : Aside0 (Kd.V (Kd.slice 3 (Kd.int .i64)) 48 ((w86.setCell ⟨gb475, 0, none⟩ (.slice Ao87 t468.length co87)).setCell ⟨gb475, 1, none⟩ (.slice Ao89 t471.length co89)) w.heap.size (fun k_ => some k_ ≠ (.slice Ao69 t452.length co69 : Value).ownBlock ∧ k_ ≠ gb420 ∧ k_ ≠ gb432 ∧ k_ ≠ gb440 ∧ k_ ≠ gb448 ∧ k_ ≠ gb466 ∧ k_ ≠ gb475) (.slice Ao55 t436.length co55) t436) := ⟨by (with_reducible repeat (first | apply Va_ | apply Vn_ | apply Vd_)); exact Vm_ (Vf_ (p := ⟨gb475, 1, none⟩) (Vf_ (p := ⟨gb475, 0, none⟩) (Vm_ HO438.out (fun k_ hk => (⟨hk, hk.2.2.2.2.2.2⟩ : _ ∧ k_ ≠ gb475))) (fun _ hk => hk.2) (.slice Ao87 t468.length co87)) (fun _ hk => hk.2) (.slice Ao89 t471.length co89)) (fun _ hk => ⟨hk.1.1, ⟨hk.1.2.1, ⟨hk.1.2.2.1, ⟨hk.1.2.2.2.1, ⟨hk.1.2.2.2.2.1, ⟨hk.1.2.2.2.2.2.1, hk.1.2.2.2.2.2.2⟩⟩⟩⟩⟩⟩)⟩
                   have n4_ : Aside0 (Kd.V k44 44 ((w86.setCell ⟨gb475, 0, none⟩ (.slice Ao87 t468.length co87)).setCell ⟨gb475, 1, none⟩ (.slice Ao89 t471.length co89)) w.heap.size (fun k_ => some k_ ≠ (.slice Ao69 t452.length co69 : Value).ownBlock ∧ k_ ≠ gb420 ∧ k_ ≠ gb432 ∧ k_ ≠ gb440 ∧ k_ ≠ gb448 ∧ k_ ≠ gb466 ∧ k_ ≠ gb475) (.slice Ao60 t441.length co60) t441) := ⟨by (with_reducible repeat (first | apply Va_ | apply Vn_ | apply Vd_)); exact Vm_ (Vf_ (p := ⟨gb475, 1, none⟩) (Vf_ (p := ⟨gb475, 0, none⟩) (Vm_ HO443.out (fun k_ hk => (⟨hk, hk.2.2.2.2.2.2⟩ : _ ∧ k_ ≠ gb475))) (fun _ hk => hk.2) (.slice Ao87 t468.length co87)) (fun _ hk => hk.2) (.slice Ao89 t471.length co89)) (fun _ hk => ⟨hk.1.1, ⟨hk.1.2.1, ⟨hk.1.2.2.1, ⟨hk.1.2.2.2.1, ⟨hk.1.2.2.2.2.1, ⟨hk.1.2.2.2.2.2.1, hk.1.2.2.2.2.2.2⟩⟩⟩⟩⟩⟩)⟩
                   have n5_ : Aside0 (Kd.V (Kd.slice 3 (Kd.int .i64)) 48 ((w86.setCell ⟨gb475, 0, none⟩ (.slice Ao87 t468.length co87)).setCell ⟨gb475, 1, none⟩ (.slice Ao89 t471.length co89)) w.heap.size (fun k_ => some k_ ≠ (.slice Ao69 t452.length co69 : Value).ownBlock ∧ k_ ≠ gb420 ∧ k_ ≠ gb432 ∧ k_ ≠ gb440 ∧ k_ ≠ gb448 ∧ k_ ≠ gb466 ∧ k_ ≠ gb475) (.slice Ao65 t444.length co65) t444) := ⟨by (with_reducible repeat (first | apply Va_ | apply Vn_ | apply Vd_)); exact Vm_ (Vf_ (p := ⟨gb475, 1, none⟩) (Vf_ (p := ⟨gb475, 0, none⟩) (Vm_ HO446.out (fun k_ hk => (⟨hk, hk.2.2.2.2.2.2⟩ : _ ∧ k_ ≠ gb475))) (fun _ hk => hk.2) (.slice Ao87 t468.length co87)) (fun _ hk => hk.2) (.slice Ao89 t471.length co89)) (fun _ hk => ⟨hk.1.1, ⟨hk.1.2.1, ⟨hk.1.2.2.1, ⟨hk.1.2.2.2.1, ⟨hk.1.2.2.2.2.1, ⟨hk.1.2.2.2.2.2.1, hk.1.2.2.2.2.2.2⟩⟩⟩⟩⟩⟩)⟩
                   have n6_ : Aside0 (Kd.R k52 52 ((w86.setCell ⟨gb475, 0, none⟩ (.slice Ao87 t468.length co87)).setCell ⟨gb475, 1, none⟩ (.slice Ao89 t471.length co89)) w.heap.size (fun _ => True) (.slice Ao69 t452.length co69) t452) := ⟨by (with_reducible repeat (first | apply Ra_ | apply Rn_ | apply Rd_)); exact Kd.R_mono (Kd.R_far (p := ⟨gb475, 1, none⟩) (Kd.R_far (p := ⟨gb475, 0, none⟩) (Kd.R_types HO454.out BK475.out (by decide)) (fun _ hk => hk.2) (.slice Ao87 t468.length co87)) (fun _ hk => hk.2) (.slice Ao89 t471.length co89)) (fun _ hk => trivial)⟩
                   have n7_ : Aside0 (Kd.V (Kd.slice 3 (Kd.int .i64)) 48 ((w86.setCell ⟨gb475, 0, none⟩ (.slice Ao87 t468.length co87)).setCell ⟨gb475, 1, none⟩ (.slice Ao89 t471.length co89)) w.heap.size (fun k_ => some k_ ≠ (.slice Ao69 t452.length co69 : Value).ownBlock ∧ k_ ≠ gb420 ∧ k_ ≠ gb432 ∧ k_ ≠ gb440 ∧ k_ ≠ gb448 ∧ k_ ≠ gb466 ∧ k_ ≠ gb475) (.slice Ao70 t455.length co70) t455) := ⟨by (with_reducible repeat (first | apply Va_ | apply Vn_ | apply Vd_)); exact Vm_ (Vf_ (p := ⟨gb475, 1, none⟩) (Vf_ (p := ⟨gb475, 0, none⟩) (Vm_ HO457.out (fun k_ hk => (⟨hk, hk.2.2.2.2.2.2⟩ : _ ∧ k_ ≠ gb475))) (fun _ hk => hk.2) (.slice Ao87 t468.length co87)) (fun _ hk => hk.2) (.slice Ao89 t471.length co89)) (fun _ hk => ⟨hk.1.1, ⟨hk.1.2.1, ⟨hk.1.2.2.1, ⟨hk.1.2.2.2.1, ⟨hk.1.2.2.2.2.1, ⟨hk.1.2.2.2.2.2.1, hk.1.2.2.2.2.2.2⟩⟩⟩⟩⟩⟩)⟩
                   have n8_ : Aside0 (Kd.V k44 44 ((w86.setCell ⟨gb475, 0, none⟩ (.slice Ao87 t468.length co87)).setCell ⟨gb475, 1, none⟩ (.slice Ao89 t471.length co89)) w.heap.size (fun k_ => some k_ ≠ (.slice Ao69 t452.length co69 : Value).ownBlock ∧ k_ ≠ gb420 ∧ k_ ≠ gb432 ∧ k_ ≠ gb440 ∧ k_ ≠ gb448 ∧ k_ ≠ gb466 ∧ k_ ≠ gb475) (.slice Ao75 t459.length co75) t459) := ⟨by (with_reducible repeat (first | apply Va_ | apply Vn_ | apply Vd_)); exact Vm_ (Vf_ (p := ⟨gb475, 1, none⟩) (Vf_ (p := ⟨gb475, 0, none⟩) (Vm_ HO461.out (fun k_ hk => (⟨hk, hk.2.2.2.2.2.2⟩ : _ ∧ k_ ≠ gb475))) (fun _ hk => hk.2) (.slice Ao87 t468.length co87)) (fun _ hk => hk.2) (.slice Ao89 t471.length co89)) (fun _ hk => ⟨hk.1.1, ⟨hk.1.2.1, ⟨hk.1.2.2.1, ⟨hk.1.2.2.2.1, ⟨hk.1.2.2.2.2.1, ⟨hk.1.2.2.2.2.2.1, hk.1.2.2.2.2.2.2⟩⟩⟩⟩⟩⟩)⟩
                   have n9_ : Aside0 (Kd.V (Kd.slice 3 (Kd.int .i64)) 48 ((w86.setCell ⟨gb475, 0, none⟩ (.slice Ao87 t468.length co87)).setCell ⟨gb475, 1, none⟩ (.slice Ao89 t471.length co89)) w.heap.size (fun k_ => some k_ ≠ (.slice Ao69 t452.length co69 : Value).ownBlock ∧ k_ ≠ gb420 ∧ k_ ≠ gb432 ∧ k_ ≠ gb440 ∧ k_ ≠ gb448 ∧ k_ ≠ gb466 ∧ k_ ≠ gb475) (.slice Ao81 t462.length co81) t462) := ⟨by (with_reducible repeat (first | apply Va_ | apply Vn_ | apply Vd_)); exact Vm_ (Vf_ (p := ⟨gb475, 1, none⟩) (Vf_ (p := ⟨gb475, 0, none⟩) (Vm_ HO464.out (fun k_ hk => (⟨hk, hk.2.2.2.2.2.2⟩ : _ ∧ k_ ≠ gb475))) (fun _ hk => hk.2) (.slice Ao87 t468.length co87)) (fun _ hk => hk.2) (.slice Ao89 t471.length co89)) (fun _ hk => ⟨hk.1.1, ⟨hk.1.2.1, ⟨hk.1.2.2.1, ⟨hk.1.2.2.2.1, ⟨hk.1.2.2.2.2.1, ⟨hk.1.2.2.2.2.2.1, hk.1.2.2.2.2.2.2⟩⟩⟩⟩⟩⟩)⟩
                   have n10_ : Aside0 (Kd.V k44 44 ((w86.setCell ⟨gb475, 0, none⟩ (.slice Ao87 t468.length co87)).setCell ⟨gb475, 1, none⟩ (.slice Ao89 t471.length co89)) w.heap.size (fun k_ => some k_ ≠ (.slice Ao69 t452.length co69 : Value).ownBlock ∧ k_ ≠ gb420 ∧ k_ ≠ gb432 ∧ k_ ≠ gb440 ∧ k_ ≠ gb448 ∧ k_ ≠ gb466 ∧ k_ ≠ gb475) (.slice Ao87 t468.length co87) t468) := ⟨by (with_reducible repeat (first | apply Va_ | apply Vn_ | apply Vd_)); exact Vm_ (Vf_ (p := ⟨gb475, 1, none⟩) (Vf_ (p := ⟨gb475, 0, none⟩) (Vm_ HO470.out (fun k_ hk => (⟨hk, hk.2.2.2.2.2.2⟩ : _ ∧ k_ ≠ gb475))) (fun _ hk => hk.2) (.slice Ao87 t468.length co87)) (fun _ hk => hk.2) (.slice Ao89 t471.length co89)) (fun _ hk => ⟨hk.1.1, ⟨hk.1.2.1, ⟨hk.1.2.2.1, ⟨hk.1.2.2.2.1, ⟨hk.1.2.2.2.2.1, ⟨hk.1.2.2.2.2.2.1, hk.1.2.2.2.2.2.2⟩⟩⟩⟩⟩⟩)⟩
                   have n11_ : Aside0 (Kd.V (Kd.slice 3 (Kd.int .i64)) 48 ((w86.setCell ⟨gb475, 0, none⟩ (.slice Ao87 t468.length co87)).setCell ⟨gb475, 1, none⟩ (.slice Ao89 t471.length co89)) w.heap.size (fun k_ => some k_ ≠ (.slice Ao69 t452.length co69 : Value).ownBlock ∧ k_ ≠ gb420 ∧ k_ ≠ gb432 ∧ k_ ≠ gb440 ∧ k_ ≠ gb448 ∧ k_ ≠ gb466 ∧ k_ ≠ gb475) (.slice Ao89 t471.length co89) t471) := ⟨by (with_reducible repeat (first | apply Va_ | apply Vn_ | apply Vd_)); exact Vm_ (Vf_ (p := ⟨gb475, 1, none⟩) (Vf_ (p := ⟨gb475, 0, none⟩) (Vm_ HO473.out (fun k_ hk => (⟨hk, hk.2.2.2.2.2.2⟩ : _ ∧ k_ ≠ gb475))) (fun _ hk => hk.2) (.slice Ao87 t468.length co87)) (fun _ hk => hk.2) (.slice Ao89 t471.length co89)) (fun _ hk => ⟨hk.1.1, ⟨hk.1.2.1, ⟨hk.1.2.2.1, ⟨hk.1.2.2.2.1, ⟨hk.1.2.2.2.2.1, ⟨hk.1.2.2.2.2.2.1, hk.1.2.2.2.2.2.2⟩⟩⟩⟩⟩⟩)⟩
                   have n12_ : Aside0 (((w86.setCell ⟨gb475, 0, none⟩ (.slice Ao87 t468.length co87)).setCell ⟨gb475, 1, none⟩ (.slice Ao89 t471.length co89)).heap[gb420]? = some (.cells #[.slice (some ad422) l0_0.length c0_0, .slice A0_1 l0_1.length c0_1] 25 (0, 0))) := ⟨by (with_reducible repeat (first | refine Bn_ ?_ _ | refine Bd_ ?_ | refine Ba_ ?_ _)); refine blk_far ?_ NB420_475.out _; (with_reducible repeat (first | refine Bn_ ?_ _ | refine Bd_ ?_ | refine Ba_ ?_ _)); refine blk_far ?_ NB420_475.out _; (with_reducible repeat (first | refine Bn_ ?_ _ | refine Bd_ ?_ | refine Ba_ ?_ _)); exact BK420.out⟩
                   have n13_ : Aside0 (((w86.setCell ⟨gb475, 0, none⟩ (.slice Ao87 t468.length co87)).setCell ⟨gb475, 1, none⟩ (.slice Ao89 t471.length co89)).heap[gb432]? = some (.cells #[.slice Ao43 t425.length co43, .slice Ao46 t428.length co46] 25 (0, 0))) := ⟨by (with_reducible repeat (first | refine Bn_ ?_ _ | refine Bd_ ?_ | refine Ba_ ?_ _)); refine blk_far ?_ NB432_475.out _; (with_reducible repeat (first | refine Bn_ ?_ _ | refine Bd_ ?_ | refine Ba_ ?_ _)); refine blk_far ?_ NB432_475.out _; (with_reducible repeat (first | refine Bn_ ?_ _ | refine Bd_ ?_ | refine Ba_ ?_ _)); exact BK432.out⟩
                   have n14_ : Aside0 (((w86.setCell ⟨gb475, 0, none⟩ (.slice Ao87 t468.length co87)).setCell ⟨gb475, 1, none⟩ (.slice Ao89 t471.length co89)).heap[gb440]? = some (.cells #[.slice Ao51 t433.length co51, .slice Ao55 t436.length co55] 25 (0, 0))) := ⟨by (with_reducible repeat (first | refine Bn_ ?_ _ | refine Bd_ ?_ | refine Ba_ ?_ _)); refine blk_far ?_ NB440_475.out _; (with_reducible repeat (first | refine Bn_ ?_ _ | refine Bd_ ?_ | refine Ba_ ?_ _)); refine blk_far ?_ NB440_475.out _; (with_reducible repeat (first | refine Bn_ ?_ _ | refine Bd_ ?_ | refine Ba_ ?_ _)); exact BK440.out⟩
                   have n15_ : Aside0 (((w86.setCell ⟨gb475, 0, none⟩ (.slice Ao87 t468.length co87)).setCell ⟨gb475, 1, none⟩ (.slice Ao89 t471.length co89)).heap[gb448]? = some (.cells #[.slice Ao60 t441.length co60, .slice Ao65 t444.length co65] 25 (0, 0))) := ⟨by (with_reducible repeat (first | refine Bn_ ?_ _ | refine Bd_ ?_ | refine Ba_ ?_ _)); refine blk_far ?_ NB448_475.out _; (with_reducible repeat (first | refine Bn_ ?_ _ | refine Bd_ ?_ | refine Ba_ ?_ _)); refine blk_far ?_ NB448_475.out _; (with_reducible repeat (first | refine Bn_ ?_ _ | refine Bd_ ?_ | refine Ba_ ?_ _)); exact BK448.out⟩
                   have n16_ : Aside0 (((w86.setCell ⟨gb475, 0, none⟩ (.slice Ao87 t468.length co87)).setCell ⟨gb475, 1, none⟩ (.slice Ao89 t471.length co89)).heap[gb466]? = some (.cells #[.slice Ao75 t459.length co75, .slice Ao81 t462.length co81] 25 (0, 0))) := ⟨by (with_reducible repeat (first | refine Bn_ ?_ _ | refine Bd_ ?_ | refine Ba_ ?_ _)); refine blk_far ?_ NB466_475.out _; (with_reducible repeat (first | refine Bn_ ?_ _ | refine Bd_ ?_ | refine Ba_ ?_ _)); refine blk_far ?_ NB466_475.out _; (with_reducible repeat (first | refine Bn_ ?_ _ | refine Bd_ ?_ | refine Ba_ ?_ _)); exact BK466.out⟩
                   have n17_ : Aside0 (((w86.setCell ⟨gb475, 0, none⟩ (.slice Ao87 t468.length co87)).setCell ⟨gb475, 1, none⟩ (.slice Ao89 t471.length co89)).heap[gb475]? = some (.cells #[.slice Ao87 t468.length co87, .slice Ao89 t471.length co89] 25 (0, 0))) := ⟨by (with_reducible repeat (first | refine Bn_ ?_ _ | refine Bd_ ?_ | refine Ba_ ?_ _)); refine Bp_ (cs := #[.slice Ao87 t468.length co87, .slice none 0 0]) ?_ 1 _ rfl; (with_reducible repeat (first | refine Bn_ ?_ _ | refine Bd_ ?_ | refine Ba_ ?_ _)); refine Bp_ (cs := #[.slice none 0 0, .slice none 0 0]) ?_ 0 _ rfl; (with_reducible repeat (first | refine Bn_ ?_ _ | refine Bd_ ?_ | refine Ba_ ?_ _)); exact BK475.out⟩
                   have n18_ : Aside0 (Below w.heap.size w ((w86.setCell ⟨gb475, 0, none⟩ (.slice Ao87 t468.length co87)).setCell ⟨gb475, 1, none⟩ (.slice Ao89 t471.length co89))) := ⟨by repeat (first | (with_reducible first | exact HB.out | apply Pa_ | apply Pn_ | apply Pd_ | refine Bs_ ?_ GE420.out | refine Bs_ ?_ GE432.out | refine Bs_ ?_ GE440.out | refine Bs_ ?_ GE448.out | refine Bs_ ?_ GE466.out | refine Bs_ ?_ GE475.out) | exact HB.out)⟩
                   (try clear HO427)
                   (try clear HO430)
                   (try clear HO435)
                   (try clear HO438)
                   (try clear HO443)
                   (try clear HO446)
                   (try clear HO454)
                   (try clear HO457)
                   (try clear HO461)
                   (try clear HO464)
                   (try clear HO470)
                   (try clear HO473)
                   (try clear BK420)
                   (try clear BK432)
                   (try clear BK440)
                   (try clear BK448)
                   (try clear BK466)
                   (try clear BK475)
                   (try clear HB)
                   generalize ((w86.setCell ⟨gb475, 0, none⟩ (.slice Ao87 t468.length co87)).setCell ⟨gb475, 1, none⟩ (.slice Ao89 t471.length co89)) = w91 at n0_ n1_ n2_ n3_ n4_ n5_ n6_ n7_ n8_ n9_ n10_ n11_ n12_ n13_ n14_ n15_ n16_ n17_ n18_ ⊢
                   have HO427 := n0_
                   have HO430 := n1_
                   have HO435 := n2_
                   have HO438 := n3_
                   have HO443 := n4_
                   have HO446 := n5_
                   have HO454 := n6_
                   have HO457 := n7_
                   have HO461 := n8_
                   have HO464 := n9_
                   have HO470 := n10_
                   have HO473 := n11_
                   have BK420 := n12_
                   have BK432 := n13_
                   have BK440 := n14_
                   have BK448 := n15_
                   have BK466 := n16_
                   have BK475 := n17_
                   have HB := n18_
                   clear n0_ n1_ n2_ n3_ n4_ n5_ n6_ n7_ n8_ n9_ n10_ n11_ n12_ n13_ n14_ n15_ n16_ n17_ n18_
                   have n0_ := Am_ (Vd_ HO427.out)
                   have n1_ := Am_ (Vd_ HO430.out)
                   have n2_ := Am_ (Vd_ HO435.out)
                   have n3_ := Am_ (Vd_ HO438.out)
                   have n4_ := Am_ (Vd_ HO443.out)
                   have n5_ := Am_ (Vd_ HO446.out)
                   have n6_ := Am_ (Rd_ HO454.out)
                   have n7_ := Am_ (Vd_ HO457.out)
                   have n8_ := Am_ (Vd_ HO461.out)
                   have n9_ := Am_ (Vd_ HO464.out)
                   have n10_ := Am_ (Vd_ HO470.out)
                   have n11_ := Am_ (Vd_ HO473.out)
                   have n12_ := Am_ (Bd_ BK420.out)
                   have n13_ := Am_ (Bd_ BK432.out)
                   have n14_ := Am_ (Bd_ BK440.out)
                   have n15_ := Am_ (Bd_ BK448.out)
                   have n16_ := Am_ (Bd_ BK466.out)
                   have n17_ := Am_ (Bd_ BK475.out)
                   have n18_ := Am_ (Pd_ HB.out)
                   clear HO427
                   clear HO430
                   clear HO435
                   clear HO438
                   clear HO443
                   clear HO446
                   clear HO454
                   clear HO457
                   clear HO461
                   clear HO464
                   clear HO470
                   clear HO473
                   clear BK420
                   clear BK432
                   clear BK440
                   clear BK448
                   clear BK466
                   clear BK475
                   clear HB
                   have HO427 := n0_
                   have HO430 := n1_
                   have HO435 := n2_
                   have HO438 := n3_
                   have HO443 := n4_
                   have HO446 := n5_
                   have HO454 := n6_
                   have HO457 := n7_
                   have HO461 := n8_
                   have HO464 := n9_
                   have HO470 := n10_
                   have HO473 := n11_
                   have BK420 := n12_
                   have BK432 := n13_
                   have BK440 := n14_
                   have BK448 := n15_
                   have BK466 := n16_
                   have BK475 := n17_
                   have HB := n18_
                   clear n0_ n1_ n2_ n3_ n4_ n5_ n6_ n7_ n8_ n9_ n10_ n11_ n12_ n13_ n14_ n15_ n16_ n17_ n18_
                   refine start_ (n := 14) (S := fun w' => w'.cell? ⟨gb475, 0, none⟩ = some (.slice Ao87 t468.length co87) ∧ w'.cell? ⟨gb475, 1, none⟩ = some (.slice Ao89 t471.length co89) ∧ w'.cell? ⟨gb420, 0, none⟩ = some (.slice (some ad422) l0_0.length c0_0) ∧ w'.cell? ⟨gb420, 1, none⟩ = some (.slice A0_1 l0_1.length c0_1)) (ds := []) #[f_,f_,f_,f_,f_,f_,f_,f_,f_,f_,f_,f_,f_,f_] (by kernel_rfl) rfl rfl ⟨(Bc_ BK475.out 0).trans rfl, (Bc_ BK475.out 1).trans rfl, (Bc_ BK420.out 0).trans rfl, (Bc_ BK420.out 1).trans rfl⟩ (fun hHeld => ?_); refine with_tabW flagstonelaw11_FlockOtherC.tab12 flagstonelaw11_FlockOtherC.bits12 (fun HT_ HW_ => ?_)
                   generalize w91.drew = w92 at HO427 HO430 HO435 HO438 HO443 HO446 HO454 HO457 HO461 HO464 HO470 HO473 BK420 BK432 BK440 BK448 BK466 BK475 HB hHeld ⊢
                   refine pure_ (i := 0) (N := some 139) (v := ?_) (a' := ?_) #[t_,f_,f_,f_,f_,f_,f_,f_,f_,f_,f_,f_,f_,f_] rfl rfl (any_of HT_.out (by kernel_rfl)) (fun _ _ _ h => h) (Or.inl ⟨by rfl, ?_⟩) ?_ ?_
                   rotate_left
                   ·intro w'
                    go_simp
                    with_reducible rfl
                   rotate_left
                   ·simp only [Act.put, La_, Lb_, Lc_, i64_w, i32_w]
                    rfl
                   refine pure_ (i := 1) (N := some 140) (v := ?_) (a' := ?_) #[t_,t_,f_,f_,f_,f_,f_,f_,f_,f_,f_,f_,f_,f_] rfl rfl (any_of HT_.out (by kernel_rfl)) (fun _ _ _ h => h) (Or.inl ⟨by rfl, ?_⟩) ?_ ?_
                   rotate_left
                   ·intro w'
                    go_simp
                    with_reducible rfl
                   rotate_left
                   ·simp only [Act.put, La_, Lb_, Lc_, i64_w, i32_w]
                    rfl
                   refine pure_ (i := 2) (N := some 141) (v := ?_) (a' := ?_) #[t_,t_,t_,f_,f_,f_,f_,f_,f_,f_,f_,f_,f_,f_] rfl rfl (any_of HT_.out (by kernel_rfl)) (fun _ _ _ h => h) (Or.inl ⟨by rfl, ?_⟩) ?_ ?_
                   rotate_left
                   ·intro w'
                    go_simp
                    with_reducible rfl
                   rotate_left
                   ·simp only [Act.put, La_, Lb_, Lc_, i64_w, i32_w]
                    rfl
                   refine pure_ (i := 3) (N := some 142) (v := ?_) (a' := ?_) #[t_,t_,t_,t_,f_,f_,f_,f_,f_,f_,f_,f_,f_,f_] rfl rfl (any_of HT_.out (by kernel_rfl)) (fun _ _ _ h => h) (Or.inl ⟨by rfl, ?_⟩) ?_ ?_
                   rotate_left
                   ·intro w'
                    go_simp
                    with_reducible rfl
                   rotate_left
                   ·simp only [Act.put, La_, Lb_, Lc_, i64_w, i32_w]
                    rfl
                   refine pure_ (i := 4) (N := some 143) (v := ?_) (a' := ?_) #[t_,t_,t_,t_,t_,f_,f_,f_,f_,f_,f_,f_,f_,f_] rfl rfl (any_of HT_.out (by kernel_rfl)) (fun _ _ _ h => h) (Or.inl ⟨by rfl, ?_⟩) ?_ ?_
                   rotate_left
                   ·intro w'
                    go_simp
                    with_reducible rfl
                   rotate_left
                   ·simp only [Act.put, La_, Lb_, Lc_, i64_w, i32_w]
                    rfl
                   refine pure_ (i := 5) (N := some 144) (v := ?_) (a' := ?_) #[t_,t_,t_,t_,t_,t_,f_,f_,f_,f_,f_,f_,f_,f_] rfl rfl (any_of HT_.out (by kernel_rfl)) (fun _ _ _ h => h) (Or.inl ⟨by rfl, ?_⟩) ?_ ?_
                   rotate_left
                   ·intro w'
                    go_simp
                    with_reducible rfl
                   rotate_left
                   ·simp only [Act.put, La_, Lb_, Lc_, i64_w, i32_w]
                    rfl
                   refine pure_ (i := 6) (N := some 145) (v := ?_) (a' := ?_) #[t_,t_,t_,t_,t_,t_,t_,f_,f_,f_,f_,f_,f_,f_] rfl rfl (any_of HT_.out (by kernel_rfl)) (fun _ _ _ h => h) (Or.inl ⟨by rfl, ?_⟩) ?_ ?_
                   rotate_left
                   ·intro w'
                    go_simp
                    with_reducible rfl
                   rotate_left
                   ·simp only [Act.put, La_, Lb_, Lc_, i64_w, i32_w]
                    rfl
                   refine take_ (i := 7) (N := some 146) (v := ?_) (a' := ?_) #[t_,t_,t_,t_,t_,t_,t_,t_,f_,f_,f_,f_,f_,f_] rfl rfl (take_ofW HT_.out HW_.out (by kernel_rfl)) (fun _ _ _ h => h) (Or.inl ⟨by rfl, ?_⟩) hHeld ?_ ?_
                   rotate_left
                   ·rintro w' ⟨s0, s1, s2, s3⟩
                    go_simp
                    with_reducible rfl
                   rotate_left
                   ·simp only [Act.put, La_, Lb_, Lc_, i64_w, i32_w]
                    rfl
                   refine take_ (i := 9) (N := some 148) (v := ?_) (a' := ?_) #[t_,t_,t_,t_,t_,t_,t_,t_,f_,t_,f_,f_,f_,f_] rfl rfl (take_ofW HT_.out HW_.out (by kernel_rfl)) (fun _ _ _ h => h) (Or.inl ⟨by rfl, ?_⟩) hHeld ?_ ?_
                   rotate_left
                   ·rintro w' ⟨s0, s1, s2, s3⟩
                    go_simp
                    with_reducible rfl
                   rotate_left
                   ·simp only [Act.put, La_, Lb_, Lc_, i64_w, i32_w]
                    rfl
                   refine one_ (i := 8) (N := some 147) #[t_,t_,t_,t_,t_,t_,t_,t_,t_,t_,f_,f_,f_,f_] rfl rfl (one_of HT_.out (by kernel_rfl)) (by decide) (fun K hK => ?_)
                   refine goes_ Try.func13 (by kernel_rfl) rfl #[.agg #[.slice Ao87 t468.length co87, .slice Ao89 t471.length co89]] (by rfl) rfl rfl (by (try simp only [List.map_toArray, List.map_cons, List.map_nil]); first | done | rfl | (simp only [List.length_drop, List.length_take]; rfl)) ?_
                   with_reducible refine (flagstonelaw11_its.calls k _ _ t468 (fun k_ => (some k_ ≠ (.slice Ao69 t452.length co69 : Value).ownBlock ∧ (k_ ≠ gb420 ∧ (k_ ≠ gb432 ∧ (k_ ≠ gb440 ∧ (k_ ≠ gb448 ∧ (k_ ≠ gb466 ∧ k_ ≠ gb475))))))) _ _ t471 t476 t479 _ ?side1 ?side2 ?side3 A33.out).mono ?_
                   (case side1 => repeat (first | exact (Vr_ HO470.out).2.2 | (with_reducible refine Kd.C_alloc ?_ _) | (with_reducible refine Kd.C_drewN ?_ _) | (with_reducible refine Kd.C_drew ?_)))
                   (case side2 => exact (Vr_ HO470.out).2.1)
                   (case side3 => exact HO473.out)
                   rintro e w93 ⟨v477, v480, rfl, ho0, ho1, hb⟩
                   refine ⟨_, rfl, ?_⟩
                   have n0_ := Am_ (Kd.V_elder' (by (with_reducible repeat (first | apply Va_ | apply Vn_ | apply Vd_)); exact HO427.out) (Kd.R_base ho0) hb)
                   have n1_ := Am_ (Kd.V_elder' (by (with_reducible repeat (first | apply Va_ | apply Vn_ | apply Vd_)); exact HO430.out) (Kd.R_base ho0) hb)
                   have n2_ := Am_ (Kd.V_elder' (by (with_reducible repeat (first | apply Va_ | apply Vn_ | apply Vd_)); exact HO435.out) (Kd.R_base ho0) hb)
                   have n3_ := Am_ (Kd.V_elder' (by (with_reducible repeat (first | apply Va_ | apply Vn_ | apply Vd_)); exact HO438.out) (Kd.R_base ho0) hb)
                   have n4_ := Am_ (Kd.V_elder' (by (with_reducible repeat (first | apply Va_ | apply Vn_ | apply Vd_)); exact HO443.out) (Kd.R_base ho0) hb)
                   have n5_ := Am_ (Kd.V_elder' (by (with_reducible repeat (first | apply Va_ | apply Vn_ | apply Vd_)); exact HO446.out) (Kd.R_base ho0) hb)
                   have n6_ := Am_ (Kd.R_elder' (by (with_reducible repeat (first | apply Ra_ | apply Rn_ | apply Rd_)); exact HO454.out) (Kd.R_base ho0) hb)
                   have n7_ := Am_ (Kd.V_elder' (by (with_reducible repeat (first | apply Va_ | apply Vn_ | apply Vd_)); exact HO457.out) (Kd.R_base ho0) hb)
                   have n8_ := Am_ (Kd.V_elder' (by (with_reducible repeat (first | apply Va_ | apply Vn_ | apply Vd_)); exact HO461.out) (Kd.R_base ho0) hb)
                   have n9_ := Am_ (Kd.V_elder' (by (with_reducible repeat (first | apply Va_ | apply Vn_ | apply Vd_)); exact HO464.out) (Kd.R_base ho0) hb)
                   have n10_ := Am_ (Kd.V_elder' (by (with_reducible repeat (first | apply Va_ | apply Vn_ | apply Vd_)); exact HO470.out) (Kd.R_base ho0) hb)
                   have n11_ := Am_ (Kd.V_elder' (by (with_reducible repeat (first | apply Va_ | apply Vn_ | apply Vd_)); exact HO473.out) (Kd.R_base ho0) hb)
                   have n12_ := Am_ (Kd.R_lower (Kd.R_new' (Kd.R_mono (ok' := fun k_ => True) ho0 (fun _ hk_ => trivial)) (Kd.R_lt (by (with_reducible repeat (first | apply Ra_ | apply Rn_ | apply Rd_)); exact HO454.out))) (Bz_ (by repeat (first | (with_reducible first | exact HB.out | apply Pa_ | apply Pn_ | apply Pd_ | refine Bs_ ?_ GE420.out | refine Bs_ ?_ GE432.out | refine Bs_ ?_ GE440.out | refine Bs_ ?_ GE448.out | refine Bs_ ?_ GE466.out | refine Bs_ ?_ GE475.out) | exact HB.out))))
                   have n13_ := Am_ (Vl_ (Vm_ (ok' := fun k_ => some k_ ≠ (v477 : Value).ownBlock ∧ some k_ ≠ (.slice Ao69 t452.length co69 : Value).ownBlock ∧ k_ ≠ gb420 ∧ k_ ≠ gb432 ∧ k_ ≠ gb440 ∧ k_ ≠ gb448 ∧ k_ ≠ gb466 ∧ k_ ≠ gb475) ho1 (fun k_ hk_ => ⟨hk_.2, Or.elim hk_.1 (fun hs_ => hs_.1) (fun hn_ => (Kd.fresh' (Kd.R_lt (by (with_reducible repeat (first | apply Ra_ | apply Rn_ | apply Rd_)); exact HO454.out)) k_ hn_)), Or.elim hk_.1 (fun hs_ => hs_.2.1) (fun hn_ => (Kd.freshB (g := gb420) (o := .cells #[.slice (some ad422) l0_0.length c0_0, .slice A0_1 l0_1.length c0_1] 25 (0, 0)) (by (with_reducible repeat (first | refine Bn_ ?_ _ | refine Bd_ ?_ | refine Ba_ ?_ _)); exact BK420.out) k_ hn_)), Or.elim hk_.1 (fun hs_ => hs_.2.2.1) (fun hn_ => (Kd.freshB (g := gb432) (o := .cells #[.slice Ao43 t425.length co43, .slice Ao46 t428.length co46] 25 (0, 0)) (by (with_reducible repeat (first | refine Bn_ ?_ _ | refine Bd_ ?_ | refine Ba_ ?_ _)); exact BK432.out) k_ hn_)), Or.elim hk_.1 (fun hs_ => hs_.2.2.2.1) (fun hn_ => (Kd.freshB (g := gb440) (o := .cells #[.slice Ao51 t433.length co51, .slice Ao55 t436.length co55] 25 (0, 0)) (by (with_reducible repeat (first | refine Bn_ ?_ _ | refine Bd_ ?_ | refine Ba_ ?_ _)); exact BK440.out) k_ hn_)), Or.elim hk_.1 (fun hs_ => hs_.2.2.2.2.1) (fun hn_ => (Kd.freshB (g := gb448) (o := .cells #[.slice Ao60 t441.length co60, .slice Ao65 t444.length co65] 25 (0, 0)) (by (with_reducible repeat (first | refine Bn_ ?_ _ | refine Bd_ ?_ | refine Ba_ ?_ _)); exact BK448.out) k_ hn_)), Or.elim hk_.1 (fun hs_ => hs_.2.2.2.2.2.1) (fun hn_ => (Kd.freshB (g := gb466) (o := .cells #[.slice Ao75 t459.length co75, .slice Ao81 t462.length co81] 25 (0, 0)) (by (with_reducible repeat (first | refine Bn_ ?_ _ | refine Bd_ ?_ | refine Ba_ ?_ _)); exact BK466.out) k_ hn_)), Or.elim hk_.1 (fun hs_ => hs_.2.2.2.2.2.2) (fun hn_ => (Kd.freshB (g := gb475) (o := .cells #[.slice Ao87 t468.length co87, .slice Ao89 t471.length co89] 25 (0, 0)) (by (with_reducible repeat (first | refine Bn_ ?_ _ | refine Bd_ ?_ | refine Ba_ ?_ _)); exact BK475.out) k_ hn_))⟩)) (Bz_ (by repeat (first | (with_reducible first | exact HB.out | apply Pa_ | apply Pn_ | apply Pd_ | refine Bs_ ?_ GE420.out | refine Bs_ ?_ GE432.out | refine Bs_ ?_ GE440.out | refine Bs_ ?_ GE448.out | refine Bs_ ?_ GE466.out | refine Bs_ ?_ GE475.out) | exact HB.out))))
                   have n14_ := Am_ (Bb_ (g := gb420) (o := .cells #[.slice (some ad422) l0_0.length c0_0, .slice A0_1 l0_1.length c0_1] 25 (0, 0)) (by (with_reducible repeat (first | refine Bn_ ?_ _ | refine Bd_ ?_ | refine Ba_ ?_ _)); exact BK420.out) hb)
                   have n15_ := Am_ (Bb_ (g := gb432) (o := .cells #[.slice Ao43 t425.length co43, .slice Ao46 t428.length co46] 25 (0, 0)) (by (with_reducible repeat (first | refine Bn_ ?_ _ | refine Bd_ ?_ | refine Ba_ ?_ _)); exact BK432.out) hb)
                   have n16_ := Am_ (Bb_ (g := gb440) (o := .cells #[.slice Ao51 t433.length co51, .slice Ao55 t436.length co55] 25 (0, 0)) (by (with_reducible repeat (first | refine Bn_ ?_ _ | refine Bd_ ?_ | refine Ba_ ?_ _)); exact BK440.out) hb)
                   have n17_ := Am_ (Bb_ (g := gb448) (o := .cells #[.slice Ao60 t441.length co60, .slice Ao65 t444.length co65] 25 (0, 0)) (by (with_reducible repeat (first | refine Bn_ ?_ _ | refine Bd_ ?_ | refine Ba_ ?_ _)); exact BK448.out) hb)
                   have n18_ := Am_ (Bb_ (g := gb466) (o := .cells #[.slice Ao75 t459.length co75, .slice Ao81 t462.length co81] 25 (0, 0)) (by (with_reducible repeat (first | refine Bn_ ?_ _ | refine Bd_ ?_ | refine Ba_ ?_ _)); exact BK466.out) hb)
                   have n19_ := Am_ (Bb_ (g := gb475) (o := .cells #[.slice Ao87 t468.length co87, .slice Ao89 t471.length co89] 25 (0, 0)) (by (with_reducible repeat (first | refine Bn_ ?_ _ | refine Bd_ ?_ | refine Ba_ ?_ _)); exact BK475.out) hb)
                   have n20_ := Am_ (Be_ (by repeat (first | (with_reducible first | exact HB.out | apply Pa_ | apply Pn_ | apply Pd_ | refine Bs_ ?_ GE420.out | refine Bs_ ?_ GE432.out | refine Bs_ ?_ GE440.out | refine Bs_ ?_ GE448.out | refine Bs_ ?_ GE466.out | refine Bs_ ?_ GE475.out) | exact HB.out)) hb)
                   clear HO427
                   clear HO430
                   clear HO435
                   clear HO438
                   clear HO443
                   clear HO446
                   clear HO454
                   clear HO457
                   clear HO461
                   clear HO464
                   clear HO470
                   clear HO473
                   clear BK420
                   clear BK432
                   clear BK440
                   clear BK448
                   clear BK466
                   clear BK475
                   clear HB
                   have HO427 := n0_
                   have HO430 := n1_
                   have HO435 := n2_
                   have HO438 := n3_
                   have HO443 := n4_
                   have HO446 := n5_
                   have HO454 := n6_
                   have HO457 := n7_
                   have HO461 := n8_
                   have HO464 := n9_
                   have HO470 := n10_
                   have HO473 := n11_
                   have HO478 := n12_
                   have HO481 := n13_
                   have BK420 := n14_
                   have BK432 := n15_
                   have BK440 := n16_
                   have BK448 := n17_
                   have BK466 := n18_
                   have BK475 := n19_
                   have HB := n20_
                   clear n0_ n1_ n2_ n3_ n4_ n5_ n6_ n7_ n8_ n9_ n10_ n11_ n12_ n13_ n14_ n15_ n16_ n17_ n18_ n19_ n20_
                   (try clear hb)
                   (try clear hb2)
                   (try clear hk)
                   (try clear hi)
                   (try clear ho0)
                   (try clear ho1)
                   refine hK.out _ _ ⟨(Bc_ BK475.out 0).trans rfl, (Bc_ BK475.out 1).trans rfl, (Bc_ BK420.out 0).trans rfl, (Bc_ BK420.out 1).trans rfl⟩ (fun hHeld => ?_)
                   clear hK K
                   refine norm_ (a' := ?_) ?_ ?_
                   rotate_left
                   ·show Act.put _ (some 147) _ = _
                    simp only [Act.put, La_, Lb_, Lc_, i64_w, i32_w]
                    rfl
                   refine one_ (i := 10) (N := some 149) #[t_,t_,t_,t_,t_,t_,t_,t_,t_,t_,t_,f_,f_,f_] rfl rfl (one_of HT_.out (by kernel_rfl)) (by decide) (fun K hK => ?_)
                   refine goes_ Try.func13 (by kernel_rfl) rfl #[.agg #[.slice (some ad422) l0_0.length c0_0, .slice A0_1 l0_1.length c0_1]] (by rfl) rfl rfl (by (try simp only [List.map_toArray, List.map_cons, List.map_nil]); first | done | rfl | (simp only [List.length_drop, List.length_take]; rfl)) ?_
                   with_reducible refine (flagstonelaw11_its.calls k _ _ l0_0 (fun k_ => k_ < w.heap.size) _ _ l0_1 t482 t485 _ ?side1 ?side2 ?side3 A34.out).mono ?_
                   (case side1 => repeat (first | exact (Kd.C_below HR0_0.out HB.out) | (with_reducible refine Kd.C_alloc ?_ _) | (with_reducible refine Kd.C_drewN ?_ _) | (with_reducible refine Kd.C_drew ?_)))
                   (case side2 => exact HC0_0.out)
                   (case side3 => exact Kd.V_mk HC0_1.out (Kd.F_below (Kd.C_F (Kd.heap_slice 3 (Kd.heap_int .i64)) HR0_1.out) (by repeat (first | (with_reducible first | exact HB.out | apply Pa_ | apply Pn_ | apply Pd_ | refine Bs_ ?_ GE420.out | refine Bs_ ?_ GE432.out | refine Bs_ ?_ GE440.out | refine Bs_ ?_ GE448.out | refine Bs_ ?_ GE466.out | refine Bs_ ?_ GE475.out) | exact HB.out))))
                   rintro e w94 ⟨v483, v486, rfl, ho0, ho1, hb⟩
                   refine ⟨_, rfl, ?_⟩
                   have n0_ := Am_ (Kd.V_elder' (by (with_reducible repeat (first | apply Va_ | apply Vn_ | apply Vd_)); exact HO427.out) (Kd.R_base ho0) hb)
                   have n1_ := Am_ (Kd.V_elder' (by (with_reducible repeat (first | apply Va_ | apply Vn_ | apply Vd_)); exact HO430.out) (Kd.R_base ho0) hb)
                   have n2_ := Am_ (Kd.V_elder' (by (with_reducible repeat (first | apply Va_ | apply Vn_ | apply Vd_)); exact HO435.out) (Kd.R_base ho0) hb)
                   have n3_ := Am_ (Kd.V_elder' (by (with_reducible repeat (first | apply Va_ | apply Vn_ | apply Vd_)); exact HO438.out) (Kd.R_base ho0) hb)
                   have n4_ := Am_ (Kd.V_elder' (by (with_reducible repeat (first | apply Va_ | apply Vn_ | apply Vd_)); exact HO443.out) (Kd.R_base ho0) hb)
                   have n5_ := Am_ (Kd.V_elder' (by (with_reducible repeat (first | apply Va_ | apply Vn_ | apply Vd_)); exact HO446.out) (Kd.R_base ho0) hb)
                   have n6_ := Am_ (Kd.R_elder' (by (with_reducible repeat (first | apply Ra_ | apply Rn_ | apply Rd_)); exact HO454.out) (Kd.R_base ho0) hb)
                   have n7_ := Am_ (Kd.V_elder' (by (with_reducible repeat (first | apply Va_ | apply Vn_ | apply Vd_)); exact HO457.out) (Kd.R_base ho0) hb)
                   have n8_ := Am_ (Kd.V_elder' (by (with_reducible repeat (first | apply Va_ | apply Vn_ | apply Vd_)); exact HO461.out) (Kd.R_base ho0) hb)
                   have n9_ := Am_ (Kd.V_elder' (by (with_reducible repeat (first | apply Va_ | apply Vn_ | apply Vd_)); exact HO464.out) (Kd.R_base ho0) hb)
                   have n10_ := Am_ (Kd.V_elder' (by (with_reducible repeat (first | apply Va_ | apply Vn_ | apply Vd_)); exact HO470.out) (Kd.R_base ho0) hb)
                   have n11_ := Am_ (Kd.V_elder' (by (with_reducible repeat (first | apply Va_ | apply Vn_ | apply Vd_)); exact HO473.out) (Kd.R_base ho0) hb)
                   have n12_ := Am_ (Kd.R_elder' (by (with_reducible repeat (first | apply Ra_ | apply Rn_ | apply Rd_)); exact HO478.out) (Kd.R_base ho0) hb)
                   have n13_ := Am_ (Kd.V_elder' (by (with_reducible repeat (first | apply Va_ | apply Vn_ | apply Vd_)); exact HO481.out) (Kd.R_base ho0) hb)
                   have n14_ := Am_ (Kd.R_lower (Kd.R_new' (Kd.R_new' (Kd.R_mono (ok' := fun k_ => True) ho0 (fun _ hk_ => trivial)) (Kd.R_lt (by (with_reducible repeat (first | apply Ra_ | apply Rn_ | apply Rd_)); exact HO454.out))) (Kd.R_lt (by (with_reducible repeat (first | apply Ra_ | apply Rn_ | apply Rd_)); exact HO478.out))) (Bz_ (by repeat (first | (with_reducible first | exact HB.out | apply Pa_ | apply Pn_ | apply Pd_ | refine Bs_ ?_ GE420.out | refine Bs_ ?_ GE432.out | refine Bs_ ?_ GE440.out | refine Bs_ ?_ GE448.out | refine Bs_ ?_ GE466.out | refine Bs_ ?_ GE475.out) | exact HB.out))))
                   have n15_ := Am_ (Vl_ (Vm_ (ok' := fun k_ => some k_ ≠ (v483 : Value).ownBlock ∧ some k_ ≠ (.slice Ao69 t452.length co69 : Value).ownBlock ∧ some k_ ≠ (v477 : Value).ownBlock ∧ k_ ≠ gb420 ∧ k_ ≠ gb432 ∧ k_ ≠ gb440 ∧ k_ ≠ gb448 ∧ k_ ≠ gb466 ∧ k_ ≠ gb475) ho1 (fun k_ hk_ => ⟨hk_.2, Or.elim hk_.1 (fun hs_ => fun e_ => Nat.not_le.2 hs_ (Kd.R_base HO454.out k_ e_.symm)) (fun hn_ => (Kd.fresh' (Kd.R_lt (by (with_reducible repeat (first | apply Ra_ | apply Rn_ | apply Rd_)); exact HO454.out)) k_ hn_)), Or.elim hk_.1 (fun hs_ => fun e_ => Nat.not_le.2 hs_ (Kd.R_base HO478.out k_ e_.symm)) (fun hn_ => (Kd.fresh' (Kd.R_lt (by (with_reducible repeat (first | apply Ra_ | apply Rn_ | apply Rd_)); exact HO478.out)) k_ hn_)), Or.elim hk_.1 (fun hs_ => fun e_ => Nat.not_le.2 hs_ (by rw [e_]; exact GW420.out)) (fun hn_ => (Kd.freshB (g := gb420) (o := .cells #[.slice (some ad422) l0_0.length c0_0, .slice A0_1 l0_1.length c0_1] 25 (0, 0)) (by (with_reducible repeat (first | refine Bn_ ?_ _ | refine Bd_ ?_ | refine Ba_ ?_ _)); exact BK420.out) k_ hn_)), Or.elim hk_.1 (fun hs_ => fun e_ => Nat.not_le.2 hs_ (by rw [e_]; exact GW432.out)) (fun hn_ => (Kd.freshB (g := gb432) (o := .cells #[.slice Ao43 t425.length co43, .slice Ao46 t428.length co46] 25 (0, 0)) (by (with_reducible repeat (first | refine Bn_ ?_ _ | refine Bd_ ?_ | refine Ba_ ?_ _)); exact BK432.out) k_ hn_)), Or.elim hk_.1 (fun hs_ => fun e_ => Nat.not_le.2 hs_ (by rw [e_]; exact GW440.out)) (fun hn_ => (Kd.freshB (g := gb440) (o := .cells #[.slice Ao51 t433.length co51, .slice Ao55 t436.length co55] 25 (0, 0)) (by (with_reducible repeat (first | refine Bn_ ?_ _ | refine Bd_ ?_ | refine Ba_ ?_ _)); exact BK440.out) k_ hn_)), Or.elim hk_.1 (fun hs_ => fun e_ => Nat.not_le.2 hs_ (by rw [e_]; exact GW448.out)) (fun hn_ => (Kd.freshB (g := gb448) (o := .cells #[.slice Ao60 t441.length co60, .slice Ao65 t444.length co65] 25 (0, 0)) (by (with_reducible repeat (first | refine Bn_ ?_ _ | refine Bd_ ?_ | refine Ba_ ?_ _)); exact BK448.out) k_ hn_)), Or.elim hk_.1 (fun hs_ => fun e_ => Nat.not_le.2 hs_ (by rw [e_]; exact GW466.out)) (fun hn_ => (Kd.freshB (g := gb466) (o := .cells #[.slice Ao75 t459.length co75, .slice Ao81 t462.length co81] 25 (0, 0)) (by (with_reducible repeat (first | refine Bn_ ?_ _ | refine Bd_ ?_ | refine Ba_ ?_ _)); exact BK466.out) k_ hn_)), Or.elim hk_.1 (fun hs_ => fun e_ => Nat.not_le.2 hs_ (by rw [e_]; exact GW475.out)) (fun hn_ => (Kd.freshB (g := gb475) (o := .cells #[.slice Ao87 t468.length co87, .slice Ao89 t471.length co89] 25 (0, 0)) (by (with_reducible repeat (first | refine Bn_ ?_ _ | refine Bd_ ?_ | refine Ba_ ?_ _)); exact BK475.out) k_ hn_))⟩)) (Bz_ (by repeat (first | (with_reducible first | exact HB.out | apply Pa_ | apply Pn_ | apply Pd_ | refine Bs_ ?_ GE420.out | refine Bs_ ?_ GE432.out | refine Bs_ ?_ GE440.out | refine Bs_ ?_ GE448.out | refine Bs_ ?_ GE466.out | refine Bs_ ?_ GE475.out) | exact HB.out))))
                   have n16_ := Am_ (Bb_ (g := gb420) (o := .cells #[.slice (some ad422) l0_0.length c0_0, .slice A0_1 l0_1.length c0_1] 25 (0, 0)) (by (with_reducible repeat (first | refine Bn_ ?_ _ | refine Bd_ ?_ | refine Ba_ ?_ _)); exact BK420.out) hb)
                   have n17_ := Am_ (Bb_ (g := gb432) (o := .cells #[.slice Ao43 t425.length co43, .slice Ao46 t428.length co46] 25 (0, 0)) (by (with_reducible repeat (first | refine Bn_ ?_ _ | refine Bd_ ?_ | refine Ba_ ?_ _)); exact BK432.out) hb)
                   have n18_ := Am_ (Bb_ (g := gb440) (o := .cells #[.slice Ao51 t433.length co51, .slice Ao55 t436.length co55] 25 (0, 0)) (by (with_reducible repeat (first | refine Bn_ ?_ _ | refine Bd_ ?_ | refine Ba_ ?_ _)); exact BK440.out) hb)
                   have n19_ := Am_ (Bb_ (g := gb448) (o := .cells #[.slice Ao60 t441.length co60, .slice Ao65 t444.length co65] 25 (0, 0)) (by (with_reducible repeat (first | refine Bn_ ?_ _ | refine Bd_ ?_ | refine Ba_ ?_ _)); exact BK448.out) hb)
                   have n20_ := Am_ (Bb_ (g := gb466) (o := .cells #[.slice Ao75 t459.length co75, .slice Ao81 t462.length co81] 25 (0, 0)) (by (with_reducible repeat (first | refine Bn_ ?_ _ | refine Bd_ ?_ | refine Ba_ ?_ _)); exact BK466.out) hb)
                   have n21_ := Am_ (Bb_ (g := gb475) (o := .cells #[.slice Ao87 t468.length co87, .slice Ao89 t471.length co89] 25 (0, 0)) (by (with_reducible repeat (first | refine Bn_ ?_ _ | refine Bd_ ?_ | refine Ba_ ?_ _)); exact BK475.out) hb)
                   have n22_ := Am_ (Be_ (by repeat (first | (with_reducible first | exact HB.out | apply Pa_ | apply Pn_ | apply Pd_ | refine Bs_ ?_ GE420.out | refine Bs_ ?_ GE432.out | refine Bs_ ?_ GE440.out | refine Bs_ ?_ GE448.out | refine Bs_ ?_ GE466.out | refine Bs_ ?_ GE475.out) | exact HB.out)) hb)
                   clear HO427
                   clear HO430
                   clear HO435
                   clear HO438
                   clear HO443
                   clear HO446
                   clear HO454
                   clear HO457
                   clear HO461
                   clear HO464
                   clear HO470
                   clear HO473
                   clear HO478
                   clear HO481
                   clear BK420
                   clear BK432
                   clear BK440
                   clear BK448
                   clear BK466
                   clear BK475
                   clear HB
                   have HO427 := n0_
                   have HO430 := n1_
                   have HO435 := n2_
                   have HO438 := n3_
                   have HO443 := n4_
                   have HO446 := n5_
                   have HO454 := n6_
                   have HO457 := n7_
                   have HO461 := n8_
                   have HO464 := n9_
                   have HO470 := n10_
                   have HO473 := n11_
                   have HO478 := n12_
                   have HO481 := n13_
                   have HO484 := n14_
                   have HO487 := n15_
                   have BK420 := n16_
                   have BK432 := n17_
                   have BK440 := n18_
                   have BK448 := n19_
                   have BK466 := n20_
                   have BK475 := n21_
                   have HB := n22_
                   clear n0_ n1_ n2_ n3_ n4_ n5_ n6_ n7_ n8_ n9_ n10_ n11_ n12_ n13_ n14_ n15_ n16_ n17_ n18_ n19_ n20_ n21_ n22_
                   (try clear hb)
                   (try clear hb2)
                   (try clear hk)
                   (try clear hi)
                   (try clear ho0)
                   (try clear ho1)
                   obtain ⟨Ao95, co95, eo95⟩ := Kd.R_slice HO478.out
                   (first | subst eo95 | (injection eo95 with f1_ f2_ f3_; have f4_ := f1_.symm; have f5_ := f3_.symm; clear f1_ f2_ f3_; subst f4_; subst f5_))
                   obtain ⟨Ao96, co96, eo96⟩ := Vx_ HO481.out
                   (first | subst eo96 | (injection eo96 with f1_ f2_ f3_; have f4_ := f1_.symm; have f5_ := f3_.symm; clear f1_ f2_ f3_; subst f4_; subst f5_))
                   obtain ⟨Ao97, co97, eo97⟩ := Kd.R_slice HO484.out
                   (first | subst eo97 | (injection eo97 with f1_ f2_ f3_; have f4_ := f1_.symm; have f5_ := f3_.symm; clear f1_ f2_ f3_; subst f4_; subst f5_))
                   obtain ⟨Ao98, co98, eo98⟩ := Vx_ HO487.out
                   (first | subst eo98 | (injection eo98 with f1_ f2_ f3_; have f4_ := f1_.symm; have f5_ := f3_.symm; clear f1_ f2_ f3_; subst f4_; subst f5_))
                   refine hK.out _ _ ⟨(Bc_ BK475.out 0).trans rfl, (Bc_ BK475.out 1).trans rfl, (Bc_ BK420.out 0).trans rfl, (Bc_ BK420.out 1).trans rfl⟩ (fun hHeld => ?_)
                   clear hK K
                   refine norm_ (a' := ?_) ?_ ?_
                   rotate_left
                   ·show Act.put _ (some 149) _ = _
                    simp only [Act.put, La_, Lb_, Lc_, i64_w, i32_w]
                    rfl
                   refine one_ (i := 11) (N := some 150) #[t_,t_,t_,t_,t_,t_,t_,t_,t_,t_,t_,t_,f_,f_] rfl rfl (one_of HT_.out (by kernel_rfl)) (by decide) (fun K hK => ?_)
                   refine goes_ Try.func16 (by kernel_rfl) rfl #[.agg #[.slice Ao95 t476.length co95, .slice Ao96 t479.length co96], .agg #[.slice Ao97 t482.length co97, .slice Ao98 t485.length co98]] (by rfl) rfl rfl (by (try simp only [List.map_toArray, List.map_cons, List.map_nil]); first | done | rfl | (simp only [List.length_drop, List.length_take]; rfl)) ?_
                   with_reducible refine (flagstoneref10_Same.calls k _ _ t476 _ _ t479 _ _ t482 _ _ t485 t488 _ ?side1 ?side2 ?side3 ?side4 ?side5 ?side6 ?side7 ?side8 A35.out).mono ?_
                   (case side1 => repeat (first | exact (Kd.R_reads' HO478.out).2.2 | (with_reducible refine Kd.C_alloc ?_ _) | (with_reducible refine Kd.C_drewN ?_ _) | (with_reducible refine Kd.C_drew ?_)))
                   (case side2 => exact (Kd.R_reads' HO478.out).2.1)
                   (case side3 => repeat (first | exact (Vr_ HO481.out).2.2 | (with_reducible refine Kd.C_alloc ?_ _) | (with_reducible refine Kd.C_drewN ?_ _) | (with_reducible refine Kd.C_drew ?_)))
                   (case side4 => exact (Vr_ HO481.out).2.1)
                   (case side5 => repeat (first | exact (Kd.R_reads' HO484.out).2.2 | (with_reducible refine Kd.C_alloc ?_ _) | (with_reducible refine Kd.C_drewN ?_ _) | (with_reducible refine Kd.C_drew ?_)))
                   (case side6 => exact (Kd.R_reads' HO484.out).2.1)
                   (case side7 => repeat (first | exact (Vr_ HO487.out).2.2 | (with_reducible refine Kd.C_alloc ?_ _) | (with_reducible refine Kd.C_drewN ?_ _) | (with_reducible refine Kd.C_drew ?_)))
                   (case side8 => exact (Vr_ HO487.out).2.1)
                   rintro e w99 ⟨rfl, hb⟩
                   refine ⟨_, rfl, ?_⟩
                   have n0_ := Am_ (Vb_ (by (with_reducible repeat (first | apply Va_ | apply Vn_ | apply Vd_)); exact HO427.out) hb)
                   have n1_ := Am_ (Vb_ (by (with_reducible repeat (first | apply Va_ | apply Vn_ | apply Vd_)); exact HO430.out) hb)
                   have n2_ := Am_ (Vb_ (by (with_reducible repeat (first | apply Va_ | apply Vn_ | apply Vd_)); exact HO435.out) hb)
                   have n3_ := Am_ (Vb_ (by (with_reducible repeat (first | apply Va_ | apply Vn_ | apply Vd_)); exact HO438.out) hb)
                   have n4_ := Am_ (Vb_ (by (with_reducible repeat (first | apply Va_ | apply Vn_ | apply Vd_)); exact HO443.out) hb)
                   have n5_ := Am_ (Vb_ (by (with_reducible repeat (first | apply Va_ | apply Vn_ | apply Vd_)); exact HO446.out) hb)
                   have n6_ := Am_ (Rb_ (by (with_reducible repeat (first | apply Ra_ | apply Rn_ | apply Rd_)); exact HO454.out) hb)
                   have n7_ := Am_ (Vb_ (by (with_reducible repeat (first | apply Va_ | apply Vn_ | apply Vd_)); exact HO457.out) hb)
                   have n8_ := Am_ (Vb_ (by (with_reducible repeat (first | apply Va_ | apply Vn_ | apply Vd_)); exact HO461.out) hb)
                   have n9_ := Am_ (Vb_ (by (with_reducible repeat (first | apply Va_ | apply Vn_ | apply Vd_)); exact HO464.out) hb)
                   have n10_ := Am_ (Vb_ (by (with_reducible repeat (first | apply Va_ | apply Vn_ | apply Vd_)); exact HO470.out) hb)
                   have n11_ := Am_ (Vb_ (by (with_reducible repeat (first | apply Va_ | apply Vn_ | apply Vd_)); exact HO473.out) hb)
                   have n12_ := Am_ (Rb_ (by (with_reducible repeat (first | apply Ra_ | apply Rn_ | apply Rd_)); exact HO478.out) hb)
                   have n13_ := Am_ (Vb_ (by (with_reducible repeat (first | apply Va_ | apply Vn_ | apply Vd_)); exact HO481.out) hb)
                   have n14_ := Am_ (Rb_ (by (with_reducible repeat (first | apply Ra_ | apply Rn_ | apply Rd_)); exact HO484.out) hb)
                   have n15_ := Am_ (Vb_ (by (with_reducible repeat (first | apply Va_ | apply Vn_ | apply Vd_)); exact HO487.out) hb)
                   have n16_ := Am_ (Bb_ (g := gb420) (o := .cells #[.slice (some ad422) l0_0.length c0_0, .slice A0_1 l0_1.length c0_1] 25 (0, 0)) (by (with_reducible repeat (first | refine Bn_ ?_ _ | refine Bd_ ?_ | refine Ba_ ?_ _)); exact BK420.out) hb)
                   have n17_ := Am_ (Bb_ (g := gb432) (o := .cells #[.slice Ao43 t425.length co43, .slice Ao46 t428.length co46] 25 (0, 0)) (by (with_reducible repeat (first | refine Bn_ ?_ _ | refine Bd_ ?_ | refine Ba_ ?_ _)); exact BK432.out) hb)
                   have n18_ := Am_ (Bb_ (g := gb440) (o := .cells #[.slice Ao51 t433.length co51, .slice Ao55 t436.length co55] 25 (0, 0)) (by (with_reducible repeat (first | refine Bn_ ?_ _ | refine Bd_ ?_ | refine Ba_ ?_ _)); exact BK440.out) hb)
                   have n19_ := Am_ (Bb_ (g := gb448) (o := .cells #[.slice Ao60 t441.length co60, .slice Ao65 t444.length co65] 25 (0, 0)) (by (with_reducible repeat (first | refine Bn_ ?_ _ | refine Bd_ ?_ | refine Ba_ ?_ _)); exact BK448.out) hb)
                   have n20_ := Am_ (Bb_ (g := gb466) (o := .cells #[.slice Ao75 t459.length co75, .slice Ao81 t462.length co81] 25 (0, 0)) (by (with_reducible repeat (first | refine Bn_ ?_ _ | refine Bd_ ?_ | refine Ba_ ?_ _)); exact BK466.out) hb)
                   have n21_ := Am_ (Bb_ (g := gb475) (o := .cells #[.slice Ao87 t468.length co87, .slice Ao89 t471.length co89] 25 (0, 0)) (by (with_reducible repeat (first | refine Bn_ ?_ _ | refine Bd_ ?_ | refine Ba_ ?_ _)); exact BK475.out) hb)
                   have n22_ := Am_ (Be_ (by repeat (first | (with_reducible first | exact HB.out | apply Pa_ | apply Pn_ | apply Pd_ | refine Bs_ ?_ GE420.out | refine Bs_ ?_ GE432.out | refine Bs_ ?_ GE440.out | refine Bs_ ?_ GE448.out | refine Bs_ ?_ GE466.out | refine Bs_ ?_ GE475.out) | exact HB.out)) hb)
                   clear HO427
                   clear HO430
                   clear HO435
                   clear HO438
                   clear HO443
                   clear HO446
                   clear HO454
                   clear HO457
                   clear HO461
                   clear HO464
                   clear HO470
                   clear HO473
                   clear HO478
                   clear HO481
                   clear HO484
                   clear HO487
                   clear BK420
                   clear BK432
                   clear BK440
                   clear BK448
                   clear BK466
                   clear BK475
                   clear HB
                   have HO427 := n0_
                   have HO430 := n1_
                   have HO435 := n2_
                   have HO438 := n3_
                   have HO443 := n4_
                   have HO446 := n5_
                   have HO454 := n6_
                   have HO457 := n7_
                   have HO461 := n8_
                   have HO464 := n9_
                   have HO470 := n10_
                   have HO473 := n11_
                   have HO478 := n12_
                   have HO481 := n13_
                   have HO484 := n14_
                   have HO487 := n15_
                   have BK420 := n16_
                   have BK432 := n17_
                   have BK440 := n18_
                   have BK448 := n19_
                   have BK466 := n20_
                   have BK475 := n21_
                   have HB := n22_
                   clear n0_ n1_ n2_ n3_ n4_ n5_ n6_ n7_ n8_ n9_ n10_ n11_ n12_ n13_ n14_ n15_ n16_ n17_ n18_ n19_ n20_ n21_ n22_
                   (try clear hb)
                   (try clear hb2)
                   (try clear hk)
                   (try clear hi)
                   refine hK.out _ _ ⟨(Bc_ BK475.out 0).trans rfl, (Bc_ BK475.out 1).trans rfl, (Bc_ BK420.out 0).trans rfl, (Bc_ BK420.out 1).trans rfl⟩ (fun hHeld => ?_)
                   clear hK K
                   refine norm_ (a' := ?_) ?_ ?_
                   rotate_left
                   ·show Act.put _ (some 150) _ = _
                    simp only [Act.put, La_, Lb_, Lc_, i64_w, i32_w]
                    rfl
                   refine pure_ (i := 12) (N := some 151) (v := ?_) (a' := ?_) #[t_,t_,t_,t_,t_,t_,t_,t_,t_,t_,t_,t_,t_,f_] rfl rfl (any_of HT_.out (by kernel_rfl)) (fun _ _ _ h => h) (Or.inl ⟨by rfl, ?_⟩) ?_ ?_
                   rotate_left
                   ·intro w'
                    go_simp
                    with_reducible rfl
                   rotate_left
                   ·simp only [Act.put, La_, Lb_, Lc_, i64_w, i32_w]
                    rfl
                   refine pure_ (i := 13) (N := some 10) (v := ?_) (a' := ?_) #[t_,t_,t_,t_,t_,t_,t_,t_,t_,t_,t_,t_,t_,t_] rfl rfl (any_of HT_.out (by kernel_rfl)) (fun _ _ _ h => h) (Or.inl ⟨by rfl, ?_⟩) ?_ ?_
                   rotate_left
                   ·intro w'
                    go_simp
                    with_reducible rfl
                   rotate_left
                   ·simp only [Act.put, La_, Lb_, Lc_, i64_w, i32_w]
                    rfl
                   refine done_ (done_of HT_.out (by kernel_rfl)) ?_
                   try go_wp2
                   go_ret
                   exact ⟨by first | rfl | (simp [errW_none, errW_some] <;> rfl) | (simp [*, errW_none, errW_some] <;> rfl), by repeat (first | (with_reducible first | exact HB.out | apply Pa_ | apply Pn_ | apply Pd_ | refine Bs_ ?_ GE420.out | refine Bs_ ?_ GE432.out | refine Bs_ ?_ GE440.out | refine Bs_ ?_ GE448.out | refine Bs_ ?_ GE466.out | refine Bs_ ?_ GE475.out) | exact HB.out)⟩
                  ·rw [if_neg c32] at H
                   have c32b0 : (t474 == 0) = false := beq_eq_false_iff_ne.mpr c32
                   have c32b1 : (t474 != 0) = true := bne_iff_ne.mpr c32
                   exact absurd H (by simp)
                 ·rw [if_neg c31] at H
                  have c31b0 : (t465 == 0) = false := beq_eq_false_iff_ne.mpr c31
                  have c31b1 : (t465 != 0) = true := bne_iff_ne.mpr c31
                  exact absurd H (by simp)
                ·replace c28 := Bool.eq_false_iff.mpr c28
                 subst c28
                 have H1 : (none) = some r := by rw [if_neg (show ¬ (false = true) by decide)] at H; exact H
                 clear H
                 have H := H1
                 clear H1
                 exact absurd H (by simp)
            ·rw [if_neg c22] at H
             exact absurd H (by simp)
           ·replace c18 := Bool.eq_false_iff.mpr c18
            subst c18
            have H1 : (none) = some r := by rw [if_neg (show ¬ (false = true) by decide)] at H; exact H
            clear H
            have H := H1
            clear H1
            exact absurd H (by simp)
         ·rw [if_neg c15] at H
          exact absurd H (by simp)
        ·rw [if_neg c14] at H
         exact absurd H (by simp)
       ·rw [if_neg c13] at H
        exact absurd H (by simp)
      ·rw [if_neg c12] at H
       exact absurd H (by simp)
 ·replace c7 := Bool.eq_false_iff.mpr c7
  subst c7
  have H1 : (none) = some r := by rw [if_neg (show ¬ (false = true) by decide)] at H; exact H
  clear H
  have H := H1
  clear H1
  exact absurd H (by simp)

end Go.Proofs.Ytbfjakhloabhmaa.P
