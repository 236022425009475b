-- Printed by a program of this session (inject.py) over the kit's print, with functions that were proved by hand in their places.
import Derived.Test.YtpeelfambaedkaaPK
import Derived.Test.YtpeelfambaedkaaPlaw09small
import Derived.Test.YtpeelfambaedkaaPcontentRead
import Derived.Test.YtpeelfambaedkaaPcontentSize
import Derived.Test.YtpeelfambaedkaaPcontentWrite
import Derived.Test.YtpeelfambaedkaaPcontentCut
import Derived.Test.YtpeelfambaedkaaPlaw09shown
import Derived.Test.YtpeelfambaedkaaPref06Get
import Derived.Test.YtpeelfambaedkaaPlaw09its
import Derived.Test.YtpeelfambaedkaaPref06Same
namespace Go.Proofs.Ytpeelfambaedkaa.P
open Go.RowKit Go.Proofs.YtpeelfambaedkaaW.PrintWords Go.Proofs.YtpeelfambaedkaaW.PrintLast Go.Proofs.YtpeelfambaedkaaW.PrintMore
attribute [local go_sem] max2_int min2_int max_two min_two max_three min_three max_four min_four   -- for this text's walks alone
set_option linter.unusedVariables false
set_option linter.unusedSimpArgs false

/-! ### flagstonelaw09_ContentRefuses: function 8 -/
mutual
def flagstonelaw09_ContentRefuses.j0 : Nat → Int → Int → Int → ByteArray → Bool → List (S59) → Int → Int → Option (Bool)
 | 0, _, _, _, _, _, _, _, _ => none
 | k + 1, x1, x2, x3, x4, x33, x276000, x276001, x276002 => if x33 = true then ((flagstonelaw09_shown.f).bind fun t278 => (some t278)) else ((flagstonelaw09_its.f k x276000 x276001 x276002).bind fun bt279 => ((flagstoneref06_Get.f bt279.1 bt279.2.1 bt279.2.2 x1).bind fun bt284 => (if bt284.2.2.2.2.2.2.2.2 = true then (flagstonelaw09_ContentRefuses.j1 k x1 x2 x3 x4 bt284.2.2.2.2.2.2.2.2 (bt284.1 == 1) x276000 x276001 x276002 bt284.1 bt284.2.1 bt284.2.2.1 bt284.2.2.2.1 bt284.2.2.2.2.1 bt284.2.2.2.2.2.1 bt284.2.2.2.2.2.2.1 bt284.2.2.2.2.2.2.2.1) else (flagstonelaw09_ContentRefuses.j1 k x1 x2 x3 x4 bt284.2.2.2.2.2.2.2.2 false x276000 x276001 x276002 bt284.1 bt284.2.1 bt284.2.2.1 bt284.2.2.2.1 bt284.2.2.2.2.1 bt284.2.2.2.2.2.1 bt284.2.2.2.2.2.2.1 bt284.2.2.2.2.2.2.2.1))))
def flagstonelaw09_ContentRefuses.j1 : Nat → Int → Int → Int → ByteArray → Bool → Bool → List (S59) → Int → Int → Int → Int → Int → Int → Int → Int → ByteArray → List (S75) → Option (Bool)
 | 0, _, _, _, _, _, _, _, _, _, _, _, _, _, _, _, _, _ => none
 | k + 1, x1, x2, x3, x4, x12, x47, x276000, x276001, x276002, x296000, x296001, x296002, x296003, x296004, x296005, x296006, x296007 => if x47 = true then (some true) else (if x12 = true then (flagstonelaw09_ContentRefuses.j2 k x1 x2 x3 x4 x12 1 x276000 x276001 x276002 x296000 x296001 x296002 x296003 x296004 x296005 x296006 x296007) else (flagstonelaw09_ContentRefuses.j2 k x1 x2 x3 x4 x12 2 x276000 x276001 x276002 x296000 x296001 x296002 x296003 x296004 x296005 x296006 x296007))
def flagstonelaw09_ContentRefuses.j2 : Nat → Int → Int → Int → ByteArray → Bool → Int → List (S59) → Int → Int → Int → Int → Int → Int → Int → Int → ByteArray → List (S75) → Option (Bool)
 | 0, _, _, _, _, _, _, _, _, _, _, _, _, _, _, _, _, _ => none
 | k + 1, x1, x2, x3, x4, x12, x13, x276000, x276001, x276002, x296000, x296001, x296002, x296003, x296004, x296005, x296006, x296007 => if x12 = true then (flagstonelaw09_ContentRefuses.j3 k x1 x2 x3 x4 x13 (x296000 == 2) x276000 x276001 x276002) else (flagstonelaw09_ContentRefuses.j3 k x1 x2 x3 x4 x13 false x276000 x276001 x276002)
def flagstonelaw09_ContentRefuses.j3 : Nat → Int → Int → Int → ByteArray → Int → Bool → List (S59) → Int → Int → Option (Bool)
 | 0, _, _, _, _, _, _, _, _, _ => none
 | k + 1, x1, x2, x3, x4, x13, x55, x276000, x276001, x276002 => if x55 = true then (flagstonelaw09_ContentRefuses.j4 k x1 x2 x3 x4 5 x276000 x276001 x276002) else (flagstonelaw09_ContentRefuses.j4 k x1 x2 x3 x4 x13 x276000 x276001 x276002)
def flagstonelaw09_ContentRefuses.j4 : Nat → Int → Int → Int → ByteArray → Int → List (S59) → Int → Int → Option (Bool)
 | 0, _, _, _, _, _, _, _, _ => none
 | k + 1, x1, x2, x3, x4, x13, x276000, x276001, x276002 => (content_Read.f x276000 x276001 x276002 x1 x2 x3).bind fun bt296 => ((content_Write.f x276000 x276001 x276002 x1 x2 x4).bind fun bt298 => ((content_Cut.f x276000 x276001 x276002 x1 x3).bind fun bt305 => ((content_Size.f x276000 x276001 x276002 x1).bind fun bt312 => (if bt296.1.toList = ([] : List UInt8) then (if bt312.1 = 0 then (if bt296.2 = x13 then (if bt298.2.2.2 = x13 then (if bt305.2.2.2 = x13 then (if bt312.2 = x13 then ((flagstonelaw09_its.f k bt298.1 bt298.2.1 bt298.2.2.1).bind fun bt314 => ((flagstonelaw09_its.f k x276000 x276001 x276002).bind fun bt319 => ((flagstoneref06_Same.f k bt314.1 bt314.2.1 bt314.2.2 bt319.1 bt319.2.1 bt319.2.2).bind fun t324 => (if t324 = true then ((flagstonelaw09_its.f k bt305.1 bt305.2.1 bt305.2.2.1).bind fun bt325 => ((flagstonelaw09_its.f k x276000 x276001 x276002).bind fun bt330 => ((flagstoneref06_Same.f k bt325.1 bt325.2.1 bt325.2.2 bt330.1 bt330.2.1 bt330.2.2).bind fun t335 => (some t335)))) else (none))))) else (none)) else (none)) else (none)) else (none)) else (none)) else (none)))))
end
def flagstonelaw09_ContentRefuses.f (k : Nat) (l0_0 : List (S59)) (a0_1 : Int) (a0_2 : Int) (a1 : Int) (a2 : Int) (a3 : Int) (a4 : ByteArray) : Option (Bool) := (flagstonelaw09_small.f k l0_0 a0_1 a0_2).bind fun t276 => (if t276 = true then (if (a4.size : Int) > 300 then (flagstonelaw09_ContentRefuses.j0 k a1 a2 a3 a4 true l0_0 a0_1 a0_2) else ((flagstonelaw09_shown.f).bind fun t277 => (flagstonelaw09_ContentRefuses.j0 k a1 a2 a3 a4 (!t277) l0_0 a0_1 a0_2))) else (flagstonelaw09_ContentRefuses.j0 k a1 a2 a3 a4 true l0_0 a0_1 a0_2))
theorem flagstonelaw09_ContentRefuses.mono_l : ∀ k, (∀ y0 y1 y2 y3 y4 y5 y6 y7, LeO (flagstonelaw09_ContentRefuses.j0 k y0 y1 y2 y3 y4 y5 y6 y7) (flagstonelaw09_ContentRefuses.j0 (k + 1) y0 y1 y2 y3 y4 y5 y6 y7)) ∧ (∀ y0 y1 y2 y3 y4 y5 y6 y7 y8 y9 y10 y11 y12 y13 y14 y15 y16, LeO (flagstonelaw09_ContentRefuses.j1 k y0 y1 y2 y3 y4 y5 y6 y7 y8 y9 y10 y11 y12 y13 y14 y15 y16) (flagstonelaw09_ContentRefuses.j1 (k + 1) y0 y1 y2 y3 y4 y5 y6 y7 y8 y9 y10 y11 y12 y13 y14 y15 y16)) ∧ (∀ y0 y1 y2 y3 y4 y5 y6 y7 y8 y9 y10 y11 y12 y13 y14 y15 y16, LeO (flagstonelaw09_ContentRefuses.j2 k y0 y1 y2 y3 y4 y5 y6 y7 y8 y9 y10 y11 y12 y13 y14 y15 y16) (flagstonelaw09_ContentRefuses.j2 (k + 1) y0 y1 y2 y3 y4 y5 y6 y7 y8 y9 y10 y11 y12 y13 y14 y15 y16)) ∧ (∀ y0 y1 y2 y3 y4 y5 y6 y7 y8, LeO (flagstonelaw09_ContentRefuses.j3 k y0 y1 y2 y3 y4 y5 y6 y7 y8) (flagstonelaw09_ContentRefuses.j3 (k + 1) y0 y1 y2 y3 y4 y5 y6 y7 y8)) ∧ (∀ y0 y1 y2 y3 y4 y5 y6 y7, LeO (flagstonelaw09_ContentRefuses.j4 k y0 y1 y2 y3 y4 y5 y6 y7) (flagstonelaw09_ContentRefuses.j4 (k + 1) y0 y1 y2 y3 y4 y5 y6 y7))
 | 0 => ⟨fun _ _ _ _ _ _ _ _ r h => by simp [flagstonelaw09_ContentRefuses.j0] at h, fun _ _ _ _ _ _ _ _ _ _ _ _ _ _ _ _ _ r h => by simp [flagstonelaw09_ContentRefuses.j1] at h, fun _ _ _ _ _ _ _ _ _ _ _ _ _ _ _ _ _ r h => by simp [flagstonelaw09_ContentRefuses.j2] at h, fun _ _ _ _ _ _ _ _ _ r h => by simp [flagstonelaw09_ContentRefuses.j3] at h, fun _ _ _ _ _ _ _ _ r h => by simp [flagstonelaw09_ContentRefuses.j4] at h⟩
 | k + 1 => by
  obtain ⟨ih0, ih1, ih2, ih3, ih4⟩ := flagstonelaw09_ContentRefuses.mono_l k
  refine ⟨?_, ?_, ?_, ?_, ?_⟩
  ·intro y0 y1 y2 y3 y4 y5 y6 y7
   unfold flagstonelaw09_ContentRefuses.j0
   repeat' first
   | (with_reducible exact ih0 _ _ _ _ _ _ _ _)
   | (with_reducible exact ih1 _ _ _ _ _ _ _ _ _ _ _ _ _ _ _ _ _)
   | (with_reducible exact ih2 _ _ _ _ _ _ _ _ _ _ _ _ _ _ _ _ _)
   | (with_reducible exact ih3 _ _ _ _ _ _ _ _ _)
   | (with_reducible exact ih4 _ _ _ _ _ _ _ _)
   | (with_reducible exact flagstonelaw09_its.mono _ _ _ _)
   | (with_reducible exact flagstonelaw09_small.mono _ _ _ _)
   | (with_reducible exact flagstoneref06_Same.mono _ _ _ _ _ _ _)
   | (with_reducible exact LeO.refl _)
   | (with_reducible exact LeO.none _)
   | (with_reducible refine LeO.ite ?_ ?_)
   | (with_reducible refine LeO.bind ?_ (fun _ => ?_))
   | exact ih0 _ _ _ _ _ _ _ _
   | exact ih1 _ _ _ _ _ _ _ _ _ _ _ _ _ _ _ _ _
   | exact ih2 _ _ _ _ _ _ _ _ _ _ _ _ _ _ _ _ _
   | exact ih3 _ _ _ _ _ _ _ _ _
   | exact ih4 _ _ _ _ _ _ _ _
   | exact flagstonelaw09_its.mono _ _ _ _
   | exact flagstonelaw09_small.mono _ _ _ _
   | exact flagstoneref06_Same.mono _ _ _ _ _ _ _
   | exact LeO.none _
   | refine LeO.ite ?_ ?_
   | refine LeO.bind ?_ (fun _ => ?_)
  ·intro y0 y1 y2 y3 y4 y5 y6 y7 y8 y9 y10 y11 y12 y13 y14 y15 y16
   unfold flagstonelaw09_ContentRefuses.j1
   repeat' first
   | (with_reducible exact ih0 _ _ _ _ _ _ _ _)
   | (with_reducible exact ih1 _ _ _ _ _ _ _ _ _ _ _ _ _ _ _ _ _)
   | (with_reducible exact ih2 _ _ _ _ _ _ _ _ _ _ _ _ _ _ _ _ _)
   | (with_reducible exact ih3 _ _ _ _ _ _ _ _ _)
   | (with_reducible exact ih4 _ _ _ _ _ _ _ _)
   | (with_reducible exact flagstonelaw09_its.mono _ _ _ _)
   | (with_reducible exact flagstonelaw09_small.mono _ _ _ _)
   | (with_reducible exact flagstoneref06_Same.mono _ _ _ _ _ _ _)
   | (with_reducible exact LeO.refl _)
   | (with_reducible exact LeO.none _)
   | (with_reducible refine LeO.ite ?_ ?_)
   | (with_reducible refine LeO.bind ?_ (fun _ => ?_))
   | exact ih0 _ _ _ _ _ _ _ _
   | exact ih1 _ _ _ _ _ _ _ _ _ _ _ _ _ _ _ _ _
   | exact ih2 _ _ _ _ _ _ _ _ _ _ _ _ _ _ _ _ _
   | exact ih3 _ _ _ _ _ _ _ _ _
   | exact ih4 _ _ _ _ _ _ _ _
   | exact flagstonelaw09_its.mono _ _ _ _
   | exact flagstonelaw09_small.mono _ _ _ _
   | exact flagstoneref06_Same.mono _ _ _ _ _ _ _
   | exact LeO.none _
   | refine LeO.ite ?_ ?_
   | refine LeO.bind ?_ (fun _ => ?_)
  ·intro y0 y1 y2 y3 y4 y5 y6 y7 y8 y9 y10 y11 y12 y13 y14 y15 y16
   unfold flagstonelaw09_ContentRefuses.j2
   repeat' first
   | (with_reducible exact ih0 _ _ _ _ _ _ _ _)
   | (with_reducible exact ih1 _ _ _ _ _ _ _ _ _ _ _ _ _ _ _ _ _)
   | (with_reducible exact ih2 _ _ _ _ _ _ _ _ _ _ _ _ _ _ _ _ _)
   | (with_reducible exact ih3 _ _ _ _ _ _ _ _ _)
   | (with_reducible exact ih4 _ _ _ _ _ _ _ _)
   | (with_reducible exact flagstonelaw09_its.mono _ _ _ _)
   | (with_reducible exact flagstonelaw09_small.mono _ _ _ _)
   | (with_reducible exact flagstoneref06_Same.mono _ _ _ _ _ _ _)
   | (with_reducible exact LeO.refl _)
   | (with_reducible exact LeO.none _)
   | (with_reducible refine LeO.ite ?_ ?_)
   | (with_reducible refine LeO.bind ?_ (fun _ => ?_))
   | exact ih0 _ _ _ _ _ _ _ _
   | exact ih1 _ _ _ _ _ _ _ _ _ _ _ _ _ _ _ _ _
   | exact ih2 _ _ _ _ _ _ _ _ _ _ _ _ _ _ _ _ _
   | exact ih3 _ _ _ _ _ _ _ _ _
   | exact ih4 _ _ _ _ _ _ _ _
   | exact flagstonelaw09_its.mono _ _ _ _
   | exact flagstonelaw09_small.mono _ _ _ _
   | exact flagstoneref06_Same.mono _ _ _ _ _ _ _
   | exact LeO.none _
   | refine LeO.ite ?_ ?_
   | refine LeO.bind ?_ (fun _ => ?_)
  ·intro y0 y1 y2 y3 y4 y5 y6 y7 y8
   unfold flagstonelaw09_ContentRefuses.j3
   repeat' first
   | (with_reducible exact ih0 _ _ _ _ _ _ _ _)
   | (with_reducible exact ih1 _ _ _ _ _ _ _ _ _ _ _ _ _ _ _ _ _)
   | (with_reducible exact ih2 _ _ _ _ _ _ _ _ _ _ _ _ _ _ _ _ _)
   | (with_reducible exact ih3 _ _ _ _ _ _ _ _ _)
   | (with_reducible exact ih4 _ _ _ _ _ _ _ _)
   | (with_reducible exact flagstonelaw09_its.mono _ _ _ _)
   | (with_reducible exact flagstonelaw09_small.mono _ _ _ _)
   | (with_reducible exact flagstoneref06_Same.mono _ _ _ _ _ _ _)
   | (with_reducible exact LeO.refl _)
   | (with_reducible exact LeO.none _)
   | (with_reducible refine LeO.ite ?_ ?_)
   | (with_reducible refine LeO.bind ?_ (fun _ => ?_))
   | exact ih0 _ _ _ _ _ _ _ _
   | exact ih1 _ _ _ _ _ _ _ _ _ _ _ _ _ _ _ _ _
   | exact ih2 _ _ _ _ _ _ _ _ _ _ _ _ _ _ _ _ _
   | exact ih3 _ _ _ _ _ _ _ _ _
   | exact ih4 _ _ _ _ _ _ _ _
   | exact flagstonelaw09_its.mono _ _ _ _
   | exact flagstonelaw09_small.mono _ _ _ _
   | exact flagstoneref06_Same.mono _ _ _ _ _ _ _
   | exact LeO.none _
   | refine LeO.ite ?_ ?_
   | refine LeO.bind ?_ (fun _ => ?_)
  ·intro y0 y1 y2 y3 y4 y5 y6 y7
   unfold flagstonelaw09_ContentRefuses.j4
   repeat' first
   | (with_reducible exact ih0 _ _ _ _ _ _ _ _)
   | (with_reducible exact ih1 _ _ _ _ _ _ _ _ _ _ _ _ _ _ _ _ _)
   | (with_reducible exact ih2 _ _ _ _ _ _ _ _ _ _ _ _ _ _ _ _ _)
   | (with_reducible exact ih3 _ _ _ _ _ _ _ _ _)
   | (with_reducible exact ih4 _ _ _ _ _ _ _ _)
   | (with_reducible exact flagstonelaw09_its.mono _ _ _ _)
   | (with_reducible exact flagstonelaw09_small.mono _ _ _ _)
   | (with_reducible exact flagstoneref06_Same.mono _ _ _ _ _ _ _)
   | (with_reducible exact LeO.refl _)
   | (with_reducible exact LeO.none _)
   | (with_reducible refine LeO.ite ?_ ?_)
   | (with_reducible refine LeO.bind ?_ (fun _ => ?_))
   | exact ih0 _ _ _ _ _ _ _ _
   | exact ih1 _ _ _ _ _ _ _ _ _ _ _ _ _ _ _ _ _
   | exact ih2 _ _ _ _ _ _ _ _ _ _ _ _ _ _ _ _ _
   | exact ih3 _ _ _ _ _ _ _ _ _
   | exact ih4 _ _ _ _ _ _ _ _
   | exact flagstonelaw09_its.mono _ _ _ _
   | exact flagstonelaw09_small.mono _ _ _ _
   | exact flagstoneref06_Same.mono _ _ _ _ _ _ _
   | exact LeO.none _
   | refine LeO.ite ?_ ?_
   | refine LeO.bind ?_ (fun _ => ?_)
theorem flagstonelaw09_ContentRefuses.mono : ∀ a0 a1 a2 a3 a4 a5 a6 k, LeO (flagstonelaw09_ContentRefuses.f k a0 a1 a2 a3 a4 a5 a6) (flagstonelaw09_ContentRefuses.f (k + 1) a0 a1 a2 a3 a4 a5 a6) := by
 intro a0 a1 a2 a3 a4 a5 a6 k
 obtain ⟨ih0, ih1, ih2, ih3, ih4⟩ := flagstonelaw09_ContentRefuses.mono_l k
 unfold flagstonelaw09_ContentRefuses.f
 repeat' first
   | (with_reducible exact ih0 _ _ _ _ _ _ _ _)
   | (with_reducible exact ih1 _ _ _ _ _ _ _ _ _ _ _ _ _ _ _ _ _)
   | (with_reducible exact ih2 _ _ _ _ _ _ _ _ _ _ _ _ _ _ _ _ _)
   | (with_reducible exact ih3 _ _ _ _ _ _ _ _ _)
   | (with_reducible exact ih4 _ _ _ _ _ _ _ _)
   | (with_reducible exact flagstonelaw09_its.mono _ _ _ _)
   | (with_reducible exact flagstonelaw09_small.mono _ _ _ _)
   | (with_reducible exact flagstoneref06_Same.mono _ _ _ _ _ _ _)
   | (with_reducible exact LeO.refl _)
   | (with_reducible exact LeO.none _)
   | (with_reducible refine LeO.ite ?_ ?_)
   | (with_reducible refine LeO.bind ?_ (fun _ => ?_))
   | exact ih0 _ _ _ _ _ _ _ _
   | exact ih1 _ _ _ _ _ _ _ _ _ _ _ _ _ _ _ _ _
   | exact ih2 _ _ _ _ _ _ _ _ _ _ _ _ _ _ _ _ _
   | exact ih3 _ _ _ _ _ _ _ _ _
   | exact ih4 _ _ _ _ _ _ _ _
   | exact flagstonelaw09_its.mono _ _ _ _
   | exact flagstonelaw09_small.mono _ _ _ _
   | exact flagstoneref06_Same.mono _ _ _ _ _ _ _
   | exact LeO.none _
   | refine LeO.ite ?_ ?_
   | refine LeO.bind ?_ (fun _ => ?_)
def flagstonelaw09_ContentRefuses.T15 : Bool × List (List Nat × List Nat) := (true, [([], []), ([0], [0]), ([1], [1]), ([2], [2]), ([3, 2], [2, 3]), ([2, 4], [2, 4]), ([5, 2], [5]), ([6], [6]), ([6], [6]), ([7, 8, 6], [6, 7, 8]), ([6, 9], [6, 9]), ([10, 6], [10]), ([11], [11]), ([11], [11]), ([12, 13, 11], [11, 12, 13]), ([11, 14], [11, 14]), ([15, 11], [15]), ([16], [16]), ([16], [16]), ([17, 18, 16], [16, 17, 18]), ([16, 19], [16, 19]), ([20, 16], [20]), ([21], [21]), ([21], [21]), ([22, 23, 21], [21, 22, 23]), ([21, 24], [21, 24]), ([25, 21], [25]), ([26], [26]), ([27, 26, 26], [26, 27]), ([26], [26]), ([29, 28, 26], [26, 29]), ([28, 30, 30, 26], [26, 28, 30]), ([26, 31], [26, 31]), ([32, 31], [32]), ([33], [33]), ([34, 33, 33], [33, 34]), ([33], [33]), ([36, 35, 33], [33, 36]), ([35, 37, 37, 33], [33, 35, 37]), ([33, 38], [33, 38]), ([39, 38, 0, 1, 2, 3, 4, 5, 6, 7, 8, 9, 10, 11, 12, 13, 14, 15, 16, 17, 18, 19, 20, 21, 22, 23, 24, 25, 26, 27, 28, 29, 30, 31, 32, 33, 34, 35, 36, 37, 38, 39], [39])])
def flagstonelaw09_ContentRefuses.B15 : List Nat := [0, 1, 3, 7, 15, 31, 63, 127, 127, 511, 1023, 2047, 4095, 4095, 16383, 32767, 65535, 131071, 131071, 524287, 1048575, 2097151, 4194303, 4194303, 16777215, 33554431, 67108863, 134217727, 268435455, 134217727, 1073741823, 2147483647, 4294967295, 8589934591, 17179869183, 34359738367, 17179869183, 137438953471, 274877906943, 549755813887, 1099511627775]
theorem flagstonelaw09_ContentRefuses.tab15 : rtab .any (opsOf Try.f8 15) = flagstonelaw09_ContentRefuses.T15 := by kernel_rfl
theorem flagstonelaw09_ContentRefuses.bits15 : waitsOk flagstonelaw09_ContentRefuses.T15.2 flagstonelaw09_ContentRefuses.B15 = true := by kernel_rfl
set_option maxHeartbeats 8000000 in
set_option maxRecDepth 100000 in
theorem flagstonelaw09_ContentRefuses.calls (k : Nat) (A0_0 : Option Addr) (c0_0 : Nat) (l0_0 : List (S59)) (a0_1 : Int) (a0_2 : Int) (a1 : Int) (a2 : Int) (a3 : Int) (a4 : ByteArray) (r : Bool) (w : World) (hr0_0 : Kd.C k59 w A0_0 l0_0.length l0_0) (hc0_0 : l0_0.length ≤ c0_0) (h : flagstonelaw09_ContentRefuses.f k l0_0 a0_1 a0_2 a1 a2 a3 a4 = some r) :
  Calls Try.prog 8 #[.agg #[.slice A0_0 l0_0.length c0_0, .int .i64 a0_1, .int .i64 a0_2], .int .i64 a1, .int .i64 a2, .int .i64 a3, .string a4] w fun e w' => e = .returned (.bool r) ∧ Below w.heap.size w w' := by
 have hu24 := Try.underlying24
 have hu53 := Try.underlying53
 have HR0_0 := Am_ hr0_0
 have HC0_0 := Am_ hc0_0
 clear hr0_0 hc0_0
 have HB := Am_ (Below.refl w.heap.size w)
 have H : ((flagstonelaw09_small.f k l0_0 a0_1 a0_2).bind fun t276 => (if t276 = true then (if (a4.size : Int) > 300 then (flagstonelaw09_ContentRefuses.j0 k a1 a2 a3 a4 true l0_0 a0_1 a0_2) else ((flagstonelaw09_shown.f).bind fun t277 => (flagstonelaw09_ContentRefuses.j0 k a1 a2 a3 a4 (!t277) l0_0 a0_1 a0_2))) else (flagstonelaw09_ContentRefuses.j0 k a1 a2 a3 a4 true l0_0 a0_1 a0_2))) = some r := h
 clear h
 have HC6 := Am_ H
 clear H
 go_enter Try.func8, Try.ntmps8
 go_upto_region 1 with (first | ((with_reducible refine gate_dst (N := 5) rfl ?_); (try (refine gate_guard (by rfl) ?_; dsimp only)); refine box_event ?hg (N := 5) ?hd (cs := #[.slice A0_0 l0_0.length c0_0, .int .i64 a0_1, .int .i64 a0_2]) (t := 24) ?hr ?_; (case hd => rfl); (case hg => rfl); (case hr => first | (go_simp; done) | (go_simp; rfl)); intro gb275 hg w7 hbox hb; have n0_ := Am_ (Be_ (by repeat (first | (with_reducible first | exact HB.out | apply Pa_ | apply Pn_ | apply Pd_) | exact HB.out)) hb); have n1_ := Am_ (hbox); have n2_ := Am_ ((by rw [hg]; exact (Bz_ (by repeat (first | (with_reducible first | exact HB.out | apply Pa_ | apply Pn_ | apply Pd_) | exact HB.out))) : w.heap.size ≤ gb275)); have n3_ := Am_ ((by rw [hg]; exact (Bz_ (by repeat (first | (with_reducible first | exact HB.out | apply Pa_ | apply Pn_ | apply Pd_) | exact HB.out))) : w.heap.size ≤ gb275)); clear HB; have HB := n0_; have BK275 := n1_; have GW275 := n2_; have GE275 := n3_; clear n0_ n1_ n2_ n3_; clear hb hbox hg))
 (try simp only [Act.put, La_, Lb_, Lc_])
 go_cut [33] (fun v33 wc => ∃ (kq : Nat) (x33_5 : Bool), v33 = .bool x33_5 ∧ Aside0 (flagstonelaw09_ContentRefuses.j0 kq a1 a2 a3 a4 x33_5 l0_0 a0_1 a0_2 = some r) ∧ Aside0 (kq ≤ k) ∧ Aside0 (wc.heap[gb275]? = some (.cells #[(.slice A0_0 l0_0.length c0_0), .int .i64 a0_1, .int .i64 a0_2] 24 (0, 0))) ∧ Aside0 (Below w.heap.size w wc))
 case first =>
  have H := HC6.out
  clear HC6
  replace H := Option.bind_eq_some_iff.mp H
  obtain ⟨t276, A80, H⟩ := H
  replace H : (if t276 = true then (if (a4.size : Int) > 300 then (flagstonelaw09_ContentRefuses.j0 k a1 a2 a3 a4 true l0_0 a0_1 a0_2) else ((flagstonelaw09_shown.f).bind fun t277 => (flagstonelaw09_ContentRefuses.j0 k a1 a2 a3 a4 (!t277) l0_0 a0_1 a0_2))) else (flagstonelaw09_ContentRefuses.j0 k a1 a2 a3 a4 true l0_0 a0_1 a0_2)) = some r := H
  have A8 := Am_ A80
  clear A80
  by_cases c9 : t276 = true
  ·subst c9
   have H1 : (if (a4.size : Int) > 300 then (flagstonelaw09_ContentRefuses.j0 k a1 a2 a3 a4 true l0_0 a0_1 a0_2) else ((flagstonelaw09_shown.f).bind fun t277 => (flagstonelaw09_ContentRefuses.j0 k a1 a2 a3 a4 (!t277) l0_0 a0_1 a0_2))) = some r := by rw [if_pos rfl] at H; exact H
   clear H
   have H := H1
   clear H1
   by_cases c10 : (a4.size : Int) > 300
   ·rw [if_pos c10] at H
    have c10b0 : decide (300 < (a4.size : Int)) = true := Dt_ c10
    have c10b1 : decide (300 < a4.size) = true := Dt_ (by omega)
    clear c10
    (first | rw [c10b0] | (simp only [i64_w, i32_w]; rw [c10b0]) | skip)
    have H' := Am_ H
    clear H
    have hcz11_0 : w7.cell? ⟨gb275, 0, none⟩ = some (.slice A0_0 l0_0.length c0_0) := (Bc_ BK275.out 0).trans rfl
    have hcz11_1 : w7.cell? ⟨gb275, 1, none⟩ = some (.int .i64 a0_1) := (Bc_ BK275.out 1).trans rfl
    have hcz11_2 : w7.cell? ⟨gb275, 2, none⟩ = some (.int .i64 a0_2) := (Bc_ BK275.out 2).trans rfl
    have hfz11_0 := Bf_ BK275.out 0
    have hfz11_1 := Bf_ BK275.out 1
    have hfz11_2 := Bf_ BK275.out 2
    go_wp2_with (first | ((with_reducible refine gate_callee (f := 9) rfl ?_); refine goesL_ (some 23) rfl rfl Try.func9 (by kernel_rfl) rfl #[.agg #[.slice A0_0 l0_0.length c0_0, .int .i64 a0_1, .int .i64 a0_2]] rfl (by (try simp only [List.map_toArray, List.map_cons, List.map_nil]); first | done | rfl | (simp only [List.length_drop, List.length_take]; rfl)) ?_; (with_reducible refine (flagstonelaw09_small.calls k _ _ l0_0 a0_1 a0_2 true _ ?side1 ?side2 A8.out).mono ?_); (case side1 => repeat (first | exact (Kd.C_below HR0_0.out HB.out) | (with_reducible refine Kd.C_alloc ?_ _) | (with_reducible refine Kd.C_drewN ?_ _) | (with_reducible refine Kd.C_drew ?_))); (case side2 => exact HC0_0.out); rintro e w12 ⟨rfl, hb⟩; refine ⟨_, rfl, ?_⟩; have n0_ := Am_ (Bb_ (g := gb275) (o := .cells #[.slice A0_0 l0_0.length c0_0, .int .i64 a0_1, .int .i64 a0_2] 24 (0, 0)) (by (with_reducible repeat (first | refine Bn_ ?_ _ | refine Bd_ ?_ | refine Ba_ ?_ _)); exact BK275.out) hb); have n1_ := Am_ (Be_ (by repeat (first | (with_reducible first | exact HB.out | apply Pa_ | apply Pn_ | apply Pd_ | refine Bs_ ?_ GE275.out) | exact HB.out)) hb); clear BK275; clear HB; have BK275 := n0_; have HB := n1_; clear n0_ n1_; (try clear hb); (try clear hb2); (try clear hk); (try clear hi)))
    go_meet
    case rel => exact ⟨_, (true), (by first | rfl | (simp; done) | (simp [*]; done)), H', ⟨by first | omega | exact Nat.le_refl _⟩, ⟨by (with_reducible repeat (first | refine Bn_ ?_ _ | refine Bd_ ?_ | refine Ba_ ?_ _)); exact BK275.out⟩, ⟨by repeat (first | (with_reducible first | exact HB.out | apply Pa_ | apply Pn_ | apply Pd_ | refine Bs_ ?_ GE275.out) | exact HB.out)⟩⟩
   ·rw [if_neg c10] at H
    have c10b0 : decide (300 < (a4.size : Int)) = false := Df_ c10
    have c10b1 : decide (300 < a4.size) = false := Df_ (by omega)
    clear c10
    (first | rw [c10b0] | (simp only [i64_w, i32_w]; rw [c10b0]) | skip)
    replace H := Option.bind_eq_some_iff.mp H
    obtain ⟨t277, A130, H⟩ := H
    replace H : (flagstonelaw09_ContentRefuses.j0 k a1 a2 a3 a4 (!t277) l0_0 a0_1 a0_2) = some r := H
    have A13 := Am_ A130
    clear A130
    have H' := Am_ H
    clear H
    have hcz14_0 : w7.cell? ⟨gb275, 0, none⟩ = some (.slice A0_0 l0_0.length c0_0) := (Bc_ BK275.out 0).trans rfl
    have hcz14_1 : w7.cell? ⟨gb275, 1, none⟩ = some (.int .i64 a0_1) := (Bc_ BK275.out 1).trans rfl
    have hcz14_2 : w7.cell? ⟨gb275, 2, none⟩ = some (.int .i64 a0_2) := (Bc_ BK275.out 2).trans rfl
    have hfz14_0 := Bf_ BK275.out 0
    have hfz14_1 := Bf_ BK275.out 1
    have hfz14_2 := Bf_ BK275.out 2
    go_wp2_with (first | ((with_reducible refine gate_callee (f := 9) rfl ?_); refine goesL_ (some 23) rfl rfl Try.func9 (by kernel_rfl) rfl #[.agg #[.slice A0_0 l0_0.length c0_0, .int .i64 a0_1, .int .i64 a0_2]] rfl (by (try simp only [List.map_toArray, List.map_cons, List.map_nil]); first | done | rfl | (simp only [List.length_drop, List.length_take]; rfl)) ?_; (with_reducible refine (flagstonelaw09_small.calls k _ _ l0_0 a0_1 a0_2 true _ ?side1 ?side2 A8.out).mono ?_); (case side1 => repeat (first | exact (Kd.C_below HR0_0.out HB.out) | (with_reducible refine Kd.C_alloc ?_ _) | (with_reducible refine Kd.C_drewN ?_ _) | (with_reducible refine Kd.C_drew ?_))); (case side2 => exact HC0_0.out); rintro e w15 ⟨rfl, hb⟩; refine ⟨_, rfl, ?_⟩; have n0_ := Am_ (Bb_ (g := gb275) (o := .cells #[.slice A0_0 l0_0.length c0_0, .int .i64 a0_1, .int .i64 a0_2] 24 (0, 0)) (by (with_reducible repeat (first | refine Bn_ ?_ _ | refine Bd_ ?_ | refine Ba_ ?_ _)); exact BK275.out) hb); have n1_ := Am_ (Be_ (by repeat (first | (with_reducible first | exact HB.out | apply Pa_ | apply Pn_ | apply Pd_ | refine Bs_ ?_ GE275.out) | exact HB.out)) hb); clear BK275; clear HB; have BK275 := n0_; have HB := n1_; clear n0_ n1_; (try clear hb); (try clear hb2); (try clear hk); (try clear hi)) | (go_at_call 10; (with_reducible refine (flagstonelaw09_shown.calls  t277 _ A13.out).mono ?_); rintro e w16 ⟨rfl, hb⟩; have n0_ := Am_ (Bb_ (g := gb275) (o := .cells #[.slice A0_0 l0_0.length c0_0, .int .i64 a0_1, .int .i64 a0_2] 24 (0, 0)) (by (with_reducible repeat (first | refine Bn_ ?_ _ | refine Bd_ ?_ | refine Ba_ ?_ _)); exact BK275.out) hb); have n1_ := Am_ (Be_ (by repeat (first | (with_reducible first | exact HB.out | apply Pa_ | apply Pn_ | apply Pd_ | refine Bs_ ?_ GE275.out) | exact HB.out)) hb); clear BK275; clear HB; have BK275 := n0_; have HB := n1_; clear n0_ n1_; (try clear hb); (try clear hb2); (try clear hk); (try clear hi)))
    go_meet
    case rel => exact ⟨_, (!t277), (by first | rfl | (simp; done) | (simp [*]; done)), H', ⟨by first | omega | exact Nat.le_refl _⟩, ⟨by (with_reducible repeat (first | refine Bn_ ?_ _ | refine Bd_ ?_ | refine Ba_ ?_ _)); exact BK275.out⟩, ⟨by repeat (first | (with_reducible first | exact HB.out | apply Pa_ | apply Pn_ | apply Pd_ | refine Bs_ ?_ GE275.out) | exact HB.out)⟩⟩
  ·replace c9 := Bool.eq_false_iff.mpr c9
   subst c9
   have H1 : (flagstonelaw09_ContentRefuses.j0 k a1 a2 a3 a4 true l0_0 a0_1 a0_2) = some r := by rw [if_neg (show ¬ (false = true) by decide)] at H; exact H
   clear H
   have H := H1
   clear H1
   have H' := Am_ H
   clear H
   have hcz17_0 : w7.cell? ⟨gb275, 0, none⟩ = some (.slice A0_0 l0_0.length c0_0) := (Bc_ BK275.out 0).trans rfl
   have hcz17_1 : w7.cell? ⟨gb275, 1, none⟩ = some (.int .i64 a0_1) := (Bc_ BK275.out 1).trans rfl
   have hcz17_2 : w7.cell? ⟨gb275, 2, none⟩ = some (.int .i64 a0_2) := (Bc_ BK275.out 2).trans rfl
   have hfz17_0 := Bf_ BK275.out 0
   have hfz17_1 := Bf_ BK275.out 1
   have hfz17_2 := Bf_ BK275.out 2
   go_wp2_with (first | ((with_reducible refine gate_callee (f := 9) rfl ?_); refine goesL_ (some 23) rfl rfl Try.func9 (by kernel_rfl) rfl #[.agg #[.slice A0_0 l0_0.length c0_0, .int .i64 a0_1, .int .i64 a0_2]] rfl (by (try simp only [List.map_toArray, List.map_cons, List.map_nil]); first | done | rfl | (simp only [List.length_drop, List.length_take]; rfl)) ?_; (with_reducible refine (flagstonelaw09_small.calls k _ _ l0_0 a0_1 a0_2 false _ ?side1 ?side2 A8.out).mono ?_); (case side1 => repeat (first | exact (Kd.C_below HR0_0.out HB.out) | (with_reducible refine Kd.C_alloc ?_ _) | (with_reducible refine Kd.C_drewN ?_ _) | (with_reducible refine Kd.C_drew ?_))); (case side2 => exact HC0_0.out); rintro e w18 ⟨rfl, hb⟩; refine ⟨_, rfl, ?_⟩; have n0_ := Am_ (Bb_ (g := gb275) (o := .cells #[.slice A0_0 l0_0.length c0_0, .int .i64 a0_1, .int .i64 a0_2] 24 (0, 0)) (by (with_reducible repeat (first | refine Bn_ ?_ _ | refine Bd_ ?_ | refine Ba_ ?_ _)); exact BK275.out) hb); have n1_ := Am_ (Be_ (by repeat (first | (with_reducible first | exact HB.out | apply Pa_ | apply Pn_ | apply Pd_ | refine Bs_ ?_ GE275.out) | exact HB.out)) hb); clear BK275; clear HB; have BK275 := n0_; have HB := n1_; clear n0_ n1_; (try clear hb); (try clear hb2); (try clear hk); (try clear hi)))
   go_meet
   case rel => exact ⟨_, (true), (by first | rfl | (simp; done) | (simp [*]; done)), H', ⟨by first | omega | exact Nat.le_refl _⟩, ⟨by (with_reducible repeat (first | refine Bn_ ?_ _ | refine Bd_ ?_ | refine Ba_ ?_ _)); exact BK275.out⟩, ⟨by repeat (first | (with_reducible first | exact HB.out | apply Pa_ | apply Pn_ | apply Pd_ | refine Bs_ ?_ GE275.out) | exact HB.out)⟩⟩
 case rest =>
  clear HC6
  try clear c1
  try clear p2
  try clear c8
  try clear c9
  try clear c10
  try clear c10b0
  try clear c10b1
  try clear hcz11_0
  try clear hcz11_1
  try clear hcz11_2
  try clear hcz14_0
  try clear hcz14_1
  try clear hcz14_2
  try clear hcz17_0
  try clear hcz17_1
  try clear hcz17_2
  try clear hfz11_0
  try clear hfz11_1
  try clear hfz11_2
  try clear hfz14_0
  try clear hfz14_1
  try clear hfz14_2
  try clear hfz17_0
  try clear hfz17_1
  try clear hfz17_2
  obtain ⟨kq, x33_5, rfl, HA, HJ5, BK275, HB⟩ := hcut
  cases kq with
  | zero => exact absurd HA.out (by simp [flagstonelaw09_ContentRefuses.j0])
  | succ kj5 =>
   have H := HA.out
   clear HA
   simp only [flagstonelaw09_ContentRefuses.j0] at H
   by_cases c19 : x33_5 = true
   ·subst c19
    have H1 : ((flagstonelaw09_shown.f).bind fun t278 => (some t278)) = some r := by rw [if_pos rfl] at H; exact H
    clear H
    have H := H1
    clear H1
    replace H := Option.bind_eq_some_iff.mp H
    obtain ⟨t278, A200, H⟩ := H
    replace H : (some t278) = some r := H
    have A20 := Am_ A200
    clear A200
    obtain rfl := Option.some.inj H
    go_wp2_with (first | ((with_reducible refine gate_callee (f := 10) rfl ?_); refine goesL_ (some 34) rfl rfl Try.func10 (by kernel_rfl) rfl #[] rfl (by (try simp only [List.map_toArray, List.map_cons, List.map_nil]); first | done | rfl | (simp only [List.length_drop, List.length_take]; rfl)) ?_; (with_reducible refine (flagstonelaw09_shown.calls  t278 _ A20.out).mono ?_); rintro e w21 ⟨rfl, hb⟩; refine ⟨_, rfl, ?_⟩; have n0_ := Am_ (Bb_ (g := gb275) (o := .cells #[.slice A0_0 l0_0.length c0_0, .int .i64 a0_1, .int .i64 a0_2] 24 (0, 0)) (by (with_reducible repeat (first | refine Bn_ ?_ _ | refine Bd_ ?_ | refine Ba_ ?_ _)); exact BK275.out) hb); have n1_ := Am_ (Be_ (by repeat (first | (with_reducible first | exact HB.out | apply Pa_ | apply Pn_ | apply Pd_ | refine Bs_ ?_ GE275.out) | exact HB.out)) hb); clear BK275; clear HB; have BK275 := n0_; have HB := n1_; clear n0_ n1_; (try clear hb); (try clear hb2); (try clear hk); (try clear hi)))
    go_ret
    exact ⟨by first | rfl | (simp [errW_none, errW_some] <;> rfl) | (simp [*, errW_none, errW_some] <;> rfl), by repeat (first | (with_reducible first | exact HB.out | apply Pa_ | apply Pn_ | apply Pd_ | refine Bs_ ?_ GE275.out) | exact HB.out)⟩
   ·replace c19 := Bool.eq_false_iff.mpr c19
    subst c19
    have H1 : ((flagstonelaw09_its.f kj5 l0_0 a0_1 a0_2).bind fun bt279 => ((flagstoneref06_Get.f bt279.1 bt279.2.1 bt279.2.2 a1).bind fun bt284 => (if bt284.2.2.2.2.2.2.2.2 = true then (flagstonelaw09_ContentRefuses.j1 kj5 a1 a2 a3 a4 bt284.2.2.2.2.2.2.2.2 (bt284.1 == 1) l0_0 a0_1 a0_2 bt284.1 bt284.2.1 bt284.2.2.1 bt284.2.2.2.1 bt284.2.2.2.2.1 bt284.2.2.2.2.2.1 bt284.2.2.2.2.2.2.1 bt284.2.2.2.2.2.2.2.1) else (flagstonelaw09_ContentRefuses.j1 kj5 a1 a2 a3 a4 bt284.2.2.2.2.2.2.2.2 false l0_0 a0_1 a0_2 bt284.1 bt284.2.1 bt284.2.2.1 bt284.2.2.2.1 bt284.2.2.2.2.1 bt284.2.2.2.2.2.1 bt284.2.2.2.2.2.2.1 bt284.2.2.2.2.2.2.2.1)))) = some r := by rw [if_neg (show ¬ (false = true) by decide)] at H; exact H
    clear H
    have H := H1
    clear H1
    replace H := Option.bind_eq_some_iff.mp H
    obtain ⟨⟨t279, t282, t283⟩, A220, H⟩ := H
    replace H : ((flagstoneref06_Get.f t279 t282 t283 a1).bind fun bt284 => (if bt284.2.2.2.2.2.2.2.2 = true then (flagstonelaw09_ContentRefuses.j1 kj5 a1 a2 a3 a4 bt284.2.2.2.2.2.2.2.2 (bt284.1 == 1) l0_0 a0_1 a0_2 bt284.1 bt284.2.1 bt284.2.2.1 bt284.2.2.2.1 bt284.2.2.2.2.1 bt284.2.2.2.2.2.1 bt284.2.2.2.2.2.2.1 bt284.2.2.2.2.2.2.2.1) else (flagstonelaw09_ContentRefuses.j1 kj5 a1 a2 a3 a4 bt284.2.2.2.2.2.2.2.2 false l0_0 a0_1 a0_2 bt284.1 bt284.2.1 bt284.2.2.1 bt284.2.2.2.1 bt284.2.2.2.2.1 bt284.2.2.2.2.2.1 bt284.2.2.2.2.2.2.1 bt284.2.2.2.2.2.2.2.1))) = some r := H
    have A22 := Am_ A220
    clear A220
    replace H := Option.bind_eq_some_iff.mp H
    obtain ⟨⟨t284, t285, t286, t287, t288, t289, t290, t291, t294⟩, A230, H⟩ := H
    replace H : (if t294 = true then (flagstonelaw09_ContentRefuses.j1 kj5 a1 a2 a3 a4 t294 (t284 == 1) l0_0 a0_1 a0_2 t284 t285 t286 t287 t288 t289 t290 t291) else (flagstonelaw09_ContentRefuses.j1 kj5 a1 a2 a3 a4 t294 false l0_0 a0_1 a0_2 t284 t285 t286 t287 t288 t289 t290 t291)) = some r := H
    have A23 := Am_ A230
    clear A230
    have HC24 := Am_ H
    clear H
    have hcz25_0 : wc.cell? ⟨gb275, 0, none⟩ = some (.slice A0_0 l0_0.length c0_0) := (Bc_ BK275.out 0).trans rfl
    have hcz25_1 : wc.cell? ⟨gb275, 1, none⟩ = some (.int .i64 a0_1) := (Bc_ BK275.out 1).trans rfl
    have hcz25_2 : wc.cell? ⟨gb275, 2, none⟩ = some (.int .i64 a0_2) := (Bc_ BK275.out 2).trans rfl
    have hfz25_0 := Bf_ BK275.out 0
    have hfz25_1 := Bf_ BK275.out 1
    have hfz25_2 := Bf_ BK275.out 2
    go_upto_region 4 with (first | ((with_reducible refine gate_callee (f := 13) rfl ?_); refine goesL_ (some 37) rfl rfl Try.func13 (by kernel_rfl) rfl #[.agg #[.slice A0_0 l0_0.length c0_0, .int .i64 a0_1, .int .i64 a0_2]] rfl (by (try simp only [List.map_toArray, List.map_cons, List.map_nil]); first | done | rfl | (simp only [List.length_drop, List.length_take]; rfl)) ?_; (with_reducible refine (flagstonelaw09_its.calls kj5 _ _ l0_0 a0_1 a0_2 t279 t282 t283 _ ?side1 ?side2 A22.out).mono ?_); (case side1 => repeat (first | exact (Kd.C_below HR0_0.out HB.out) | (with_reducible refine Kd.C_alloc ?_ _) | (with_reducible refine Kd.C_drewN ?_ _) | (with_reducible refine Kd.C_drew ?_))); (case side2 => exact HC0_0.out); rintro e w26 ⟨v280, rfl, ho0, hb⟩; refine ⟨_, rfl, ?_⟩; have n0_ := Am_ (Kd.S_lower ho0 (Bz_ (by repeat (first | (with_reducible first | exact HB.out | apply Pa_ | apply Pn_ | apply Pd_ | refine Bs_ ?_ GE275.out) | exact HB.out)))); have n1_ := Am_ (Bb_ (g := gb275) (o := .cells #[.slice A0_0 l0_0.length c0_0, .int .i64 a0_1, .int .i64 a0_2] 24 (0, 0)) (by (with_reducible repeat (first | refine Bn_ ?_ _ | refine Bd_ ?_ | refine Ba_ ?_ _)); exact BK275.out) hb); have n2_ := Am_ (Be_ (by repeat (first | (with_reducible first | exact HB.out | apply Pa_ | apply Pn_ | apply Pd_ | refine Bs_ ?_ GE275.out) | exact HB.out)) hb); clear BK275; clear HB; have HO281 := n0_; have BK275 := n1_; have HB := n2_; clear n0_ n1_ n2_; (try clear hb); (try clear hb2); (try clear hk); (try clear hi); (try clear ho0); obtain ⟨Ao27, co27, eo27⟩ := Kd.S_slice HO281.out; subst eo27) | ((with_reducible refine gate_callee (f := 23) rfl ?_); refine goesL_ (some 39) rfl rfl Try.func23 (by kernel_rfl) rfl #[.agg #[.slice Ao27 t279.length co27, .int .i64 t282, .int .i64 t283], .int .i64 a1] rfl (by (try simp only [List.map_toArray, List.map_cons, List.map_nil]); first | done | rfl | (simp only [List.length_drop, List.length_take]; rfl)) ?_; (with_reducible refine (flagstoneref06_Get.calls (fun k_ => (True ∧ k_ ≠ gb275)) _ _ t279 t282 t283 a1 t284 t285 t286 t287 t288 t289 t290 t291 t294 _ ?side1 A23.out).mono ?_); (case side1 => exact Kd.S_V (Kd.S_types (HO281.out) BK275.out (by decide))); rintro e w28 ⟨v292, rfl, ho0, hb⟩; refine ⟨_, rfl, ?_⟩; have n0_ := Am_ (Kd.S_below (by (with_reducible repeat (first | apply Kd.S_alloc | apply Kd.S_drewN | apply Kd.S_drew)); exact HO281.out) hb); have n1_ := Am_ (Vl_ (Vm_ (ok' := fun k_ => k_ ≠ gb275) ho0 (fun k_ hk_ => Or.elim hk_ (fun hs_ => hs_.2) (fun hn_ => (Kd.freshB (g := gb275) (o := .cells #[.slice A0_0 l0_0.length c0_0, .int .i64 a0_1, .int .i64 a0_2] 24 (0, 0)) (by (with_reducible repeat (first | refine Bn_ ?_ _ | refine Bd_ ?_ | refine Ba_ ?_ _)); exact BK275.out) k_ hn_)))) (Bz_ (by repeat (first | (with_reducible first | exact HB.out | apply Pa_ | apply Pn_ | apply Pd_ | refine Bs_ ?_ GE275.out) | exact HB.out)))); have n2_ := Am_ (Bb_ (g := gb275) (o := .cells #[.slice A0_0 l0_0.length c0_0, .int .i64 a0_1, .int .i64 a0_2] 24 (0, 0)) (by (with_reducible repeat (first | refine Bn_ ?_ _ | refine Bd_ ?_ | refine Ba_ ?_ _)); exact BK275.out) hb); have n3_ := Am_ (Be_ (by repeat (first | (with_reducible first | exact HB.out | apply Pa_ | apply Pn_ | apply Pd_ | refine Bs_ ?_ GE275.out) | exact HB.out)) hb); clear HO281; clear BK275; clear HB; have HO281 := n0_; have HO293 := n1_; have BK275 := n2_; have HB := n3_; clear n0_ n1_ n2_ n3_; (try clear hb); (try clear hb2); (try clear hk); (try clear hi); (try clear ho0)) | ((with_reducible refine gate_dst (N := 11) rfl ?_); (try (refine gate_guard (by rfl) ?_; dsimp only)); refine box_event ?hg (N := 11) ?hd (cs := #[.int .i64 0, .int .i64 0, .int .i64 0, .int .i64 0, .int .i64 0, .int .i64 0, .string (⟨#[]⟩ : ByteArray), .slice none 0 0]) (t := 53) ?hr ?_; (case hd => rfl); (case hg => rfl); (case hr => first | (go_simp; done) | (go_simp; rfl)); intro gb295 hg w29 hbox hb; have n0_ := Am_ (Kd.S_below (Kd.S_elderB (by (with_reducible repeat (first | apply Kd.S_alloc | apply Kd.S_drewN | apply Kd.S_drew)); exact HO281.out) gb295 (Nat.le_of_eq hg.symm)) hb); have n1_ := Am_ (Vb_ (Ke_ (by (with_reducible repeat (first | apply Va_ | apply Vn_ | apply Vd_)); exact HO293.out) gb295 (Nat.le_of_eq hg.symm)) hb); have n2_ := Am_ (Bb_ (g := gb275) (o := .cells #[.slice A0_0 l0_0.length c0_0, .int .i64 a0_1, .int .i64 a0_2] 24 (0, 0)) (by (with_reducible repeat (first | refine Bn_ ?_ _ | refine Bd_ ?_ | refine Ba_ ?_ _)); exact BK275.out) hb); have n3_ := Am_ (Be_ (by repeat (first | (with_reducible first | exact HB.out | apply Pa_ | apply Pn_ | apply Pd_ | refine Bs_ ?_ GE275.out) | exact HB.out)) hb); have n4_ := Am_ (hbox); have n5_ := Am_ ((by rw [hg]; exact (Bz_ (by repeat (first | (with_reducible first | exact HB.out | apply Pa_ | apply Pn_ | apply Pd_ | refine Bs_ ?_ GE275.out) | exact HB.out))) : w.heap.size ≤ gb295)); have n6_ := Am_ ((by rw [hg]; exact (Bz_ (by repeat (first | (with_reducible first | exact HB.out | apply Pa_ | apply Pn_ | apply Pd_ | refine Bs_ ?_ GE275.out) | exact HB.out))) : w.heap.size ≤ gb295)); have n7_ := Am_ ((by rw [hg]; exact Nat.ne_of_lt (blk_lt (g := gb275) (o := .cells #[.slice A0_0 l0_0.length c0_0, .int .i64 a0_1, .int .i64 a0_2] 24 (0, 0)) (by (with_reducible repeat (first | refine Bn_ ?_ _ | refine Bd_ ?_ | refine Ba_ ?_ _)); exact BK275.out)) : gb275 ≠ gb295)); have n8_ := Am_ ((by rw [hg]; exact Nat.ne_of_gt (blk_lt (g := gb275) (o := .cells #[.slice A0_0 l0_0.length c0_0, .int .i64 a0_1, .int .i64 a0_2] 24 (0, 0)) (by (with_reducible repeat (first | refine Bn_ ?_ _ | refine Bd_ ?_ | refine Ba_ ?_ _)); exact BK275.out)) : gb295 ≠ gb275)); clear HO281; clear HO293; clear BK275; clear HB; have HO281 := n0_; have HO293 := n1_; have BK275 := n2_; have HB := n3_; have BK295 := n4_; have GW295 := n5_; have GE295 := n6_; have NB275_295 := n7_; have NB295_275 := n8_; clear n0_ n1_ n2_ n3_ n4_ n5_ n6_ n7_ n8_; clear hb hbox hg; have hnb30 := NB295_275.out; have hnc30 := NB275_295.out; have hcz31_0 : w29.cell? ⟨gb295, 0, none⟩ = some (.int .i64 0) := (Bc_ BK295.out 0).trans rfl; have hcz31_1 : w29.cell? ⟨gb295, 1, none⟩ = some (.int .i64 0) := (Bc_ BK295.out 1).trans rfl; have hcz31_2 : w29.cell? ⟨gb295, 2, none⟩ = some (.int .i64 0) := (Bc_ BK295.out 2).trans rfl; have hcz31_3 : w29.cell? ⟨gb295, 3, none⟩ = some (.int .i64 0) := (Bc_ BK295.out 3).trans rfl; have hcz31_4 : w29.cell? ⟨gb295, 4, none⟩ = some (.int .i64 0) := (Bc_ BK295.out 4).trans rfl; have hcz31_5 : w29.cell? ⟨gb295, 5, none⟩ = some (.int .i64 0) := (Bc_ BK295.out 5).trans rfl; have hcz31_6 : w29.cell? ⟨gb295, 6, none⟩ = some (.string (⟨#[]⟩ : ByteArray)) := (Bc_ BK295.out 6).trans rfl; have hcz31_7 : w29.cell? ⟨gb295, 7, none⟩ = some (.slice none 0 0) := (Bc_ BK295.out 7).trans rfl; have hfz31_0 := Bf_ BK295.out 0; have hfz31_1 := Bf_ BK295.out 1; have hfz31_2 := Bf_ BK295.out 2; have hfz31_3 := Bf_ BK295.out 3; have hfz31_4 := Bf_ BK295.out 4; have hfz31_5 := Bf_ BK295.out 5; have hfz31_6 := Bf_ BK295.out 6; have hfz31_7 := Bf_ BK295.out 7; obtain ⟨Ao32, co32, eo32⟩ := Vx_ HO293.out; subst eo32))
    (try simp only [Act.put, La_, Lb_, Lc_])
    go_cut [47] (fun v47 wc => ∃ (kq : Nat) (x47_23 : Bool), v47 = .bool x47_23 ∧ Aside0 (flagstonelaw09_ContentRefuses.j1 kq a1 a2 a3 a4 t294 x47_23 l0_0 a0_1 a0_2 t284 t285 t286 t287 t288 t289 t290 t291 = some r) ∧ Aside0 (kq ≤ kj5) ∧ Aside0 (Kd.V k75 75 wc w.heap.size (fun k_ => k_ ≠ gb275 ∧ k_ ≠ gb295) (.slice Ao32 t291.length co32) t291) ∧ Aside0 (wc.heap[gb275]? = some (.cells #[(.slice A0_0 l0_0.length c0_0), .int .i64 a0_1, .int .i64 a0_2] 24 (0, 0))) ∧ Aside0 (wc.heap[gb295]? = some (.cells #[.int .i64 t284, .int .i64 t285, .int .i64 t286, .int .i64 t287, .int .i64 t288, .int .i64 t289, .string t290, (.slice Ao32 t291.length co32)] 53 (0, 0))) ∧ Aside0 (Below w.heap.size w wc))
    case first =>
     have H := HC24.out
     clear HC24
     by_cases c33 : t294 = true
     ·subst c33
      have H1 : (flagstonelaw09_ContentRefuses.j1 kj5 a1 a2 a3 a4 true (t284 == 1) l0_0 a0_1 a0_2 t284 t285 t286 t287 t288 t289 t290 t291) = some r := by rw [if_pos rfl] at H; exact H
      clear H
      have H := H1
      clear H1
      have H' := Am_ H
      clear H
      have hnb34 := NB295_275.out
      have hnc34 := NB275_295.out
      have hcz35_0 : w29.cell? ⟨gb295, 0, none⟩ = some (.int .i64 0) := (Bc_ BK295.out 0).trans rfl
      have hcz35_1 : w29.cell? ⟨gb295, 1, none⟩ = some (.int .i64 0) := (Bc_ BK295.out 1).trans rfl
      have hcz35_2 : w29.cell? ⟨gb295, 2, none⟩ = some (.int .i64 0) := (Bc_ BK295.out 2).trans rfl
      have hcz35_3 : w29.cell? ⟨gb295, 3, none⟩ = some (.int .i64 0) := (Bc_ BK295.out 3).trans rfl
      have hcz35_4 : w29.cell? ⟨gb295, 4, none⟩ = some (.int .i64 0) := (Bc_ BK295.out 4).trans rfl
      have hcz35_5 : w29.cell? ⟨gb295, 5, none⟩ = some (.int .i64 0) := (Bc_ BK295.out 5).trans rfl
      have hcz35_6 : w29.cell? ⟨gb295, 6, none⟩ = some (.string (⟨#[]⟩ : ByteArray)) := (Bc_ BK295.out 6).trans rfl
      have hcz35_7 : w29.cell? ⟨gb295, 7, none⟩ = some (.slice none 0 0) := (Bc_ BK295.out 7).trans rfl
      have hfz35_0 := Bf_ BK295.out 0
      have hfz35_1 := Bf_ BK295.out 1
      have hfz35_2 := Bf_ BK295.out 2
      have hfz35_3 := Bf_ BK295.out 3
      have hfz35_4 := Bf_ BK295.out 4
      have hfz35_5 := Bf_ BK295.out 5
      have hfz35_6 := Bf_ BK295.out 6
      have hfz35_7 := Bf_ BK295.out 7
      go_wp2
      go_meet
      case rel => exact ⟨_, ((t284 == 1)), (by first | rfl | (simp; done) | (simp [*]; done)), H', ⟨by have := HJ5.out; first | omega | exact Nat.le_refl _⟩, ⟨by (with_reducible repeat (first | apply Va_ | apply Vn_ | apply Vd_)); exact Vm_ (Vf_ (p := ⟨gb295, 7, none⟩) (Vf_ (p := ⟨gb295, 6, none⟩) (Vf_ (p := ⟨gb295, 5, none⟩) (Vf_ (p := ⟨gb295, 4, none⟩) (Vf_ (p := ⟨gb295, 3, none⟩) (Vf_ (p := ⟨gb295, 2, none⟩) (Vf_ (p := ⟨gb295, 1, none⟩) (Vf_ (p := ⟨gb295, 0, none⟩) (Vm_ HO293.out (fun k_ hk => (⟨hk, hk.2⟩ : _ ∧ k_ ≠ gb295))) (fun _ hk => hk.2) (.int .i64 t284)) (fun _ hk => hk.2) (.int .i64 t285)) (fun _ hk => hk.2) (.int .i64 t286)) (fun _ hk => hk.2) (.int .i64 t287)) (fun _ hk => hk.2) (.int .i64 t288)) (fun _ hk => hk.2) (.int .i64 t289)) (fun _ hk => hk.2) (.string t290)) (fun _ hk => hk.2) (.slice Ao32 t291.length co32)) (fun _ hk => ⟨hk.1.1, hk.1.2⟩)⟩, ⟨by (with_reducible repeat (first | refine Bn_ ?_ _ | refine Bd_ ?_ | refine Ba_ ?_ _)); refine blk_far ?_ NB275_295.out _; (with_reducible repeat (first | refine Bn_ ?_ _ | refine Bd_ ?_ | refine Ba_ ?_ _)); refine blk_far ?_ NB275_295.out _; (with_reducible repeat (first | refine Bn_ ?_ _ | refine Bd_ ?_ | refine Ba_ ?_ _)); refine blk_far ?_ NB275_295.out _; (with_reducible repeat (first | refine Bn_ ?_ _ | refine Bd_ ?_ | refine Ba_ ?_ _)); refine blk_far ?_ NB275_295.out _; (with_reducible repeat (first | refine Bn_ ?_ _ | refine Bd_ ?_ | refine Ba_ ?_ _)); refine blk_far ?_ NB275_295.out _; (with_reducible repeat (first | refine Bn_ ?_ _ | refine Bd_ ?_ | refine Ba_ ?_ _)); refine blk_far ?_ NB275_295.out _; (with_reducible repeat (first | refine Bn_ ?_ _ | refine Bd_ ?_ | refine Ba_ ?_ _)); refine blk_far ?_ NB275_295.out _; (with_reducible repeat (first | refine Bn_ ?_ _ | refine Bd_ ?_ | refine Ba_ ?_ _)); refine blk_far ?_ NB275_295.out _; (with_reducible repeat (first | refine Bn_ ?_ _ | refine Bd_ ?_ | refine Ba_ ?_ _)); exact BK275.out⟩, ⟨by (with_reducible repeat (first | refine Bn_ ?_ _ | refine Bd_ ?_ | refine Ba_ ?_ _)); refine Bp_ (cs := #[.int .i64 t284, .int .i64 t285, .int .i64 t286, .int .i64 t287, .int .i64 t288, .int .i64 t289, .string t290, .slice none 0 0]) ?_ 7 _ rfl; (with_reducible repeat (first | refine Bn_ ?_ _ | refine Bd_ ?_ | refine Ba_ ?_ _)); refine Bp_ (cs := #[.int .i64 t284, .int .i64 t285, .int .i64 t286, .int .i64 t287, .int .i64 t288, .int .i64 t289, .string (⟨#[]⟩ : ByteArray), .slice none 0 0]) ?_ 6 _ rfl; (with_reducible repeat (first | refine Bn_ ?_ _ | refine Bd_ ?_ | refine Ba_ ?_ _)); refine Bp_ (cs := #[.int .i64 t284, .int .i64 t285, .int .i64 t286, .int .i64 t287, .int .i64 t288, .int .i64 0, .string (⟨#[]⟩ : ByteArray), .slice none 0 0]) ?_ 5 _ rfl; (with_reducible repeat (first | refine Bn_ ?_ _ | refine Bd_ ?_ | refine Ba_ ?_ _)); refine Bp_ (cs := #[.int .i64 t284, .int .i64 t285, .int .i64 t286, .int .i64 t287, .int .i64 0, .int .i64 0, .string (⟨#[]⟩ : ByteArray), .slice none 0 0]) ?_ 4 _ rfl; (with_reducible repeat (first | refine Bn_ ?_ _ | refine Bd_ ?_ | refine Ba_ ?_ _)); refine Bp_ (cs := #[.int .i64 t284, .int .i64 t285, .int .i64 t286, .int .i64 0, .int .i64 0, .int .i64 0, .string (⟨#[]⟩ : ByteArray), .slice none 0 0]) ?_ 3 _ rfl; (with_reducible repeat (first | refine Bn_ ?_ _ | refine Bd_ ?_ | refine Ba_ ?_ _)); refine Bp_ (cs := #[.int .i64 t284, .int .i64 t285, .int .i64 0, .int .i64 0, .int .i64 0, .int .i64 0, .string (⟨#[]⟩ : ByteArray), .slice none 0 0]) ?_ 2 _ rfl; (with_reducible repeat (first | refine Bn_ ?_ _ | refine Bd_ ?_ | refine Ba_ ?_ _)); refine Bp_ (cs := #[.int .i64 t284, .int .i64 0, .int .i64 0, .int .i64 0, .int .i64 0, .int .i64 0, .string (⟨#[]⟩ : ByteArray), .slice none 0 0]) ?_ 1 _ rfl; (with_reducible repeat (first | refine Bn_ ?_ _ | refine Bd_ ?_ | refine Ba_ ?_ _)); refine Bp_ (cs := #[.int .i64 0, .int .i64 0, .int .i64 0, .int .i64 0, .int .i64 0, .int .i64 0, .string (⟨#[]⟩ : ByteArray), .slice none 0 0]) ?_ 0 _ rfl; (with_reducible repeat (first | refine Bn_ ?_ _ | refine Bd_ ?_ | refine Ba_ ?_ _)); exact BK295.out⟩, ⟨by repeat (first | (with_reducible first | exact HB.out | apply Pa_ | apply Pn_ | apply Pd_ | refine Bs_ ?_ GE275.out | refine Bs_ ?_ GE295.out) | exact HB.out)⟩⟩
     ·replace c33 := Bool.eq_false_iff.mpr c33
      subst c33
      have H1 : (flagstonelaw09_ContentRefuses.j1 kj5 a1 a2 a3 a4 false false l0_0 a0_1 a0_2 t284 t285 t286 t287 t288 t289 t290 t291) = some r := by rw [if_neg (show ¬ (false = true) by decide)] at H; exact H
      clear H
      have H := H1
      clear H1
      have H' := Am_ H
      clear H
      go_wp2
      go_meet
      case rel => exact ⟨_, (false), (by first | rfl | (simp; done) | (simp [*]; done)), H', ⟨by have := HJ5.out; first | omega | exact Nat.le_refl _⟩, ⟨by (with_reducible repeat (first | apply Va_ | apply Vn_ | apply Vd_)); exact Vm_ (Vf_ (p := ⟨gb295, 7, none⟩) (Vf_ (p := ⟨gb295, 6, none⟩) (Vf_ (p := ⟨gb295, 5, none⟩) (Vf_ (p := ⟨gb295, 4, none⟩) (Vf_ (p := ⟨gb295, 3, none⟩) (Vf_ (p := ⟨gb295, 2, none⟩) (Vf_ (p := ⟨gb295, 1, none⟩) (Vf_ (p := ⟨gb295, 0, none⟩) (Vm_ HO293.out (fun k_ hk => (⟨hk, hk.2⟩ : _ ∧ k_ ≠ gb295))) (fun _ hk => hk.2) (.int .i64 t284)) (fun _ hk => hk.2) (.int .i64 t285)) (fun _ hk => hk.2) (.int .i64 t286)) (fun _ hk => hk.2) (.int .i64 t287)) (fun _ hk => hk.2) (.int .i64 t288)) (fun _ hk => hk.2) (.int .i64 t289)) (fun _ hk => hk.2) (.string t290)) (fun _ hk => hk.2) (.slice Ao32 t291.length co32)) (fun _ hk => ⟨hk.1.1, hk.1.2⟩)⟩, ⟨by (with_reducible repeat (first | refine Bn_ ?_ _ | refine Bd_ ?_ | refine Ba_ ?_ _)); refine blk_far ?_ NB275_295.out _; (with_reducible repeat (first | refine Bn_ ?_ _ | refine Bd_ ?_ | refine Ba_ ?_ _)); refine blk_far ?_ NB275_295.out _; (with_reducible repeat (first | refine Bn_ ?_ _ | refine Bd_ ?_ | refine Ba_ ?_ _)); refine blk_far ?_ NB275_295.out _; (with_reducible repeat (first | refine Bn_ ?_ _ | refine Bd_ ?_ | refine Ba_ ?_ _)); refine blk_far ?_ NB275_295.out _; (with_reducible repeat (first | refine Bn_ ?_ _ | refine Bd_ ?_ | refine Ba_ ?_ _)); refine blk_far ?_ NB275_295.out _; (with_reducible repeat (first | refine Bn_ ?_ _ | refine Bd_ ?_ | refine Ba_ ?_ _)); refine blk_far ?_ NB275_295.out _; (with_reducible repeat (first | refine Bn_ ?_ _ | refine Bd_ ?_ | refine Ba_ ?_ _)); refine blk_far ?_ NB275_295.out _; (with_reducible repeat (first | refine Bn_ ?_ _ | refine Bd_ ?_ | refine Ba_ ?_ _)); refine blk_far ?_ NB275_295.out _; (with_reducible repeat (first | refine Bn_ ?_ _ | refine Bd_ ?_ | refine Ba_ ?_ _)); exact BK275.out⟩, ⟨by (with_reducible repeat (first | refine Bn_ ?_ _ | refine Bd_ ?_ | refine Ba_ ?_ _)); refine Bp_ (cs := #[.int .i64 t284, .int .i64 t285, .int .i64 t286, .int .i64 t287, .int .i64 t288, .int .i64 t289, .string t290, .slice none 0 0]) ?_ 7 _ rfl; (with_reducible repeat (first | refine Bn_ ?_ _ | refine Bd_ ?_ | refine Ba_ ?_ _)); refine Bp_ (cs := #[.int .i64 t284, .int .i64 t285, .int .i64 t286, .int .i64 t287, .int .i64 t288, .int .i64 t289, .string (⟨#[]⟩ : ByteArray), .slice none 0 0]) ?_ 6 _ rfl; (with_reducible repeat (first | refine Bn_ ?_ _ | refine Bd_ ?_ | refine Ba_ ?_ _)); refine Bp_ (cs := #[.int .i64 t284, .int .i64 t285, .int .i64 t286, .int .i64 t287, .int .i64 t288, .int .i64 0, .string (⟨#[]⟩ : ByteArray), .slice none 0 0]) ?_ 5 _ rfl; (with_reducible repeat (first | refine Bn_ ?_ _ | refine Bd_ ?_ | refine Ba_ ?_ _)); refine Bp_ (cs := #[.int .i64 t284, .int .i64 t285, .int .i64 t286, .int .i64 t287, .int .i64 0, .int .i64 0, .string (⟨#[]⟩ : ByteArray), .slice none 0 0]) ?_ 4 _ rfl; (with_reducible repeat (first | refine Bn_ ?_ _ | refine Bd_ ?_ | refine Ba_ ?_ _)); refine Bp_ (cs := #[.int .i64 t284, .int .i64 t285, .int .i64 t286, .int .i64 0, .int .i64 0, .int .i64 0, .string (⟨#[]⟩ : ByteArray), .slice none 0 0]) ?_ 3 _ rfl; (with_reducible repeat (first | refine Bn_ ?_ _ | refine Bd_ ?_ | refine Ba_ ?_ _)); refine Bp_ (cs := #[.int .i64 t284, .int .i64 t285, .int .i64 0, .int .i64 0, .int .i64 0, .int .i64 0, .string (⟨#[]⟩ : ByteArray), .slice none 0 0]) ?_ 2 _ rfl; (with_reducible repeat (first | refine Bn_ ?_ _ | refine Bd_ ?_ | refine Ba_ ?_ _)); refine Bp_ (cs := #[.int .i64 t284, .int .i64 0, .int .i64 0, .int .i64 0, .int .i64 0, .int .i64 0, .string (⟨#[]⟩ : ByteArray), .slice none 0 0]) ?_ 1 _ rfl; (with_reducible repeat (first | refine Bn_ ?_ _ | refine Bd_ ?_ | refine Ba_ ?_ _)); refine Bp_ (cs := #[.int .i64 0, .int .i64 0, .int .i64 0, .int .i64 0, .int .i64 0, .int .i64 0, .string (⟨#[]⟩ : ByteArray), .slice none 0 0]) ?_ 0 _ rfl; (with_reducible repeat (first | refine Bn_ ?_ _ | refine Bd_ ?_ | refine Ba_ ?_ _)); exact BK295.out⟩, ⟨by repeat (first | (with_reducible first | exact HB.out | apply Pa_ | apply Pn_ | apply Pd_ | refine Bs_ ?_ GE275.out | refine Bs_ ?_ GE295.out) | exact HB.out)⟩⟩
    case rest =>
     clear HC24
     try clear c1
     try clear c2
     try clear p2
     try clear c3
     try clear c8
     try clear c9
     try clear c10
     try clear c10b0
     try clear c10b1
     try clear c13
     try clear c19
     try clear c23
     try clear c30
     try clear c33
     try clear c34
     try clear hcz11_0
     try clear hcz11_1
     try clear hcz11_2
     try clear hcz14_0
     try clear hcz14_1
     try clear hcz14_2
     try clear hcz17_0
     try clear hcz17_1
     try clear hcz17_2
     try clear hcz25_0
     try clear hcz25_1
     try clear hcz25_2
     try clear hcz31_0
     try clear hcz31_1
     try clear hcz31_2
     try clear hcz31_3
     try clear hcz31_4
     try clear hcz31_5
     try clear hcz31_6
     try clear hcz31_7
     try clear hcz35_0
     try clear hcz35_1
     try clear hcz35_2
     try clear hcz35_3
     try clear hcz35_4
     try clear hcz35_5
     try clear hcz35_6
     try clear hcz35_7
     try clear hfz11_0
     try clear hfz11_1
     try clear hfz11_2
     try clear hfz14_0
     try clear hfz14_1
     try clear hfz14_2
     try clear hfz17_0
     try clear hfz17_1
     try clear hfz17_2
     try clear hfz25_0
     try clear hfz25_1
     try clear hfz25_2
     try clear hfz31_0
     try clear hfz31_1
     try clear hfz31_2
     try clear hfz31_3
     try clear hfz31_4
     try clear hfz31_5
     try clear hfz31_6
     try clear hfz31_7
     try clear hfz35_0
     try clear hfz35_1
     try clear hfz35_2
     try clear hfz35_3
     try clear hfz35_4
     try clear hfz35_5
     try clear hfz35_6
     try clear hfz35_7
     try clear p2
     obtain ⟨kq, x47_23, rfl, HA, HJ23, HO_296007, BK275, BK295, HB⟩ := hcut
     cases kq with
     | zero => exact absurd HA.out (by simp [flagstonelaw09_ContentRefuses.j1])
     | succ kj23 =>
      have H := HA.out
      clear HA
      simp only [flagstonelaw09_ContentRefuses.j1] at H
      by_cases c36 : x47_23 = true
      ·subst c36
       have H1 : (some true) = some r := by rw [if_pos rfl] at H; exact H
       clear H
       have H := H1
       clear H1
       obtain rfl := Option.some.inj H
       go_wp2
       go_ret
       exact ⟨by first | rfl | (simp [errW_none, errW_some] <;> rfl) | (simp [*, errW_none, errW_some] <;> rfl), by repeat (first | (with_reducible first | exact HB.out | apply Pa_ | apply Pn_ | apply Pd_ | refine Bs_ ?_ GE275.out | refine Bs_ ?_ GE295.out) | exact HB.out)⟩
      ·replace c36 := Bool.eq_false_iff.mpr c36
       subst c36
       have H1 : (if t294 = true then (flagstonelaw09_ContentRefuses.j2 kj23 a1 a2 a3 a4 t294 1 l0_0 a0_1 a0_2 t284 t285 t286 t287 t288 t289 t290 t291) else (flagstonelaw09_ContentRefuses.j2 kj23 a1 a2 a3 a4 t294 2 l0_0 a0_1 a0_2 t284 t285 t286 t287 t288 t289 t290 t291)) = some r := by rw [if_neg (show ¬ (false = true) by decide)] at H; exact H
       clear H
       have H := H1
       clear H1
       have HC37 := Am_ H
       clear H
       go_upto_if 49 with (fail)
       go_cut [13] (fun v13 wc => ∃ (kq : Nat) (x13_36 : Int), v13 = .int .i64 x13_36 ∧ Aside0 (flagstonelaw09_ContentRefuses.j2 kq a1 a2 a3 a4 t294 x13_36 l0_0 a0_1 a0_2 t284 t285 t286 t287 t288 t289 t290 t291 = some r) ∧ Aside0 (kq ≤ kj23) ∧ Aside0 (Kd.V k75 75 wc w.heap.size (fun k_ => k_ ≠ gb275 ∧ k_ ≠ gb295) (.slice Ao32 t291.length co32) t291) ∧ Aside0 (wc.heap[gb275]? = some (.cells #[(.slice A0_0 l0_0.length c0_0), .int .i64 a0_1, .int .i64 a0_2] 24 (0, 0))) ∧ Aside0 (wc.heap[gb295]? = some (.cells #[.int .i64 t284, .int .i64 t285, .int .i64 t286, .int .i64 t287, .int .i64 t288, .int .i64 t289, .string t290, (.slice Ao32 t291.length co32)] 53 (0, 0))) ∧ Aside0 (Below w.heap.size w wc))
       case first =>
        have H := HC37.out
        clear HC37
        by_cases c38 : t294 = true
        ·subst c38
         have H1 : (flagstonelaw09_ContentRefuses.j2 kj23 a1 a2 a3 a4 true 1 l0_0 a0_1 a0_2 t284 t285 t286 t287 t288 t289 t290 t291) = some r := by rw [if_pos rfl] at H; exact H
         clear H
         have H := H1
         clear H1
         have H' := Am_ H
         clear H
         go_wp2
         go_meet
         case rel => exact ⟨_, (1), (by first | rfl | (simp; done) | (simp [*]; done)), H', ⟨by have := HJ5.out; have := HJ23.out; first | omega | exact Nat.le_refl _⟩, ⟨by (with_reducible repeat (first | apply Va_ | apply Vn_ | apply Vd_)); exact HO_296007.out⟩, ⟨by (with_reducible repeat (first | refine Bn_ ?_ _ | refine Bd_ ?_ | refine Ba_ ?_ _)); exact BK275.out⟩, ⟨by (with_reducible repeat (first | refine Bn_ ?_ _ | refine Bd_ ?_ | refine Ba_ ?_ _)); exact BK295.out⟩, ⟨by repeat (first | (with_reducible first | exact HB.out | apply Pa_ | apply Pn_ | apply Pd_ | refine Bs_ ?_ GE275.out | refine Bs_ ?_ GE295.out) | exact HB.out)⟩⟩
        ·replace c38 := Bool.eq_false_iff.mpr c38
         subst c38
         have H1 : (flagstonelaw09_ContentRefuses.j2 kj23 a1 a2 a3 a4 false 2 l0_0 a0_1 a0_2 t284 t285 t286 t287 t288 t289 t290 t291) = some r := by rw [if_neg (show ¬ (false = true) by decide)] at H; exact H
         clear H
         have H := H1
         clear H1
         have H' := Am_ H
         clear H
         go_wp2
         go_meet
         case rel => exact ⟨_, (2), (by first | rfl | (simp; done) | (simp [*]; done)), H', ⟨by have := HJ5.out; have := HJ23.out; first | omega | exact Nat.le_refl _⟩, ⟨by (with_reducible repeat (first | apply Va_ | apply Vn_ | apply Vd_)); exact HO_296007.out⟩, ⟨by (with_reducible repeat (first | refine Bn_ ?_ _ | refine Bd_ ?_ | refine Ba_ ?_ _)); exact BK275.out⟩, ⟨by (with_reducible repeat (first | refine Bn_ ?_ _ | refine Bd_ ?_ | refine Ba_ ?_ _)); exact BK295.out⟩, ⟨by repeat (first | (with_reducible first | exact HB.out | apply Pa_ | apply Pn_ | apply Pd_ | refine Bs_ ?_ GE275.out | refine Bs_ ?_ GE295.out) | exact HB.out)⟩⟩
       case rest =>
        clear HC37
        try clear c1
        try clear c2
        try clear p2
        try clear c3
        try clear c8
        try clear c9
        try clear c10
        try clear c10b0
        try clear c10b1
        try clear c13
        try clear c19
        try clear c23
        try clear c30
        try clear c33
        try clear c34
        try clear c36
        try clear c38
        try clear hcz11_0
        try clear hcz11_1
        try clear hcz11_2
        try clear hcz14_0
        try clear hcz14_1
        try clear hcz14_2
        try clear hcz17_0
        try clear hcz17_1
        try clear hcz17_2
        try clear hcz25_0
        try clear hcz25_1
        try clear hcz25_2
        try clear hcz31_0
        try clear hcz31_1
        try clear hcz31_2
        try clear hcz31_3
        try clear hcz31_4
        try clear hcz31_5
        try clear hcz31_6
        try clear hcz31_7
        try clear hcz35_0
        try clear hcz35_1
        try clear hcz35_2
        try clear hcz35_3
        try clear hcz35_4
        try clear hcz35_5
        try clear hcz35_6
        try clear hcz35_7
        try clear hfz11_0
        try clear hfz11_1
        try clear hfz11_2
        try clear hfz14_0
        try clear hfz14_1
        try clear hfz14_2
        try clear hfz17_0
        try clear hfz17_1
        try clear hfz17_2
        try clear hfz25_0
        try clear hfz25_1
        try clear hfz25_2
        try clear hfz31_0
        try clear hfz31_1
        try clear hfz31_2
        try clear hfz31_3
        try clear hfz31_4
        try clear hfz31_5
        try clear hfz31_6
        try clear hfz31_7
        try clear hfz35_0
        try clear hfz35_1
        try clear hfz35_2
        try clear hfz35_3
        try clear hfz35_4
        try clear hfz35_5
        try clear hfz35_6
        try clear hfz35_7
        try clear p2
        obtain ⟨kq, x13_36, rfl, HA, HJ36, HO_296007, BK275, BK295, HB⟩ := hcut
        cases kq with
        | zero => exact absurd HA.out (by simp [flagstonelaw09_ContentRefuses.j2])
        | succ kj36 =>
         have H := HA.out
         clear HA
         simp only [flagstonelaw09_ContentRefuses.j2] at H
         have HC39 := Am_ H
         clear H
         go_upto_region 9 with (fail)
         go_cut [55] (fun v55 wc => ∃ (kq : Nat) (x55_38 : Bool), v55 = .bool x55_38 ∧ Aside0 (flagstonelaw09_ContentRefuses.j3 kq a1 a2 a3 a4 x13_36 x55_38 l0_0 a0_1 a0_2 = some r) ∧ Aside0 (kq ≤ kj36) ∧ Aside0 (Kd.V k75 75 wc w.heap.size (fun k_ => k_ ≠ gb275 ∧ k_ ≠ gb295) (.slice Ao32 t291.length co32) t291) ∧ Aside0 (wc.heap[gb275]? = some (.cells #[(.slice A0_0 l0_0.length c0_0), .int .i64 a0_1, .int .i64 a0_2] 24 (0, 0))) ∧ Aside0 (wc.heap[gb295]? = some (.cells #[.int .i64 t284, .int .i64 t285, .int .i64 t286, .int .i64 t287, .int .i64 t288, .int .i64 t289, .string t290, (.slice Ao32 t291.length co32)] 53 (0, 0))) ∧ Aside0 (Below w.heap.size w wc))
         case first =>
          have H := HC39.out
          clear HC39
          by_cases c40 : t294 = true
          ·subst c40
           have H1 : (flagstonelaw09_ContentRefuses.j3 kj36 a1 a2 a3 a4 x13_36 (t284 == 2) l0_0 a0_1 a0_2) = some r := by rw [if_pos rfl] at H; exact H
           clear H
           have H := H1
           clear H1
           have H' := Am_ H
           clear H
           have hnb41 := NB295_275.out
           have hnc41 := NB275_295.out
           have hcz42_0 : wc.cell? ⟨gb295, 0, none⟩ = some (.int .i64 t284) := (Bc_ BK295.out 0).trans rfl
           have hcz42_1 : wc.cell? ⟨gb295, 1, none⟩ = some (.int .i64 t285) := (Bc_ BK295.out 1).trans rfl
           have hcz42_2 : wc.cell? ⟨gb295, 2, none⟩ = some (.int .i64 t286) := (Bc_ BK295.out 2).trans rfl
           have hcz42_3 : wc.cell? ⟨gb295, 3, none⟩ = some (.int .i64 t287) := (Bc_ BK295.out 3).trans rfl
           have hcz42_4 : wc.cell? ⟨gb295, 4, none⟩ = some (.int .i64 t288) := (Bc_ BK295.out 4).trans rfl
           have hcz42_5 : wc.cell? ⟨gb295, 5, none⟩ = some (.int .i64 t289) := (Bc_ BK295.out 5).trans rfl
           have hcz42_6 : wc.cell? ⟨gb295, 6, none⟩ = some (.string t290) := (Bc_ BK295.out 6).trans rfl
           have hcz42_7 : wc.cell? ⟨gb295, 7, none⟩ = some (.slice Ao32 t291.length co32) := (Bc_ BK295.out 7).trans rfl
           have hfz42_0 := Bf_ BK295.out 0
           have hfz42_1 := Bf_ BK295.out 1
           have hfz42_2 := Bf_ BK295.out 2
           have hfz42_3 := Bf_ BK295.out 3
           have hfz42_4 := Bf_ BK295.out 4
           have hfz42_5 := Bf_ BK295.out 5
           have hfz42_6 := Bf_ BK295.out 6
           have hfz42_7 := Bf_ BK295.out 7
           go_wp2
           go_meet
           case rel => exact ⟨_, ((t284 == 2)), (by first | rfl | (simp; done) | (simp [*]; done)), H', ⟨by have := HJ5.out; have := HJ23.out; have := HJ36.out; first | omega | exact Nat.le_refl _⟩, ⟨by (with_reducible repeat (first | apply Va_ | apply Vn_ | apply Vd_)); exact HO_296007.out⟩, ⟨by (with_reducible repeat (first | refine Bn_ ?_ _ | refine Bd_ ?_ | refine Ba_ ?_ _)); exact BK275.out⟩, ⟨by (with_reducible repeat (first | refine Bn_ ?_ _ | refine Bd_ ?_ | refine Ba_ ?_ _)); exact BK295.out⟩, ⟨by repeat (first | (with_reducible first | exact HB.out | apply Pa_ | apply Pn_ | apply Pd_ | refine Bs_ ?_ GE275.out | refine Bs_ ?_ GE295.out) | exact HB.out)⟩⟩
          ·replace c40 := Bool.eq_false_iff.mpr c40
           subst c40
           have H1 : (flagstonelaw09_ContentRefuses.j3 kj36 a1 a2 a3 a4 x13_36 false l0_0 a0_1 a0_2) = some r := by rw [if_neg (show ¬ (false = true) by decide)] at H; exact H
           clear H
           have H := H1
           clear H1
           have H' := Am_ H
           clear H
           go_wp2
           go_meet
           case rel => exact ⟨_, (false), (by first | rfl | (simp; done) | (simp [*]; done)), H', ⟨by have := HJ5.out; have := HJ23.out; have := HJ36.out; first | omega | exact Nat.le_refl _⟩, ⟨by (with_reducible repeat (first | apply Va_ | apply Vn_ | apply Vd_)); exact HO_296007.out⟩, ⟨by (with_reducible repeat (first | refine Bn_ ?_ _ | refine Bd_ ?_ | refine Ba_ ?_ _)); exact BK275.out⟩, ⟨by (with_reducible repeat (first | refine Bn_ ?_ _ | refine Bd_ ?_ | refine Ba_ ?_ _)); exact BK295.out⟩, ⟨by repeat (first | (with_reducible first | exact HB.out | apply Pa_ | apply Pn_ | apply Pd_ | refine Bs_ ?_ GE275.out | refine Bs_ ?_ GE295.out) | exact HB.out)⟩⟩
         case rest =>
          clear HC39
          try clear c1
          try clear c2
          try clear p2
          try clear c3
          try clear c4
          try clear c8
          try clear c9
          try clear c10
          try clear c10b0
          try clear c10b1
          try clear c13
          try clear c19
          try clear c23
          try clear c30
          try clear c33
          try clear c34
          try clear c36
          try clear c38
          try clear c40
          try clear c41
          try clear hcz11_0
          try clear hcz11_1
          try clear hcz11_2
          try clear hcz14_0
          try clear hcz14_1
          try clear hcz14_2
          try clear hcz17_0
          try clear hcz17_1
          try clear hcz17_2
          try clear hcz25_0
          try clear hcz25_1
          try clear hcz25_2
          try clear hcz31_0
          try clear hcz31_1
          try clear hcz31_2
          try clear hcz31_3
          try clear hcz31_4
          try clear hcz31_5
          try clear hcz31_6
          try clear hcz31_7
          try clear hcz35_0
          try clear hcz35_1
          try clear hcz35_2
          try clear hcz35_3
          try clear hcz35_4
          try clear hcz35_5
          try clear hcz35_6
          try clear hcz35_7
          try clear hcz42_0
          try clear hcz42_1
          try clear hcz42_2
          try clear hcz42_3
          try clear hcz42_4
          try clear hcz42_5
          try clear hcz42_6
          try clear hcz42_7
          try clear hfz11_0
          try clear hfz11_1
          try clear hfz11_2
          try clear hfz14_0
          try clear hfz14_1
          try clear hfz14_2
          try clear hfz17_0
          try clear hfz17_1
          try clear hfz17_2
          try clear hfz25_0
          try clear hfz25_1
          try clear hfz25_2
          try clear hfz31_0
          try clear hfz31_1
          try clear hfz31_2
          try clear hfz31_3
          try clear hfz31_4
          try clear hfz31_5
          try clear hfz31_6
          try clear hfz31_7
          try clear hfz35_0
          try clear hfz35_1
          try clear hfz35_2
          try clear hfz35_3
          try clear hfz35_4
          try clear hfz35_5
          try clear hfz35_6
          try clear hfz35_7
          try clear hfz42_0
          try clear hfz42_1
          try clear hfz42_2
          try clear hfz42_3
          try clear hfz42_4
          try clear hfz42_5
          try clear hfz42_6
          try clear hfz42_7
          try clear p2
          obtain ⟨kq, x55_38, rfl, HA, HJ38, HO_296007, BK275, BK295, HB⟩ := hcut
          cases kq with
          | zero => exact absurd HA.out (by simp [flagstonelaw09_ContentRefuses.j3])
          | succ kj38 =>
           have H := HA.out
           clear HA
           simp only [flagstonelaw09_ContentRefuses.j3] at H
           have HC43 := Am_ H
           clear H
           go_upto_if 55 with (fail)
           go_cut [13] (fun v13 wc => ∃ (kq : Nat) (x13_42 : Int), v13 = .int .i64 x13_42 ∧ Aside0 (flagstonelaw09_ContentRefuses.j4 kq a1 a2 a3 a4 x13_42 l0_0 a0_1 a0_2 = some r) ∧ Aside0 (kq ≤ kj38) ∧ Aside0 (Kd.V k75 75 wc w.heap.size (fun k_ => k_ ≠ gb275 ∧ k_ ≠ gb295) (.slice Ao32 t291.length co32) t291) ∧ Aside0 (wc.heap[gb275]? = some (.cells #[(.slice A0_0 l0_0.length c0_0), .int .i64 a0_1, .int .i64 a0_2] 24 (0, 0))) ∧ Aside0 (wc.heap[gb295]? = some (.cells #[.int .i64 t284, .int .i64 t285, .int .i64 t286, .int .i64 t287, .int .i64 t288, .int .i64 t289, .string t290, (.slice Ao32 t291.length co32)] 53 (0, 0))) ∧ Aside0 (Below w.heap.size w wc))
           case first =>
            have H := HC43.out
            clear HC43
            by_cases c44 : x55_38 = true
            ·subst c44
             have H1 : (flagstonelaw09_ContentRefuses.j4 kj38 a1 a2 a3 a4 5 l0_0 a0_1 a0_2) = some r := by rw [if_pos rfl] at H; exact H
             clear H
             have H := H1
             clear H1
             have H' := Am_ H
             clear H
             go_wp2
             go_meet
             case rel => exact ⟨_, (5), (by first | rfl | (simp; done) | (simp [*]; done)), H', ⟨by have := HJ5.out; have := HJ23.out; have := HJ36.out; have := HJ38.out; first | omega | exact Nat.le_refl _⟩, ⟨by (with_reducible repeat (first | apply Va_ | apply Vn_ | apply Vd_)); exact HO_296007.out⟩, ⟨by (with_reducible repeat (first | refine Bn_ ?_ _ | refine Bd_ ?_ | refine Ba_ ?_ _)); exact BK275.out⟩, ⟨by (with_reducible repeat (first | refine Bn_ ?_ _ | refine Bd_ ?_ | refine Ba_ ?_ _)); exact BK295.out⟩, ⟨by repeat (first | (with_reducible first | exact HB.out | apply Pa_ | apply Pn_ | apply Pd_ | refine Bs_ ?_ GE275.out | refine Bs_ ?_ GE295.out) | exact HB.out)⟩⟩
            ·replace c44 := Bool.eq_false_iff.mpr c44
             subst c44
             have H1 : (flagstonelaw09_ContentRefuses.j4 kj38 a1 a2 a3 a4 x13_36 l0_0 a0_1 a0_2) = some r := by rw [if_neg (show ¬ (false = true) by decide)] at H; exact H
             clear H
             have H := H1
             clear H1
             have H' := Am_ H
             clear H
             go_wp2
             go_meet
             case rel => exact ⟨_, (x13_36), (by first | rfl | (simp; done) | (simp [*]; done)), H', ⟨by have := HJ5.out; have := HJ23.out; have := HJ36.out; have := HJ38.out; first | omega | exact Nat.le_refl _⟩, ⟨by (with_reducible repeat (first | apply Va_ | apply Vn_ | apply Vd_)); exact HO_296007.out⟩, ⟨by (with_reducible repeat (first | refine Bn_ ?_ _ | refine Bd_ ?_ | refine Ba_ ?_ _)); exact BK275.out⟩, ⟨by (with_reducible repeat (first | refine Bn_ ?_ _ | refine Bd_ ?_ | refine Ba_ ?_ _)); exact BK295.out⟩, ⟨by repeat (first | (with_reducible first | exact HB.out | apply Pa_ | apply Pn_ | apply Pd_ | refine Bs_ ?_ GE275.out | refine Bs_ ?_ GE295.out) | exact HB.out)⟩⟩
           case rest =>
            clear HC43
            try clear c1
            try clear c2
            try clear p2
            try clear c3
            try clear c4
            try clear c8
            try clear c9
            try clear c10
            try clear c10b0
            try clear c10b1
            try clear c13
            try clear c19
            try clear c23
            try clear c30
            try clear c33
            try clear c34
            try clear c36
            try clear c38
            try clear c40
            try clear c41
            try clear c44
            try clear hcz11_0
            try clear hcz11_1
            try clear hcz11_2
            try clear hcz14_0
            try clear hcz14_1
            try clear hcz14_2
            try clear hcz17_0
            try clear hcz17_1
            try clear hcz17_2
            try clear hcz25_0
            try clear hcz25_1
            try clear hcz25_2
            try clear hcz31_0
            try clear hcz31_1
            try clear hcz31_2
            try clear hcz31_3
            try clear hcz31_4
            try clear hcz31_5
            try clear hcz31_6
            try clear hcz31_7
            try clear hcz35_0
            try clear hcz35_1
            try clear hcz35_2
            try clear hcz35_3
            try clear hcz35_4
            try clear hcz35_5
            try clear hcz35_6
            try clear hcz35_7
            try clear hcz42_0
            try clear hcz42_1
            try clear hcz42_2
            try clear hcz42_3
            try clear hcz42_4
            try clear hcz42_5
            try clear hcz42_6
            try clear hcz42_7
            try clear hfz11_0
            try clear hfz11_1
            try clear hfz11_2
            try clear hfz14_0
            try clear hfz14_1
            try clear hfz14_2
            try clear hfz17_0
            try clear hfz17_1
            try clear hfz17_2
            try clear hfz25_0
            try clear hfz25_1
            try clear hfz25_2
            try clear hfz31_0
            try clear hfz31_1
            try clear hfz31_2
            try clear hfz31_3
            try clear hfz31_4
            try clear hfz31_5
            try clear hfz31_6
            try clear hfz31_7
            try clear hfz35_0
            try clear hfz35_1
            try clear hfz35_2
            try clear hfz35_3
            try clear hfz35_4
            try clear hfz35_5
            try clear hfz35_6
            try clear hfz35_7
            try clear hfz42_0
            try clear hfz42_1
            try clear hfz42_2
            try clear hfz42_3
            try clear hfz42_4
            try clear hfz42_5
            try clear hfz42_6
            try clear hfz42_7
            try clear p2
            obtain ⟨kq, x13_42, rfl, HA, HJ42, HO_296007, BK275, BK295, HB⟩ := hcut
            cases kq with
            | zero => exact absurd HA.out (by simp [flagstonelaw09_ContentRefuses.j4])
            | succ kj42 =>
             have H := HA.out
             clear HA
             simp only [flagstonelaw09_ContentRefuses.j4] at H
             replace H := Option.bind_eq_some_iff.mp H
             obtain ⟨⟨t296, t297⟩, A450, H⟩ := H
             replace H : ((content_Write.f l0_0 a0_1 a0_2 a1 a2 a4).bind fun bt298 => ((content_Cut.f l0_0 a0_1 a0_2 a1 a3).bind fun bt305 => ((content_Size.f l0_0 a0_1 a0_2 a1).bind fun bt312 => (if t296.toList = ([] : List UInt8) then (if bt312.1 = 0 then (if t297 = x13_42 then (if bt298.2.2.2 = x13_42 then (if bt305.2.2.2 = x13_42 then (if bt312.2 = x13_42 then ((flagstonelaw09_its.f kj42 bt298.1 bt298.2.1 bt298.2.2.1).bind fun bt314 => ((flagstonelaw09_its.f kj42 l0_0 a0_1 a0_2).bind fun bt319 => ((flagstoneref06_Same.f kj42 bt314.1 bt314.2.1 bt314.2.2 bt319.1 bt319.2.1 bt319.2.2).bind fun t324 => (if t324 = true then ((flagstonelaw09_its.f kj42 bt305.1 bt305.2.1 bt305.2.2.1).bind fun bt325 => ((flagstonelaw09_its.f kj42 l0_0 a0_1 a0_2).bind fun bt330 => ((flagstoneref06_Same.f kj42 bt325.1 bt325.2.1 bt325.2.2 bt330.1 bt330.2.1 bt330.2.2).bind fun t335 => (some t335)))) else (none))))) else (none)) else (none)) else (none)) else (none)) else (none)) else (none))))) = some r := H
             have A45 := Am_ A450
             clear A450
             replace H := Option.bind_eq_some_iff.mp H
             obtain ⟨⟨t298, t301, t302, t303⟩, A460, H⟩ := H
             replace H : ((content_Cut.f l0_0 a0_1 a0_2 a1 a3).bind fun bt305 => ((content_Size.f l0_0 a0_1 a0_2 a1).bind fun bt312 => (if t296.toList = ([] : List UInt8) then (if bt312.1 = 0 then (if t297 = x13_42 then (if t303 = x13_42 then (if bt305.2.2.2 = x13_42 then (if bt312.2 = x13_42 then ((flagstonelaw09_its.f kj42 t298 t301 t302).bind fun bt314 => ((flagstonelaw09_its.f kj42 l0_0 a0_1 a0_2).bind fun bt319 => ((flagstoneref06_Same.f kj42 bt314.1 bt314.2.1 bt314.2.2 bt319.1 bt319.2.1 bt319.2.2).bind fun t324 => (if t324 = true then ((flagstonelaw09_its.f kj42 bt305.1 bt305.2.1 bt305.2.2.1).bind fun bt325 => ((flagstonelaw09_its.f kj42 l0_0 a0_1 a0_2).bind fun bt330 => ((flagstoneref06_Same.f kj42 bt325.1 bt325.2.1 bt325.2.2 bt330.1 bt330.2.1 bt330.2.2).bind fun t335 => (some t335)))) else (none))))) else (none)) else (none)) else (none)) else (none)) else (none)) else (none)))) = some r := H
             have A46 := Am_ A460
             clear A460
             replace H := Option.bind_eq_some_iff.mp H
             obtain ⟨⟨t305, t308, t309, t310⟩, A470, H⟩ := H
             replace H : ((content_Size.f l0_0 a0_1 a0_2 a1).bind fun bt312 => (if t296.toList = ([] : List UInt8) then (if bt312.1 = 0 then (if t297 = x13_42 then (if t303 = x13_42 then (if t310 = x13_42 then (if bt312.2 = x13_42 then ((flagstonelaw09_its.f kj42 t298 t301 t302).bind fun bt314 => ((flagstonelaw09_its.f kj42 l0_0 a0_1 a0_2).bind fun bt319 => ((flagstoneref06_Same.f kj42 bt314.1 bt314.2.1 bt314.2.2 bt319.1 bt319.2.1 bt319.2.2).bind fun t324 => (if t324 = true then ((flagstonelaw09_its.f kj42 t305 t308 t309).bind fun bt325 => ((flagstonelaw09_its.f kj42 l0_0 a0_1 a0_2).bind fun bt330 => ((flagstoneref06_Same.f kj42 bt325.1 bt325.2.1 bt325.2.2 bt330.1 bt330.2.1 bt330.2.2).bind fun t335 => (some t335)))) else (none))))) else (none)) else (none)) else (none)) else (none)) else (none)) else (none))) = some r := H
             have A47 := Am_ A470
             clear A470
             replace H := Option.bind_eq_some_iff.mp H
             obtain ⟨⟨t312, t313⟩, A480, H⟩ := H
             replace H : (if t296.toList = ([] : List UInt8) then (if t312 = 0 then (if t297 = x13_42 then (if t303 = x13_42 then (if t310 = x13_42 then (if t313 = x13_42 then ((flagstonelaw09_its.f kj42 t298 t301 t302).bind fun bt314 => ((flagstonelaw09_its.f kj42 l0_0 a0_1 a0_2).bind fun bt319 => ((flagstoneref06_Same.f kj42 bt314.1 bt314.2.1 bt314.2.2 bt319.1 bt319.2.1 bt319.2.2).bind fun t324 => (if t324 = true then ((flagstonelaw09_its.f kj42 t305 t308 t309).bind fun bt325 => ((flagstonelaw09_its.f kj42 l0_0 a0_1 a0_2).bind fun bt330 => ((flagstoneref06_Same.f kj42 bt325.1 bt325.2.1 bt325.2.2 bt330.1 bt330.2.1 bt330.2.2).bind fun t335 => (some t335)))) else (none))))) else (none)) else (none)) else (none)) else (none)) else (none)) else (none)) = some r := H
             have A48 := Am_ A480
             clear A480
             by_cases c49 : t296.toList = ([] : List UInt8)
             ·rw [if_pos c49] at H
              have c49b0 : (t296.toList == ([] : List UInt8)) = true := beq_iff_eq.mpr c49
              have c49b1 : (t296.toList != ([] : List UInt8)) = false := bne_eq_false_iff_eq.mpr c49
              clear c49
              by_cases c50 : t312 = 0
              ·rw [if_pos c50] at H
               have c50b0 : (t312 == 0) = true := beq_iff_eq.mpr c50
               have c50b1 : (t312 != 0) = false := bne_eq_false_iff_eq.mpr c50
               clear c50
               by_cases c51 : t297 = x13_42
               ·rw [if_pos c51] at H
                have c51b0 : (t297 == x13_42) = true := beq_iff_eq.mpr c51
                have c51b1 : (t297 != x13_42) = false := bne_eq_false_iff_eq.mpr c51
                clear c51
                by_cases c52 : t303 = x13_42
                ·rw [if_pos c52] at H
                 have c52b0 : (t303 == x13_42) = true := beq_iff_eq.mpr c52
                 have c52b1 : (t303 != x13_42) = false := bne_eq_false_iff_eq.mpr c52
                 clear c52
                 by_cases c53 : t310 = x13_42
                 ·rw [if_pos c53] at H
                  have c53b0 : (t310 == x13_42) = true := beq_iff_eq.mpr c53
                  have c53b1 : (t310 != x13_42) = false := bne_eq_false_iff_eq.mpr c53
                  clear c53
                  by_cases c54 : t313 = x13_42
                  ·rw [if_pos c54] at H
                   have c54b0 : (t313 == x13_42) = true := beq_iff_eq.mpr c54
                   have c54b1 : (t313 != x13_42) = false := bne_eq_false_iff_eq.mpr c54
                   clear c54
                   replace H := Option.bind_eq_some_iff.mp H
                   obtain ⟨⟨t314, t317, t318⟩, A550, H⟩ := H
                   replace H : ((flagstonelaw09_its.f kj42 l0_0 a0_1 a0_2).bind fun bt319 => ((flagstoneref06_Same.f kj42 t314 t317 t318 bt319.1 bt319.2.1 bt319.2.2).bind fun t324 => (if t324 = true then ((flagstonelaw09_its.f kj42 t305 t308 t309).bind fun bt325 => ((flagstonelaw09_its.f kj42 l0_0 a0_1 a0_2).bind fun bt330 => ((flagstoneref06_Same.f kj42 bt325.1 bt325.2.1 bt325.2.2 bt330.1 bt330.2.1 bt330.2.2).bind fun t335 => (some t335)))) else (none)))) = some r := H
                   have A55 := Am_ A550
                   clear A550
                   replace H := Option.bind_eq_some_iff.mp H
                   obtain ⟨⟨t319, t322, t323⟩, A560, H⟩ := H
                   replace H : ((flagstoneref06_Same.f kj42 t314 t317 t318 t319 t322 t323).bind fun t324 => (if t324 = true then ((flagstonelaw09_its.f kj42 t305 t308 t309).bind fun bt325 => ((flagstonelaw09_its.f kj42 l0_0 a0_1 a0_2).bind fun bt330 => ((flagstoneref06_Same.f kj42 bt325.1 bt325.2.1 bt325.2.2 bt330.1 bt330.2.1 bt330.2.2).bind fun t335 => (some t335)))) else (none))) = some r := H
                   have A56 := Am_ A560
                   clear A560
                   replace H := Option.bind_eq_some_iff.mp H
                   obtain ⟨t324, A570, H⟩ := H
                   replace H : (if t324 = true then ((flagstonelaw09_its.f kj42 t305 t308 t309).bind fun bt325 => ((flagstonelaw09_its.f kj42 l0_0 a0_1 a0_2).bind fun bt330 => ((flagstoneref06_Same.f kj42 bt325.1 bt325.2.1 bt325.2.2 bt330.1 bt330.2.1 bt330.2.2).bind fun t335 => (some t335)))) else (none)) = some r := H
                   have A57 := Am_ A570
                   clear A570
                   by_cases c58 : t324 = true
                   ·subst c58
                    have H1 : ((flagstonelaw09_its.f kj42 t305 t308 t309).bind fun bt325 => ((flagstonelaw09_its.f kj42 l0_0 a0_1 a0_2).bind fun bt330 => ((flagstoneref06_Same.f kj42 bt325.1 bt325.2.1 bt325.2.2 bt330.1 bt330.2.1 bt330.2.2).bind fun t335 => (some t335)))) = some r := by rw [if_pos rfl] at H; exact H
                    clear H
                    have H := H1
                    clear H1
                    replace H := Option.bind_eq_some_iff.mp H
                    obtain ⟨⟨t325, t328, t329⟩, A590, H⟩ := H
                    replace H : ((flagstonelaw09_its.f kj42 l0_0 a0_1 a0_2).bind fun bt330 => ((flagstoneref06_Same.f kj42 t325 t328 t329 bt330.1 bt330.2.1 bt330.2.2).bind fun t335 => (some t335))) = some r := H
                    have A59 := Am_ A590
                    clear A590
                    replace H := Option.bind_eq_some_iff.mp H
                    obtain ⟨⟨t330, t333, t334⟩, A600, H⟩ := H
                    replace H : ((flagstoneref06_Same.f kj42 t325 t328 t329 t330 t333 t334).bind fun t335 => (some t335)) = some r := H
                    have A60 := Am_ A600
                    clear A600
                    replace H := Option.bind_eq_some_iff.mp H
                    obtain ⟨t335, A610, H⟩ := H
                    replace H : (some t335) = some r := H
                    have A61 := Am_ A610
                    clear A610
                    obtain rfl := Option.some.inj H
                    have hnb62 := NB275_295.out
                    have hnc62 := NB295_275.out
                    have hcz63_0 : wc.cell? ⟨gb275, 0, none⟩ = some (.slice A0_0 l0_0.length c0_0) := (Bc_ BK275.out 0).trans rfl
                    have hcz63_1 : wc.cell? ⟨gb275, 1, none⟩ = some (.int .i64 a0_1) := (Bc_ BK275.out 1).trans rfl
                    have hcz63_2 : wc.cell? ⟨gb275, 2, none⟩ = some (.int .i64 a0_2) := (Bc_ BK275.out 2).trans rfl
                    have hfz63_0 := Bf_ BK275.out 0
                    have hfz63_1 := Bf_ BK275.out 1
                    have hfz63_2 := Bf_ BK275.out 2
                    try go_wp2_with (first | ((with_reducible refine gate_callee (f := 11) rfl ?_); refine goesL_ (some 61) rfl rfl Try.func11 (by kernel_rfl) rfl #[.agg #[.slice A0_0 l0_0.length c0_0, .int .i64 a0_1, .int .i64 a0_2], .int .i64 a1, .int .i64 a2, .int .i64 a3] rfl (by (try simp only [List.map_toArray, List.map_cons, List.map_nil]); first | done | rfl | (simp only [List.length_drop, List.length_take]; rfl)) ?_; (with_reducible refine (content_Read.calls _ _ l0_0 a0_1 a0_2 a1 a2 a3 t296 t297 _ ?side1 ?side2 A45.out).mono ?_); (case side1 => repeat (first | exact (Kd.C_below HR0_0.out HB.out) | (with_reducible refine Kd.C_alloc ?_ _) | (with_reducible refine Kd.C_drewN ?_ _) | (with_reducible refine Kd.C_drew ?_))); (case side2 => exact HC0_0.out); rintro e w64 ⟨rfl, hb⟩; refine ⟨_, rfl, ?_⟩; have n0_ := Am_ (Vb_ (by (with_reducible repeat (first | apply Va_ | apply Vn_ | apply Vd_)); exact HO_296007.out) hb); have n1_ := Am_ (Bb_ (g := gb275) (o := .cells #[.slice A0_0 l0_0.length c0_0, .int .i64 a0_1, .int .i64 a0_2] 24 (0, 0)) (by (with_reducible repeat (first | refine Bn_ ?_ _ | refine Bd_ ?_ | refine Ba_ ?_ _)); exact BK275.out) hb); have n2_ := Am_ (Bb_ (g := gb295) (o := .cells #[.int .i64 t284, .int .i64 t285, .int .i64 t286, .int .i64 t287, .int .i64 t288, .int .i64 t289, .string t290, .slice Ao32 t291.length co32] 53 (0, 0)) (by (with_reducible repeat (first | refine Bn_ ?_ _ | refine Bd_ ?_ | refine Ba_ ?_ _)); exact BK295.out) hb); have n3_ := Am_ (Be_ (by repeat (first | (with_reducible first | exact HB.out | apply Pa_ | apply Pn_ | apply Pd_ | refine Bs_ ?_ GE275.out | refine Bs_ ?_ GE295.out) | exact HB.out)) hb); clear HO_296007; clear BK275; clear BK295; clear HB; have HO_296007 := n0_; have BK275 := n1_; have BK295 := n2_; have HB := n3_; clear n0_ n1_ n2_ n3_; (try clear hb); (try clear hb2); (try clear hk); (try clear hi); have hcz65_0 : w64.cell? ⟨gb275, 0, none⟩ = some (.slice A0_0 l0_0.length c0_0) := (Bc_ BK275.out 0).trans rfl; have hcz65_1 : w64.cell? ⟨gb275, 1, none⟩ = some (.int .i64 a0_1) := (Bc_ BK275.out 1).trans rfl; have hcz65_2 : w64.cell? ⟨gb275, 2, none⟩ = some (.int .i64 a0_2) := (Bc_ BK275.out 2).trans rfl; have hfz65_0 := Bf_ BK275.out 0; have hfz65_1 := Bf_ BK275.out 1; have hfz65_2 := Bf_ BK275.out 2) | ((with_reducible refine gate_callee (f := 16) rfl ?_); refine goesL_ (some 69) rfl rfl Try.func16 (by kernel_rfl) rfl #[.agg #[.slice A0_0 l0_0.length c0_0, .int .i64 a0_1, .int .i64 a0_2], .int .i64 a1, .int .i64 a2, .string a4] rfl (by (try simp only [List.map_toArray, List.map_cons, List.map_nil]); first | done | rfl | (simp only [List.length_drop, List.length_take]; rfl)) ?_; (with_reducible refine (content_Write.calls (fun k_ => k_ < w.heap.size) _ _ l0_0 a0_1 a0_2 a1 a2 a4 t298 t301 t302 t303 _ ?side1 A46.out).mono ?_); (case side1 => exact Kd.V_mk HC0_0.out (Kd.F_below (Kd.C_F k59_heap HR0_0.out) (by repeat (first | (with_reducible first | exact HB.out | apply Pa_ | apply Pn_ | apply Pd_ | refine Bs_ ?_ GE275.out | refine Bs_ ?_ GE295.out) | exact HB.out)))); rintro e w66 ⟨v299, rfl, ho0, hb⟩; refine ⟨_, rfl, ?_⟩; have n0_ := Am_ (Vb_ (by (with_reducible repeat (first | apply Va_ | apply Vn_ | apply Vd_)); exact HO_296007.out) hb); have n1_ := Am_ (Vl_ (Vm_ (ok' := fun k_ => k_ ≠ gb275 ∧ k_ ≠ gb295) ho0 (fun k_ hk_ => ⟨Or.elim hk_ (fun hs_ => fun e_ => Nat.not_le.2 hs_ (by rw [e_]; exact GW275.out)) (fun hn_ => (Kd.freshB (g := gb275) (o := .cells #[.slice A0_0 l0_0.length c0_0, .int .i64 a0_1, .int .i64 a0_2] 24 (0, 0)) (by (with_reducible repeat (first | refine Bn_ ?_ _ | refine Bd_ ?_ | refine Ba_ ?_ _)); exact BK275.out) k_ hn_)), Or.elim hk_ (fun hs_ => fun e_ => Nat.not_le.2 hs_ (by rw [e_]; exact GW295.out)) (fun hn_ => (Kd.freshB (g := gb295) (o := .cells #[.int .i64 t284, .int .i64 t285, .int .i64 t286, .int .i64 t287, .int .i64 t288, .int .i64 t289, .string t290, .slice Ao32 t291.length co32] 53 (0, 0)) (by (with_reducible repeat (first | refine Bn_ ?_ _ | refine Bd_ ?_ | refine Ba_ ?_ _)); exact BK295.out) k_ hn_))⟩)) (Bz_ (by repeat (first | (with_reducible first | exact HB.out | apply Pa_ | apply Pn_ | apply Pd_ | refine Bs_ ?_ GE275.out | refine Bs_ ?_ GE295.out) | exact HB.out)))); have n2_ := Am_ (Bb_ (g := gb275) (o := .cells #[.slice A0_0 l0_0.length c0_0, .int .i64 a0_1, .int .i64 a0_2] 24 (0, 0)) (by (with_reducible repeat (first | refine Bn_ ?_ _ | refine Bd_ ?_ | refine Ba_ ?_ _)); exact BK275.out) hb); have n3_ := Am_ (Bb_ (g := gb295) (o := .cells #[.int .i64 t284, .int .i64 t285, .int .i64 t286, .int .i64 t287, .int .i64 t288, .int .i64 t289, .string t290, .slice Ao32 t291.length co32] 53 (0, 0)) (by (with_reducible repeat (first | refine Bn_ ?_ _ | refine Bd_ ?_ | refine Ba_ ?_ _)); exact BK295.out) hb); have n4_ := Am_ (Be_ (by repeat (first | (with_reducible first | exact HB.out | apply Pa_ | apply Pn_ | apply Pd_ | refine Bs_ ?_ GE275.out | refine Bs_ ?_ GE295.out) | exact HB.out)) hb); clear HO_296007; clear BK275; clear BK295; clear HB; have HO_296007 := n0_; have HO300 := n1_; have BK275 := n2_; have BK295 := n3_; have HB := n4_; clear n0_ n1_ n2_ n3_ n4_; (try clear hb); (try clear hb2); (try clear hk); (try clear hi); (try clear ho0)) | ((with_reducible refine gate_dst (N := 16) rfl ?_); (try (refine gate_guard (by rfl) ?_; dsimp only)); refine box_event ?hg (N := 16) ?hd (cs := #[.slice none 0 0, .int .i64 0, .int .i64 0]) (t := 24) ?hr ?_; (case hd => rfl); (case hg => rfl); (case hr => first | (go_simp; done) | (go_simp; rfl)); intro gb304 hg w67 hbox hb; have n0_ := Am_ (Vb_ (Ke_ (by (with_reducible repeat (first | apply Va_ | apply Vn_ | apply Vd_)); exact HO_296007.out) gb304 (Nat.le_of_eq hg.symm)) hb); have n1_ := Am_ (Vb_ (Ke_ (by (with_reducible repeat (first | apply Va_ | apply Vn_ | apply Vd_)); exact HO300.out) gb304 (Nat.le_of_eq hg.symm)) hb); have n2_ := Am_ (Bb_ (g := gb275) (o := .cells #[.slice A0_0 l0_0.length c0_0, .int .i64 a0_1, .int .i64 a0_2] 24 (0, 0)) (by (with_reducible repeat (first | refine Bn_ ?_ _ | refine Bd_ ?_ | refine Ba_ ?_ _)); exact BK275.out) hb); have n3_ := Am_ (Bb_ (g := gb295) (o := .cells #[.int .i64 t284, .int .i64 t285, .int .i64 t286, .int .i64 t287, .int .i64 t288, .int .i64 t289, .string t290, .slice Ao32 t291.length co32] 53 (0, 0)) (by (with_reducible repeat (first | refine Bn_ ?_ _ | refine Bd_ ?_ | refine Ba_ ?_ _)); exact BK295.out) hb); have n4_ := Am_ (Be_ (by repeat (first | (with_reducible first | exact HB.out | apply Pa_ | apply Pn_ | apply Pd_ | refine Bs_ ?_ GE275.out | refine Bs_ ?_ GE295.out) | exact HB.out)) hb); have n5_ := Am_ (hbox); have n6_ := Am_ ((by rw [hg]; exact (Bz_ (by repeat (first | (with_reducible first | exact HB.out | apply Pa_ | apply Pn_ | apply Pd_ | refine Bs_ ?_ GE275.out | refine Bs_ ?_ GE295.out) | exact HB.out))) : w.heap.size ≤ gb304)); have n7_ := Am_ ((by rw [hg]; exact (Bz_ (by repeat (first | (with_reducible first | exact HB.out | apply Pa_ | apply Pn_ | apply Pd_ | refine Bs_ ?_ GE275.out | refine Bs_ ?_ GE295.out) | exact HB.out))) : w.heap.size ≤ gb304)); have n8_ := Am_ ((by rw [hg]; exact Nat.ne_of_lt (blk_lt (g := gb275) (o := .cells #[.slice A0_0 l0_0.length c0_0, .int .i64 a0_1, .int .i64 a0_2] 24 (0, 0)) (by (with_reducible repeat (first | refine Bn_ ?_ _ | refine Bd_ ?_ | refine Ba_ ?_ _)); exact BK275.out)) : gb275 ≠ gb304)); have n9_ := Am_ ((by rw [hg]; exact Nat.ne_of_gt (blk_lt (g := gb275) (o := .cells #[.slice A0_0 l0_0.length c0_0, .int .i64 a0_1, .int .i64 a0_2] 24 (0, 0)) (by (with_reducible repeat (first | refine Bn_ ?_ _ | refine Bd_ ?_ | refine Ba_ ?_ _)); exact BK275.out)) : gb304 ≠ gb275)); have n10_ := Am_ ((by rw [hg]; exact Nat.ne_of_lt (blk_lt (g := gb295) (o := .cells #[.int .i64 t284, .int .i64 t285, .int .i64 t286, .int .i64 t287, .int .i64 t288, .int .i64 t289, .string t290, .slice Ao32 t291.length co32] 53 (0, 0)) (by (with_reducible repeat (first | refine Bn_ ?_ _ | refine Bd_ ?_ | refine Ba_ ?_ _)); exact BK295.out)) : gb295 ≠ gb304)); have n11_ := Am_ ((by rw [hg]; exact Nat.ne_of_gt (blk_lt (g := gb295) (o := .cells #[.int .i64 t284, .int .i64 t285, .int .i64 t286, .int .i64 t287, .int .i64 t288, .int .i64 t289, .string t290, .slice Ao32 t291.length co32] 53 (0, 0)) (by (with_reducible repeat (first | refine Bn_ ?_ _ | refine Bd_ ?_ | refine Ba_ ?_ _)); exact BK295.out)) : gb304 ≠ gb295)); clear HO_296007; clear HO300; clear BK275; clear BK295; clear HB; have HO_296007 := n0_; have HO300 := n1_; have BK275 := n2_; have BK295 := n3_; have HB := n4_; have BK304 := n5_; have GW304 := n6_; have GE304 := n7_; have NB275_304 := n8_; have NB304_275 := n9_; have NB295_304 := n10_; have NB304_295 := n11_; clear n0_ n1_ n2_ n3_ n4_ n5_ n6_ n7_ n8_ n9_ n10_ n11_; clear hb hbox hg; obtain ⟨Ao68, co68, eo68⟩ := Vx_ HO300.out; subst eo68; have hnb69 := NB304_275.out; have hnc69 := NB275_304.out; have hnb70 := NB304_295.out; have hnc70 := NB295_304.out; have hcz71_0 : w67.cell? ⟨gb304, 0, none⟩ = some (.slice none 0 0) := (Bc_ BK304.out 0).trans rfl; have hcz71_1 : w67.cell? ⟨gb304, 1, none⟩ = some (.int .i64 0) := (Bc_ BK304.out 1).trans rfl; have hcz71_2 : w67.cell? ⟨gb304, 2, none⟩ = some (.int .i64 0) := (Bc_ BK304.out 2).trans rfl; have hfz71_0 := Bf_ BK304.out 0; have hfz71_1 := Bf_ BK304.out 1; have hfz71_2 := Bf_ BK304.out 2) | ((with_reducible refine gate_store (t := 24) (p := 16) rfl ?_); refine store_event (t := 24) (p := 16) (v := ?vo_w72) (w1 := (((w67.setCell ⟨gb304, 0, none⟩ (.slice Ao68 t298.length co68)).setCell ⟨gb304, 1, none⟩ (.int .i64 t301)).setCell ⟨gb304, 2, none⟩ (.int .i64 t302))) ?hg ?ho ?hn ?hr ?_; (case ho => rfl); (case hg => rfl); (case hn => rfl); (case hr => first | (go_simp; done) | (go_simp; rfl)); intro w72 hw; have n0_ : Aside0 (Kd.V k75 75 w72 w.heap.size (fun k_ => k_ ≠ gb275 ∧ k_ ≠ gb295 ∧ k_ ≠ gb304) (.slice Ao32 t291.length co32) t291) := ⟨(by rw [hw]; exact (by (with_reducible repeat (first | apply Va_ | apply Vn_ | apply Vd_)); exact Vm_ (Vf_ (p := ⟨gb304, 2, none⟩) (Vf_ (p := ⟨gb304, 1, none⟩) (Vf_ (p := ⟨gb304, 0, none⟩) (Vm_ HO_296007.out (fun k_ hk => (⟨hk, hk.2⟩ : _ ∧ k_ ≠ gb304))) (fun _ hk => hk.2) (.slice Ao68 t298.length co68)) (fun _ hk => hk.2) (.int .i64 t301)) (fun _ hk => hk.2) (.int .i64 t302)) (fun _ hk => ⟨hk.1.1.1, ⟨hk.1.1.2, hk.1.2⟩⟩)))⟩; have n1_ : Aside0 (Kd.V k59 59 w72 w.heap.size (fun k_ => k_ ≠ gb275 ∧ k_ ≠ gb295 ∧ k_ ≠ gb304) (.slice Ao68 t298.length co68) t298) := ⟨(by rw [hw]; exact (by (with_reducible repeat (first | apply Va_ | apply Vn_ | apply Vd_)); exact Vm_ (Vf_ (p := ⟨gb304, 2, none⟩) (Vf_ (p := ⟨gb304, 1, none⟩) (Vf_ (p := ⟨gb304, 0, none⟩) (Vm_ HO300.out (fun k_ hk => (⟨hk, hk.2⟩ : _ ∧ k_ ≠ gb304))) (fun _ hk => hk.2) (.slice Ao68 t298.length co68)) (fun _ hk => hk.2) (.int .i64 t301)) (fun _ hk => hk.2) (.int .i64 t302)) (fun _ hk => ⟨hk.1.1.1, ⟨hk.1.1.2, hk.1.2⟩⟩)))⟩; have n2_ : Aside0 (w72.heap[gb275]? = some (.cells #[.slice A0_0 l0_0.length c0_0, .int .i64 a0_1, .int .i64 a0_2] 24 (0, 0))) := ⟨(by rw [hw]; exact (by (with_reducible repeat (first | refine Bn_ ?_ _ | refine Bd_ ?_ | refine Ba_ ?_ _)); refine blk_far ?_ NB275_304.out _; (with_reducible repeat (first | refine Bn_ ?_ _ | refine Bd_ ?_ | refine Ba_ ?_ _)); refine blk_far ?_ NB275_304.out _; (with_reducible repeat (first | refine Bn_ ?_ _ | refine Bd_ ?_ | refine Ba_ ?_ _)); refine blk_far ?_ NB275_304.out _; (with_reducible repeat (first | refine Bn_ ?_ _ | refine Bd_ ?_ | refine Ba_ ?_ _)); exact BK275.out))⟩; have n3_ : Aside0 (w72.heap[gb295]? = some (.cells #[.int .i64 t284, .int .i64 t285, .int .i64 t286, .int .i64 t287, .int .i64 t288, .int .i64 t289, .string t290, .slice Ao32 t291.length co32] 53 (0, 0))) := ⟨(by rw [hw]; exact (by (with_reducible repeat (first | refine Bn_ ?_ _ | refine Bd_ ?_ | refine Ba_ ?_ _)); refine blk_far ?_ NB295_304.out _; (with_reducible repeat (first | refine Bn_ ?_ _ | refine Bd_ ?_ | refine Ba_ ?_ _)); refine blk_far ?_ NB295_304.out _; (with_reducible repeat (first | refine Bn_ ?_ _ | refine Bd_ ?_ | refine Ba_ ?_ _)); refine blk_far ?_ NB295_304.out _; (with_reducible repeat (first | refine Bn_ ?_ _ | refine Bd_ ?_ | refine Ba_ ?_ _)); exact BK295.out))⟩; have n4_ : Aside0 (w72.heap[gb304]? = some (.cells #[.slice Ao68 t298.length co68, .int .i64 t301, .int .i64 t302] 24 (0, 0))) := ⟨(by rw [hw]; exact (by (with_reducible repeat (first | refine Bn_ ?_ _ | refine Bd_ ?_ | refine Ba_ ?_ _)); refine Bp_ (cs := #[.slice Ao68 t298.length co68, .int .i64 t301, .int .i64 0]) ?_ 2 _ rfl; (with_reducible repeat (first | refine Bn_ ?_ _ | refine Bd_ ?_ | refine Ba_ ?_ _)); refine Bp_ (cs := #[.slice Ao68 t298.length co68, .int .i64 0, .int .i64 0]) ?_ 1 _ rfl; (with_reducible repeat (first | refine Bn_ ?_ _ | refine Bd_ ?_ | refine Ba_ ?_ _)); refine Bp_ (cs := #[.slice none 0 0, .int .i64 0, .int .i64 0]) ?_ 0 _ rfl; (with_reducible repeat (first | refine Bn_ ?_ _ | refine Bd_ ?_ | refine Ba_ ?_ _)); exact BK304.out))⟩; have n5_ : Aside0 (Below w.heap.size w w72) := ⟨(by rw [hw]; exact (by repeat (first | (with_reducible first | exact HB.out | apply Pa_ | apply Pn_ | apply Pd_ | refine Bs_ ?_ GE275.out | refine Bs_ ?_ GE295.out | refine Bs_ ?_ GE304.out) | exact HB.out)))⟩; clear hw; clear HO_296007; clear HO300; clear BK275; clear BK295; clear BK304; clear HB; have HO_296007 := n0_; have HO300 := n1_; have BK275 := n2_; have BK295 := n3_; have BK304 := n4_; have HB := n5_; clear n0_ n1_ n2_ n3_ n4_ n5_; have hcz73_0 : w72.cell? ⟨gb275, 0, none⟩ = some (.slice A0_0 l0_0.length c0_0) := (Bc_ BK275.out 0).trans rfl; have hcz73_1 : w72.cell? ⟨gb275, 1, none⟩ = some (.int .i64 a0_1) := (Bc_ BK275.out 1).trans rfl; have hcz73_2 : w72.cell? ⟨gb275, 2, none⟩ = some (.int .i64 a0_2) := (Bc_ BK275.out 2).trans rfl; have hfz73_0 := Bf_ BK275.out 0; have hfz73_1 := Bf_ BK275.out 1; have hfz73_2 := Bf_ BK275.out 2) | ((with_reducible refine gate_callee (f := 18) rfl ?_); refine goesL_ (some 76) rfl rfl Try.func18 (by kernel_rfl) rfl #[.agg #[.slice A0_0 l0_0.length c0_0, .int .i64 a0_1, .int .i64 a0_2], .int .i64 a1, .int .i64 a3] rfl (by (try simp only [List.map_toArray, List.map_cons, List.map_nil]); first | done | rfl | (simp only [List.length_drop, List.length_take]; rfl)) ?_; (with_reducible refine (content_Cut.calls (fun k_ => k_ < w.heap.size) _ _ l0_0 a0_1 a0_2 a1 a3 t305 t308 t309 t310 _ ?side1 A47.out).mono ?_); (case side1 => exact Kd.V_mk HC0_0.out (Kd.F_below (Kd.C_F k59_heap HR0_0.out) (by repeat (first | (with_reducible first | exact HB.out | apply Pa_ | apply Pn_ | apply Pd_ | refine Bs_ ?_ GE275.out | refine Bs_ ?_ GE295.out | refine Bs_ ?_ GE304.out) | exact HB.out)))); rintro e w74 ⟨v306, rfl, ho0, hb⟩; refine ⟨_, rfl, ?_⟩; have n0_ := Am_ (Vb_ (by (with_reducible repeat (first | apply Va_ | apply Vn_ | apply Vd_)); exact HO_296007.out) hb); have n1_ := Am_ (Vb_ (by (with_reducible repeat (first | apply Va_ | apply Vn_ | apply Vd_)); exact HO300.out) hb); have n2_ := Am_ (Vl_ (Vm_ (ok' := fun k_ => k_ ≠ gb275 ∧ k_ ≠ gb295 ∧ k_ ≠ gb304) ho0 (fun k_ hk_ => ⟨Or.elim hk_ (fun hs_ => fun e_ => Nat.not_le.2 hs_ (by rw [e_]; exact GW275.out)) (fun hn_ => (Kd.freshB (g := gb275) (o := .cells #[.slice A0_0 l0_0.length c0_0, .int .i64 a0_1, .int .i64 a0_2] 24 (0, 0)) (by (with_reducible repeat (first | refine Bn_ ?_ _ | refine Bd_ ?_ | refine Ba_ ?_ _)); exact BK275.out) k_ hn_)), Or.elim hk_ (fun hs_ => fun e_ => Nat.not_le.2 hs_ (by rw [e_]; exact GW295.out)) (fun hn_ => (Kd.freshB (g := gb295) (o := .cells #[.int .i64 t284, .int .i64 t285, .int .i64 t286, .int .i64 t287, .int .i64 t288, .int .i64 t289, .string t290, .slice Ao32 t291.length co32] 53 (0, 0)) (by (with_reducible repeat (first | refine Bn_ ?_ _ | refine Bd_ ?_ | refine Ba_ ?_ _)); exact BK295.out) k_ hn_)), Or.elim hk_ (fun hs_ => fun e_ => Nat.not_le.2 hs_ (by rw [e_]; exact GW304.out)) (fun hn_ => (Kd.freshB (g := gb304) (o := .cells #[.slice Ao68 t298.length co68, .int .i64 t301, .int .i64 t302] 24 (0, 0)) (by (with_reducible repeat (first | refine Bn_ ?_ _ | refine Bd_ ?_ | refine Ba_ ?_ _)); exact BK304.out) k_ hn_))⟩)) (Bz_ (by repeat (first | (with_reducible first | exact HB.out | apply Pa_ | apply Pn_ | apply Pd_ | refine Bs_ ?_ GE275.out | refine Bs_ ?_ GE295.out | refine Bs_ ?_ GE304.out) | exact HB.out)))); have n3_ := Am_ (Bb_ (g := gb275) (o := .cells #[.slice A0_0 l0_0.length c0_0, .int .i64 a0_1, .int .i64 a0_2] 24 (0, 0)) (by (with_reducible repeat (first | refine Bn_ ?_ _ | refine Bd_ ?_ | refine Ba_ ?_ _)); exact BK275.out) hb); have n4_ := Am_ (Bb_ (g := gb295) (o := .cells #[.int .i64 t284, .int .i64 t285, .int .i64 t286, .int .i64 t287, .int .i64 t288, .int .i64 t289, .string t290, .slice Ao32 t291.length co32] 53 (0, 0)) (by (with_reducible repeat (first | refine Bn_ ?_ _ | refine Bd_ ?_ | refine Ba_ ?_ _)); exact BK295.out) hb); have n5_ := Am_ (Bb_ (g := gb304) (o := .cells #[.slice Ao68 t298.length co68, .int .i64 t301, .int .i64 t302] 24 (0, 0)) (by (with_reducible repeat (first | refine Bn_ ?_ _ | refine Bd_ ?_ | refine Ba_ ?_ _)); exact BK304.out) hb); have n6_ := Am_ (Be_ (by repeat (first | (with_reducible first | exact HB.out | apply Pa_ | apply Pn_ | apply Pd_ | refine Bs_ ?_ GE275.out | refine Bs_ ?_ GE295.out | refine Bs_ ?_ GE304.out) | exact HB.out)) hb); clear HO_296007; clear HO300; clear BK275; clear BK295; clear BK304; clear HB; have HO_296007 := n0_; have HO300 := n1_; have HO307 := n2_; have BK275 := n3_; have BK295 := n4_; have BK304 := n5_; have HB := n6_; clear n0_ n1_ n2_ n3_ n4_ n5_ n6_; (try clear hb); (try clear hb2); (try clear hk); (try clear hi); (try clear ho0)) | ((with_reducible refine gate_dst (N := 18) rfl ?_); (try (refine gate_guard (by rfl) ?_; dsimp only)); refine box_event ?hg (N := 18) ?hd (cs := #[.slice none 0 0, .int .i64 0, .int .i64 0]) (t := 24) ?hr ?_; (case hd => rfl); (case hg => rfl); (case hr => first | (go_simp; done) | (go_simp; rfl)); intro gb311 hg w75 hbox hb; have n0_ := Am_ (Vb_ (Ke_ (by (with_reducible repeat (first | apply Va_ | apply Vn_ | apply Vd_)); exact HO_296007.out) gb311 (Nat.le_of_eq hg.symm)) hb); have n1_ := Am_ (Vb_ (Ke_ (by (with_reducible repeat (first | apply Va_ | apply Vn_ | apply Vd_)); exact HO300.out) gb311 (Nat.le_of_eq hg.symm)) hb); have n2_ := Am_ (Vb_ (Ke_ (by (with_reducible repeat (first | apply Va_ | apply Vn_ | apply Vd_)); exact HO307.out) gb311 (Nat.le_of_eq hg.symm)) hb); have n3_ := Am_ (Bb_ (g := gb275) (o := .cells #[.slice A0_0 l0_0.length c0_0, .int .i64 a0_1, .int .i64 a0_2] 24 (0, 0)) (by (with_reducible repeat (first | refine Bn_ ?_ _ | refine Bd_ ?_ | refine Ba_ ?_ _)); exact BK275.out) hb); have n4_ := Am_ (Bb_ (g := gb295) (o := .cells #[.int .i64 t284, .int .i64 t285, .int .i64 t286, .int .i64 t287, .int .i64 t288, .int .i64 t289, .string t290, .slice Ao32 t291.length co32] 53 (0, 0)) (by (with_reducible repeat (first | refine Bn_ ?_ _ | refine Bd_ ?_ | refine Ba_ ?_ _)); exact BK295.out) hb); have n5_ := Am_ (Bb_ (g := gb304) (o := .cells #[.slice Ao68 t298.length co68, .int .i64 t301, .int .i64 t302] 24 (0, 0)) (by (with_reducible repeat (first | refine Bn_ ?_ _ | refine Bd_ ?_ | refine Ba_ ?_ _)); exact BK304.out) hb); have n6_ := Am_ (Be_ (by repeat (first | (with_reducible first | exact HB.out | apply Pa_ | apply Pn_ | apply Pd_ | refine Bs_ ?_ GE275.out | refine Bs_ ?_ GE295.out | refine Bs_ ?_ GE304.out) | exact HB.out)) hb); have n7_ := Am_ (hbox); have n8_ := Am_ ((by rw [hg]; exact (Bz_ (by repeat (first | (with_reducible first | exact HB.out | apply Pa_ | apply Pn_ | apply Pd_ | refine Bs_ ?_ GE275.out | refine Bs_ ?_ GE295.out | refine Bs_ ?_ GE304.out) | exact HB.out))) : w.heap.size ≤ gb311)); have n9_ := Am_ ((by rw [hg]; exact (Bz_ (by repeat (first | (with_reducible first | exact HB.out | apply Pa_ | apply Pn_ | apply Pd_ | refine Bs_ ?_ GE275.out | refine Bs_ ?_ GE295.out | refine Bs_ ?_ GE304.out) | exact HB.out))) : w.heap.size ≤ gb311)); have n10_ := Am_ ((by rw [hg]; exact Nat.ne_of_lt (blk_lt (g := gb275) (o := .cells #[.slice A0_0 l0_0.length c0_0, .int .i64 a0_1, .int .i64 a0_2] 24 (0, 0)) (by (with_reducible repeat (first | refine Bn_ ?_ _ | refine Bd_ ?_ | refine Ba_ ?_ _)); exact BK275.out)) : gb275 ≠ gb311)); have n11_ := Am_ ((by rw [hg]; exact Nat.ne_of_gt (blk_lt (g := gb275) (o := .cells #[.slice A0_0 l0_0.length c0_0, .int .i64 a0_1, .int .i64 a0_2] 24 (0, 0)) (by (with_reducible repeat (first | refine Bn_ ?_ _ | refine Bd_ ?_ | refine Ba_ ?_ _)); exact BK275.out)) : gb311 ≠ gb275)); have n12_ := Am_ ((by rw [hg]; exact Nat.ne_of_lt (blk_lt (g := gb295) (o := .cells #[.int .i64 t284, .int .i64 t285, .int .i64 t286, .int .i64 t287, .int .i64 t288, .int .i64 t289, .string t290, .slice Ao32 t291.length co32] 53 (0, 0)) (by (with_reducible repeat (first | refine Bn_ ?_ _ | refine Bd_ ?_ | refine Ba_ ?_ _)); exact BK295.out)) : gb295 ≠ gb311)); have n13_ := Am_ ((by rw [hg]; exact Nat.ne_of_gt (blk_lt (g := gb295) (o := .cells #[.int .i64 t284, .int .i64 t285, .int .i64 t286, .int .i64 t287, .int .i64 t288, .int .i64 t289, .string t290, .slice Ao32 t291.length co32] 53 (0, 0)) (by (with_reducible repeat (first | refine Bn_ ?_ _ | refine Bd_ ?_ | refine Ba_ ?_ _)); exact BK295.out)) : gb311 ≠ gb295)); have n14_ := Am_ ((by rw [hg]; exact Nat.ne_of_lt (blk_lt (g := gb304) (o := .cells #[.slice Ao68 t298.length co68, .int .i64 t301, .int .i64 t302] 24 (0, 0)) (by (with_reducible repeat (first | refine Bn_ ?_ _ | refine Bd_ ?_ | refine Ba_ ?_ _)); exact BK304.out)) : gb304 ≠ gb311)); have n15_ := Am_ ((by rw [hg]; exact Nat.ne_of_gt (blk_lt (g := gb304) (o := .cells #[.slice Ao68 t298.length co68, .int .i64 t301, .int .i64 t302] 24 (0, 0)) (by (with_reducible repeat (first | refine Bn_ ?_ _ | refine Bd_ ?_ | refine Ba_ ?_ _)); exact BK304.out)) : gb311 ≠ gb304)); clear HO_296007; clear HO300; clear HO307; clear BK275; clear BK295; clear BK304; clear HB; have HO_296007 := n0_; have HO300 := n1_; have HO307 := n2_; have BK275 := n3_; have BK295 := n4_; have BK304 := n5_; have HB := n6_; have BK311 := n7_; have GW311 := n8_; have GE311 := n9_; have NB275_311 := n10_; have NB311_275 := n11_; have NB295_311 := n12_; have NB311_295 := n13_; have NB304_311 := n14_; have NB311_304 := n15_; clear n0_ n1_ n2_ n3_ n4_ n5_ n6_ n7_ n8_ n9_ n10_ n11_ n12_ n13_ n14_ n15_; clear hb hbox hg; obtain ⟨Ao76, co76, eo76⟩ := Vx_ HO307.out; subst eo76; have hnb77 := NB311_275.out; have hnc77 := NB275_311.out; have hnb78 := NB311_295.out; have hnc78 := NB295_311.out; have hnb79 := NB311_304.out; have hnc79 := NB304_311.out; have hcz80_0 : w75.cell? ⟨gb311, 0, none⟩ = some (.slice none 0 0) := (Bc_ BK311.out 0).trans rfl; have hcz80_1 : w75.cell? ⟨gb311, 1, none⟩ = some (.int .i64 0) := (Bc_ BK311.out 1).trans rfl; have hcz80_2 : w75.cell? ⟨gb311, 2, none⟩ = some (.int .i64 0) := (Bc_ BK311.out 2).trans rfl; have hfz80_0 := Bf_ BK311.out 0; have hfz80_1 := Bf_ BK311.out 1; have hfz80_2 := Bf_ BK311.out 2; have hcz81_0 : w75.cell? ⟨gb275, 0, none⟩ = some (.slice A0_0 l0_0.length c0_0) := (Bc_ BK275.out 0).trans rfl; have hcz81_1 : w75.cell? ⟨gb275, 1, none⟩ = some (.int .i64 a0_1) := (Bc_ BK275.out 1).trans rfl; have hcz81_2 : w75.cell? ⟨gb275, 2, none⟩ = some (.int .i64 a0_2) := (Bc_ BK275.out 2).trans rfl; have hfz81_0 := Bf_ BK275.out 0; have hfz81_1 := Bf_ BK275.out 1; have hfz81_2 := Bf_ BK275.out 2) | ((with_reducible refine gate_callee (f := 14) rfl ?_); refine goesL_ (some 82) rfl rfl Try.func14 (by kernel_rfl) rfl #[.agg #[.slice A0_0 l0_0.length c0_0, .int .i64 a0_1, .int .i64 a0_2], .int .i64 a1] rfl (by (try simp only [List.map_toArray, List.map_cons, List.map_nil]); first | done | rfl | (simp only [List.length_drop, List.length_take]; rfl)) ?_; (with_reducible refine (content_Size.calls _ _ l0_0 a0_1 a0_2 a1 t312 t313 _ ?side1 ?side2 A48.out).mono ?_); (case side1 => exact Kd.C_below HR0_0.out (by repeat (first | (with_reducible first | exact HB.out | apply Pa_ | apply Pn_ | apply Pd_ | refine Bs_ ?_ GE275.out | refine Bs_ ?_ GE295.out | refine Bs_ ?_ GE304.out | refine Bs_ ?_ GE311.out) | exact HB.out))); (case side2 => exact HC0_0.out); rintro e w82 ⟨rfl, hb⟩; refine ⟨_, rfl, ?_⟩; have n0_ := Am_ (Vb_ (by (with_reducible repeat (first | apply Va_ | apply Vn_ | apply Vd_)); exact (Vm_ (Vf_ (p := ⟨gb311, 2, none⟩) (Vf_ (p := ⟨gb311, 1, none⟩) (Vf_ (p := ⟨gb311, 0, none⟩) (Vm_ HO_296007.out (fun k_ hk => (⟨hk, hk.2⟩ : _ ∧ k_ ≠ gb311))) (fun _ hk => hk.2) (.slice Ao76 t305.length co76)) (fun _ hk => hk.2) (.int .i64 t308)) (fun _ hk => hk.2) (.int .i64 t309)) (fun _ h_ => h_.1))) hb); have n1_ := Am_ (Vb_ (by (with_reducible repeat (first | apply Va_ | apply Vn_ | apply Vd_)); exact (Vm_ (Vf_ (p := ⟨gb311, 2, none⟩) (Vf_ (p := ⟨gb311, 1, none⟩) (Vf_ (p := ⟨gb311, 0, none⟩) (Vm_ HO300.out (fun k_ hk => (⟨hk, hk.2⟩ : _ ∧ k_ ≠ gb311))) (fun _ hk => hk.2) (.slice Ao76 t305.length co76)) (fun _ hk => hk.2) (.int .i64 t308)) (fun _ hk => hk.2) (.int .i64 t309)) (fun _ h_ => h_.1))) hb); have n2_ := Am_ (Vb_ (by (with_reducible repeat (first | apply Va_ | apply Vn_ | apply Vd_)); exact (Vm_ (Vf_ (p := ⟨gb311, 2, none⟩) (Vf_ (p := ⟨gb311, 1, none⟩) (Vf_ (p := ⟨gb311, 0, none⟩) (Vm_ HO307.out (fun k_ hk => (⟨hk, hk.2⟩ : _ ∧ k_ ≠ gb311))) (fun _ hk => hk.2) (.slice Ao76 t305.length co76)) (fun _ hk => hk.2) (.int .i64 t308)) (fun _ hk => hk.2) (.int .i64 t309)) (fun _ h_ => h_.1))) hb); have n3_ := Am_ (Bb_ (g := gb275) (o := .cells #[.slice A0_0 l0_0.length c0_0, .int .i64 a0_1, .int .i64 a0_2] 24 (0, 0)) (by (with_reducible repeat (first | refine Bn_ ?_ _ | refine Bd_ ?_ | refine Ba_ ?_ _)); refine blk_far ?_ NB275_311.out _; (with_reducible repeat (first | refine Bn_ ?_ _ | refine Bd_ ?_ | refine Ba_ ?_ _)); refine blk_far ?_ NB275_311.out _; (with_reducible repeat (first | refine Bn_ ?_ _ | refine Bd_ ?_ | refine Ba_ ?_ _)); refine blk_far ?_ NB275_311.out _; (with_reducible repeat (first | refine Bn_ ?_ _ | refine Bd_ ?_ | refine Ba_ ?_ _)); exact BK275.out) hb); have n4_ := Am_ (Bb_ (g := gb295) (o := .cells #[.int .i64 t284, .int .i64 t285, .int .i64 t286, .int .i64 t287, .int .i64 t288, .int .i64 t289, .string t290, .slice Ao32 t291.length co32] 53 (0, 0)) (by (with_reducible repeat (first | refine Bn_ ?_ _ | refine Bd_ ?_ | refine Ba_ ?_ _)); refine blk_far ?_ NB295_311.out _; (with_reducible repeat (first | refine Bn_ ?_ _ | refine Bd_ ?_ | refine Ba_ ?_ _)); refine blk_far ?_ NB295_311.out _; (with_reducible repeat (first | refine Bn_ ?_ _ | refine Bd_ ?_ | refine Ba_ ?_ _)); refine blk_far ?_ NB295_311.out _; (with_reducible repeat (first | refine Bn_ ?_ _ | refine Bd_ ?_ | refine Ba_ ?_ _)); exact BK295.out) hb); have n5_ := Am_ (Bb_ (g := gb304) (o := .cells #[.slice Ao68 t298.length co68, .int .i64 t301, .int .i64 t302] 24 (0, 0)) (by (with_reducible repeat (first | refine Bn_ ?_ _ | refine Bd_ ?_ | refine Ba_ ?_ _)); refine blk_far ?_ NB304_311.out _; (with_reducible repeat (first | refine Bn_ ?_ _ | refine Bd_ ?_ | refine Ba_ ?_ _)); refine blk_far ?_ NB304_311.out _; (with_reducible repeat (first | refine Bn_ ?_ _ | refine Bd_ ?_ | refine Ba_ ?_ _)); refine blk_far ?_ NB304_311.out _; (with_reducible repeat (first | refine Bn_ ?_ _ | refine Bd_ ?_ | refine Ba_ ?_ _)); exact BK304.out) hb); have n6_ := Am_ (Bb_ (g := gb311) (o := .cells #[.slice Ao76 t305.length co76, .int .i64 t308, .int .i64 t309] 24 (0, 0)) (by (with_reducible repeat (first | refine Bn_ ?_ _ | refine Bd_ ?_ | refine Ba_ ?_ _)); refine Bp_ (cs := #[.slice Ao76 t305.length co76, .int .i64 t308, .int .i64 0]) ?_ 2 _ rfl; (with_reducible repeat (first | refine Bn_ ?_ _ | refine Bd_ ?_ | refine Ba_ ?_ _)); refine Bp_ (cs := #[.slice Ao76 t305.length co76, .int .i64 0, .int .i64 0]) ?_ 1 _ rfl; (with_reducible repeat (first | refine Bn_ ?_ _ | refine Bd_ ?_ | refine Ba_ ?_ _)); refine Bp_ (cs := #[.slice none 0 0, .int .i64 0, .int .i64 0]) ?_ 0 _ rfl; (with_reducible repeat (first | refine Bn_ ?_ _ | refine Bd_ ?_ | refine Ba_ ?_ _)); exact BK311.out) hb); have n7_ := Am_ (Be_ (by repeat (first | (with_reducible first | exact HB.out | apply Pa_ | apply Pn_ | apply Pd_ | refine Bs_ ?_ GE275.out | refine Bs_ ?_ GE295.out | refine Bs_ ?_ GE304.out | refine Bs_ ?_ GE311.out) | exact HB.out)) hb); clear HO_296007; clear HO300; clear HO307; clear BK275; clear BK295; clear BK304; clear BK311; clear HB; have HO_296007 := n0_; have HO300 := n1_; have HO307 := n2_; have BK275 := n3_; have BK295 := n4_; have BK304 := n5_; have BK311 := n6_; have HB := n7_; clear n0_ n1_ n2_ n3_ n4_ n5_ n6_ n7_; (try clear hb); (try clear hb2); (try clear hk); (try clear hi)))
                    have n0_ := Am_ (Vd_ HO_296007.out)
                    have n1_ := Am_ (Vd_ HO300.out)
                    have n2_ := Am_ (Vd_ HO307.out)
                    have n3_ := Am_ (Bd_ BK275.out)
                    have n4_ := Am_ (Bd_ BK295.out)
                    have n5_ := Am_ (Bd_ BK304.out)
                    have n6_ := Am_ (Bd_ BK311.out)
                    have n7_ := Am_ (Pd_ HB.out)
                    clear HO_296007
                    clear HO300
                    clear HO307
                    clear BK275
                    clear BK295
                    clear BK304
                    clear BK311
                    clear HB
                    have HO_296007 := n0_
                    have HO300 := n1_
                    have HO307 := n2_
                    have BK275 := n3_
                    have BK295 := n4_
                    have BK304 := n5_
                    have BK311 := n6_
                    have HB := n7_
                    clear n0_ n1_ n2_ n3_ n4_ n5_ n6_ n7_
                    refine start_ (n := 41) (S := fun w' => w'.cell? ⟨gb304, 0, none⟩ = some (.slice Ao68 t298.length co68) ∧ w'.cell? ⟨gb304, 1, none⟩ = some (.int .i64 t301) ∧ w'.cell? ⟨gb304, 2, none⟩ = some (.int .i64 t302) ∧ w'.cell? ⟨gb275, 0, none⟩ = some (.slice A0_0 l0_0.length c0_0) ∧ w'.cell? ⟨gb275, 1, none⟩ = some (.int .i64 a0_1) ∧ w'.cell? ⟨gb275, 2, none⟩ = some (.int .i64 a0_2) ∧ w'.cell? ⟨gb311, 0, none⟩ = some (.slice Ao76 t305.length co76) ∧ w'.cell? ⟨gb311, 1, none⟩ = some (.int .i64 t308) ∧ w'.cell? ⟨gb311, 2, none⟩ = some (.int .i64 t309)) (ds := []) #[f_,f_,f_,f_,f_,f_,f_,f_,f_,f_,f_,f_,f_,f_,f_,f_,f_,f_,f_,f_,f_,f_,f_,f_,f_,f_,f_,f_,f_,f_,f_,f_,f_,f_,f_,f_,f_,f_,f_,f_,f_] (by kernel_rfl) rfl rfl ⟨(Bc_ BK304.out 0).trans rfl, (Bc_ BK304.out 1).trans rfl, (Bc_ BK304.out 2).trans rfl, (Bc_ BK275.out 0).trans rfl, (Bc_ BK275.out 1).trans rfl, (Bc_ BK275.out 2).trans rfl, (Bc_ BK311.out 0).trans rfl, (Bc_ BK311.out 1).trans rfl, (Bc_ BK311.out 2).trans rfl⟩ (fun hHeld => ?_); refine with_tabW flagstonelaw09_ContentRefuses.tab15 flagstonelaw09_ContentRefuses.bits15 (fun HT_ HW_ => ?_)
                    generalize w82.drew = w83 at HO_296007 HO300 HO307 BK275 BK295 BK304 BK311 HB hHeld ⊢
                    refine pure_ (i := 0) (N := some 85) (v := ?_) (a' := ?_) #[t_,f_,f_,f_,f_,f_,f_,f_,f_,f_,f_,f_,f_,f_,f_,f_,f_,f_,f_,f_,f_,f_,f_,f_,f_,f_,f_,f_,f_,f_,f_,f_,f_,f_,f_,f_,f_,f_,f_,f_,f_] rfl rfl (any_of HT_.out (by kernel_rfl)) (fun _ _ _ h => h) (Or.inl ⟨by rfl, ?_⟩) ?_ ?_
                    rotate_left
                    ·intro w'
                     go_simp
                     with_reducible rfl
                    rotate_left
                    ·simp only [Act.put, La_, Lb_, Lc_, i64_w, i32_w]
                     rfl
                    refine pure_ (i := 1) (N := some 86) (v := ?_) (a' := ?_) #[t_,t_,f_,f_,f_,f_,f_,f_,f_,f_,f_,f_,f_,f_,f_,f_,f_,f_,f_,f_,f_,f_,f_,f_,f_,f_,f_,f_,f_,f_,f_,f_,f_,f_,f_,f_,f_,f_,f_,f_,f_] rfl rfl (any_of HT_.out (by kernel_rfl)) (fun _ _ _ h => h) (Or.inl ⟨by rfl, ?_⟩) ?_ ?_
                    rotate_left
                    ·intro w'
                     go_simp
                     with_reducible rfl
                    rotate_left
                    ·simp only [Act.put, La_, Lb_, Lc_, i64_w, i32_w]
                     rfl
                    refine pure_ (i := 2) (N := some 87) (v := ?_) (a' := ?_) #[t_,t_,t_,f_,f_,f_,f_,f_,f_,f_,f_,f_,f_,f_,f_,f_,f_,f_,f_,f_,f_,f_,f_,f_,f_,f_,f_,f_,f_,f_,f_,f_,f_,f_,f_,f_,f_,f_,f_,f_,f_] rfl rfl (any_of HT_.out (by kernel_rfl)) (fun _ _ _ h => h) (Or.inl ⟨by rfl, ?_⟩) ?_ ?_
                    rotate_left
                    ·intro w'
                     go_simp
                     with_reducible rfl
                    rotate_left
                    ·simp only [Act.put, La_, Lb_, Lc_, i64_w, i32_w]
                     rfl
                    refine pure_ (i := 3) (N := some 88) (v := ?_) (a' := ?_) #[t_,t_,t_,t_,f_,f_,f_,f_,f_,f_,f_,f_,f_,f_,f_,f_,f_,f_,f_,f_,f_,f_,f_,f_,f_,f_,f_,f_,f_,f_,f_,f_,f_,f_,f_,f_,f_,f_,f_,f_,f_] rfl rfl (any_of HT_.out (by kernel_rfl)) (fun _ _ _ h => h) (Or.inl ⟨by rfl, ?_⟩) ?_ ?_
                    rotate_left
                    ·intro w'
                     go_simp
                     with_reducible rfl
                    rotate_left
                    ·simp only [Act.put, La_, Lb_, Lc_, i64_w, i32_w]
                     rfl
                    refine pure_ (i := 4) (N := some 89) (v := ?_) (a' := ?_) #[t_,t_,t_,t_,t_,f_,f_,f_,f_,f_,f_,f_,f_,f_,f_,f_,f_,f_,f_,f_,f_,f_,f_,f_,f_,f_,f_,f_,f_,f_,f_,f_,f_,f_,f_,f_,f_,f_,f_,f_,f_] rfl rfl (any_of HT_.out (by kernel_rfl)) (fun _ _ _ h => h) (Or.inl ⟨by rfl, ?_⟩) ?_ ?_
                    rotate_left
                    ·intro w'
                     go_simp
                     with_reducible rfl
                    rotate_left
                    ·simp only [Act.put, La_, Lb_, Lc_, i64_w, i32_w]
                     rfl
                    refine pure_ (i := 5) (N := some 90) (v := ?_) (a' := ?_) #[t_,t_,t_,t_,t_,t_,f_,f_,f_,f_,f_,f_,f_,f_,f_,f_,f_,f_,f_,f_,f_,f_,f_,f_,f_,f_,f_,f_,f_,f_,f_,f_,f_,f_,f_,f_,f_,f_,f_,f_,f_] rfl rfl (any_of HT_.out (by kernel_rfl)) (fun _ _ _ h => h) (Or.inl ⟨by rfl, ?_⟩) ?_ ?_
                    rotate_left
                    ·intro w'
                     go_simp
                     with_reducible rfl
                    rotate_left
                    ·simp only [Act.put, La_, Lb_, Lc_, i64_w, i32_w]
                     rfl
                    refine pure_ (i := 6) (N := some 91) (v := ?_) (a' := ?_) #[t_,t_,t_,t_,t_,t_,t_,f_,f_,f_,f_,f_,f_,f_,f_,f_,f_,f_,f_,f_,f_,f_,f_,f_,f_,f_,f_,f_,f_,f_,f_,f_,f_,f_,f_,f_,f_,f_,f_,f_,f_] rfl rfl (any_of HT_.out (by kernel_rfl)) (fun _ _ _ h => h) (Or.inl ⟨by rfl, ?_⟩) ?_ ?_
                    rotate_left
                    ·intro w'
                     go_simp
                     with_reducible rfl
                    rotate_left
                    ·simp only [Act.put, La_, Lb_, Lc_, i64_w, i32_w]
                     rfl
                    refine pure_ (i := 7) (N := some 92) (v := ?_) (a' := ?_) #[t_,t_,t_,t_,t_,t_,t_,t_,f_,f_,f_,f_,f_,f_,f_,f_,f_,f_,f_,f_,f_,f_,f_,f_,f_,f_,f_,f_,f_,f_,f_,f_,f_,f_,f_,f_,f_,f_,f_,f_,f_] rfl rfl (any_of HT_.out (by kernel_rfl)) (fun _ _ _ h => h) (Or.inl ⟨by rfl, ?_⟩) ?_ ?_
                    rotate_left
                    ·intro w'
                     go_simp
                     with_reducible rfl
                    rotate_left
                    ·simp only [Act.put, La_, Lb_, Lc_, i64_w, i32_w]
                     rfl
                    refine pure_ (i := 8) (N := some 93) (v := ?_) (a' := ?_) #[t_,t_,t_,t_,t_,t_,t_,t_,t_,f_,f_,f_,f_,f_,f_,f_,f_,f_,f_,f_,f_,f_,f_,f_,f_,f_,f_,f_,f_,f_,f_,f_,f_,f_,f_,f_,f_,f_,f_,f_,f_] rfl rfl (any_of HT_.out (by kernel_rfl)) (fun _ _ _ h => h) (Or.inl ⟨by rfl, ?_⟩) ?_ ?_
                    rotate_left
                    ·intro w'
                     go_simp
                     with_reducible rfl
                    rotate_left
                    ·simp only [Act.put, La_, Lb_, Lc_, i64_w, i32_w]
                     rfl
                    refine pure_ (i := 9) (N := some 94) (v := ?_) (a' := ?_) #[t_,t_,t_,t_,t_,t_,t_,t_,t_,t_,f_,f_,f_,f_,f_,f_,f_,f_,f_,f_,f_,f_,f_,f_,f_,f_,f_,f_,f_,f_,f_,f_,f_,f_,f_,f_,f_,f_,f_,f_,f_] rfl rfl (any_of HT_.out (by kernel_rfl)) (fun _ _ _ h => h) (Or.inl ⟨by rfl, ?_⟩) ?_ ?_
                    rotate_left
                    ·intro w'
                     go_simp
                     with_reducible rfl
                    rotate_left
                    ·simp only [Act.put, La_, Lb_, Lc_, i64_w, i32_w]
                     rfl
                    refine pure_ (i := 10) (N := some 95) (v := ?_) (a' := ?_) #[t_,t_,t_,t_,t_,t_,t_,t_,t_,t_,t_,f_,f_,f_,f_,f_,f_,f_,f_,f_,f_,f_,f_,f_,f_,f_,f_,f_,f_,f_,f_,f_,f_,f_,f_,f_,f_,f_,f_,f_,f_] rfl rfl (any_of HT_.out (by kernel_rfl)) (fun _ _ _ h => h) (Or.inl ⟨by rfl, ?_⟩) ?_ ?_
                    rotate_left
                    ·intro w'
                     go_simp
                     with_reducible rfl
                    rotate_left
                    ·simp only [Act.put, La_, Lb_, Lc_, i64_w, i32_w]
                     rfl
                    refine pure_ (i := 11) (N := some 96) (v := ?_) (a' := ?_) #[t_,t_,t_,t_,t_,t_,t_,t_,t_,t_,t_,t_,f_,f_,f_,f_,f_,f_,f_,f_,f_,f_,f_,f_,f_,f_,f_,f_,f_,f_,f_,f_,f_,f_,f_,f_,f_,f_,f_,f_,f_] rfl rfl (any_of HT_.out (by kernel_rfl)) (fun _ _ _ h => h) (Or.inl ⟨by rfl, ?_⟩) ?_ ?_
                    rotate_left
                    ·intro w'
                     go_simp
                     with_reducible rfl
                    rotate_left
                    ·simp only [Act.put, La_, Lb_, Lc_, i64_w, i32_w]
                     rfl
                    refine pure_ (i := 12) (N := some 97) (v := ?_) (a' := ?_) #[t_,t_,t_,t_,t_,t_,t_,t_,t_,t_,t_,t_,t_,f_,f_,f_,f_,f_,f_,f_,f_,f_,f_,f_,f_,f_,f_,f_,f_,f_,f_,f_,f_,f_,f_,f_,f_,f_,f_,f_,f_] rfl rfl (any_of HT_.out (by kernel_rfl)) (fun _ _ _ h => h) (Or.inl ⟨by rfl, ?_⟩) ?_ ?_
                    rotate_left
                    ·intro w'
                     go_simp
                     with_reducible rfl
                    rotate_left
                    ·simp only [Act.put, La_, Lb_, Lc_, i64_w, i32_w]
                     rfl
                    refine pure_ (i := 13) (N := some 98) (v := ?_) (a' := ?_) #[t_,t_,t_,t_,t_,t_,t_,t_,t_,t_,t_,t_,t_,t_,f_,f_,f_,f_,f_,f_,f_,f_,f_,f_,f_,f_,f_,f_,f_,f_,f_,f_,f_,f_,f_,f_,f_,f_,f_,f_,f_] rfl rfl (any_of HT_.out (by kernel_rfl)) (fun _ _ _ h => h) (Or.inl ⟨by rfl, ?_⟩) ?_ ?_
                    rotate_left
                    ·intro w'
                     go_simp
                     with_reducible rfl
                    rotate_left
                    ·simp only [Act.put, La_, Lb_, Lc_, i64_w, i32_w]
                     rfl
                    refine pure_ (i := 14) (N := some 99) (v := ?_) (a' := ?_) #[t_,t_,t_,t_,t_,t_,t_,t_,t_,t_,t_,t_,t_,t_,t_,f_,f_,f_,f_,f_,f_,f_,f_,f_,f_,f_,f_,f_,f_,f_,f_,f_,f_,f_,f_,f_,f_,f_,f_,f_,f_] rfl rfl (any_of HT_.out (by kernel_rfl)) (fun _ _ _ h => h) (Or.inl ⟨by rfl, ?_⟩) ?_ ?_
                    rotate_left
                    ·intro w'
                     go_simp
                     with_reducible rfl
                    rotate_left
                    ·simp only [Act.put, La_, Lb_, Lc_, i64_w, i32_w]
                     rfl
                    refine pure_ (i := 15) (N := some 100) (v := ?_) (a' := ?_) #[t_,t_,t_,t_,t_,t_,t_,t_,t_,t_,t_,t_,t_,t_,t_,t_,f_,f_,f_,f_,f_,f_,f_,f_,f_,f_,f_,f_,f_,f_,f_,f_,f_,f_,f_,f_,f_,f_,f_,f_,f_] rfl rfl (any_of HT_.out (by kernel_rfl)) (fun _ _ _ h => h) (Or.inl ⟨by rfl, ?_⟩) ?_ ?_
                    rotate_left
                    ·intro w'
                     go_simp
                     with_reducible rfl
                    rotate_left
                    ·simp only [Act.put, La_, Lb_, Lc_, i64_w, i32_w]
                     rfl
                    refine pure_ (i := 16) (N := some 101) (v := ?_) (a' := ?_) #[t_,t_,t_,t_,t_,t_,t_,t_,t_,t_,t_,t_,t_,t_,t_,t_,t_,f_,f_,f_,f_,f_,f_,f_,f_,f_,f_,f_,f_,f_,f_,f_,f_,f_,f_,f_,f_,f_,f_,f_,f_] rfl rfl (any_of HT_.out (by kernel_rfl)) (fun _ _ _ h => h) (Or.inl ⟨by rfl, ?_⟩) ?_ ?_
                    rotate_left
                    ·intro w'
                     go_simp
                     with_reducible rfl
                    rotate_left
                    ·simp only [Act.put, La_, Lb_, Lc_, i64_w, i32_w]
                     rfl
                    refine pure_ (i := 17) (N := some 102) (v := ?_) (a' := ?_) #[t_,t_,t_,t_,t_,t_,t_,t_,t_,t_,t_,t_,t_,t_,t_,t_,t_,t_,f_,f_,f_,f_,f_,f_,f_,f_,f_,f_,f_,f_,f_,f_,f_,f_,f_,f_,f_,f_,f_,f_,f_] rfl rfl (any_of HT_.out (by kernel_rfl)) (fun _ _ _ h => h) (Or.inl ⟨by rfl, ?_⟩) ?_ ?_
                    rotate_left
                    ·intro w'
                     go_simp
                     with_reducible rfl
                    rotate_left
                    ·simp only [Act.put, La_, Lb_, Lc_, i64_w, i32_w]
                     rfl
                    refine pure_ (i := 18) (N := some 103) (v := ?_) (a' := ?_) #[t_,t_,t_,t_,t_,t_,t_,t_,t_,t_,t_,t_,t_,t_,t_,t_,t_,t_,t_,f_,f_,f_,f_,f_,f_,f_,f_,f_,f_,f_,f_,f_,f_,f_,f_,f_,f_,f_,f_,f_,f_] rfl rfl (any_of HT_.out (by kernel_rfl)) (fun _ _ _ h => h) (Or.inl ⟨by rfl, ?_⟩) ?_ ?_
                    rotate_left
                    ·intro w'
                     go_simp
                     with_reducible rfl
                    rotate_left
                    ·simp only [Act.put, La_, Lb_, Lc_, i64_w, i32_w]
                     rfl
                    refine pure_ (i := 19) (N := some 104) (v := ?_) (a' := ?_) #[t_,t_,t_,t_,t_,t_,t_,t_,t_,t_,t_,t_,t_,t_,t_,t_,t_,t_,t_,t_,f_,f_,f_,f_,f_,f_,f_,f_,f_,f_,f_,f_,f_,f_,f_,f_,f_,f_,f_,f_,f_] rfl rfl (any_of HT_.out (by kernel_rfl)) (fun _ _ _ h => h) (Or.inl ⟨by rfl, ?_⟩) ?_ ?_
                    rotate_left
                    ·intro w'
                     go_simp
                     with_reducible rfl
                    rotate_left
                    ·simp only [Act.put, La_, Lb_, Lc_, i64_w, i32_w]
                     rfl
                    refine pure_ (i := 20) (N := some 105) (v := ?_) (a' := ?_) #[t_,t_,t_,t_,t_,t_,t_,t_,t_,t_,t_,t_,t_,t_,t_,t_,t_,t_,t_,t_,t_,f_,f_,f_,f_,f_,f_,f_,f_,f_,f_,f_,f_,f_,f_,f_,f_,f_,f_,f_,f_] rfl rfl (any_of HT_.out (by kernel_rfl)) (fun _ _ _ h => h) (Or.inl ⟨by rfl, ?_⟩) ?_ ?_
                    rotate_left
                    ·intro w'
                     go_simp
                     with_reducible rfl
                    rotate_left
                    ·simp only [Act.put, La_, Lb_, Lc_, i64_w, i32_w]
                     rfl
                    refine pure_ (i := 21) (N := some 106) (v := ?_) (a' := ?_) #[t_,t_,t_,t_,t_,t_,t_,t_,t_,t_,t_,t_,t_,t_,t_,t_,t_,t_,t_,t_,t_,t_,f_,f_,f_,f_,f_,f_,f_,f_,f_,f_,f_,f_,f_,f_,f_,f_,f_,f_,f_] rfl rfl (any_of HT_.out (by kernel_rfl)) (fun _ _ _ h => h) (Or.inl ⟨by rfl, ?_⟩) ?_ ?_
                    rotate_left
                    ·intro w'
                     go_simp
                     with_reducible rfl
                    rotate_left
                    ·simp only [Act.put, La_, Lb_, Lc_, i64_w, i32_w]
                     rfl
                    refine pure_ (i := 22) (N := some 107) (v := ?_) (a' := ?_) #[t_,t_,t_,t_,t_,t_,t_,t_,t_,t_,t_,t_,t_,t_,t_,t_,t_,t_,t_,t_,t_,t_,t_,f_,f_,f_,f_,f_,f_,f_,f_,f_,f_,f_,f_,f_,f_,f_,f_,f_,f_] rfl rfl (any_of HT_.out (by kernel_rfl)) (fun _ _ _ h => h) (Or.inl ⟨by rfl, ?_⟩) ?_ ?_
                    rotate_left
                    ·intro w'
                     go_simp
                     with_reducible rfl
                    rotate_left
                    ·simp only [Act.put, La_, Lb_, Lc_, i64_w, i32_w]
                     rfl
                    refine pure_ (i := 23) (N := some 108) (v := ?_) (a' := ?_) #[t_,t_,t_,t_,t_,t_,t_,t_,t_,t_,t_,t_,t_,t_,t_,t_,t_,t_,t_,t_,t_,t_,t_,t_,f_,f_,f_,f_,f_,f_,f_,f_,f_,f_,f_,f_,f_,f_,f_,f_,f_] rfl rfl (any_of HT_.out (by kernel_rfl)) (fun _ _ _ h => h) (Or.inl ⟨by rfl, ?_⟩) ?_ ?_
                    rotate_left
                    ·intro w'
                     go_simp
                     with_reducible rfl
                    rotate_left
                    ·simp only [Act.put, La_, Lb_, Lc_, i64_w, i32_w]
                     rfl
                    refine pure_ (i := 24) (N := some 109) (v := ?_) (a' := ?_) #[t_,t_,t_,t_,t_,t_,t_,t_,t_,t_,t_,t_,t_,t_,t_,t_,t_,t_,t_,t_,t_,t_,t_,t_,t_,f_,f_,f_,f_,f_,f_,f_,f_,f_,f_,f_,f_,f_,f_,f_,f_] rfl rfl (any_of HT_.out (by kernel_rfl)) (fun _ _ _ h => h) (Or.inl ⟨by rfl, ?_⟩) ?_ ?_
                    rotate_left
                    ·intro w'
                     go_simp
                     with_reducible rfl
                    rotate_left
                    ·simp only [Act.put, La_, Lb_, Lc_, i64_w, i32_w]
                     rfl
                    refine pure_ (i := 25) (N := some 110) (v := ?_) (a' := ?_) #[t_,t_,t_,t_,t_,t_,t_,t_,t_,t_,t_,t_,t_,t_,t_,t_,t_,t_,t_,t_,t_,t_,t_,t_,t_,t_,f_,f_,f_,f_,f_,f_,f_,f_,f_,f_,f_,f_,f_,f_,f_] rfl rfl (any_of HT_.out (by kernel_rfl)) (fun _ _ _ h => h) (Or.inl ⟨by rfl, ?_⟩) ?_ ?_
                    rotate_left
                    ·intro w'
                     go_simp
                     with_reducible rfl
                    rotate_left
                    ·simp only [Act.put, La_, Lb_, Lc_, i64_w, i32_w]
                     rfl
                    refine pure_ (i := 26) (N := some 111) (v := ?_) (a' := ?_) #[t_,t_,t_,t_,t_,t_,t_,t_,t_,t_,t_,t_,t_,t_,t_,t_,t_,t_,t_,t_,t_,t_,t_,t_,t_,t_,t_,f_,f_,f_,f_,f_,f_,f_,f_,f_,f_,f_,f_,f_,f_] rfl rfl (any_of HT_.out (by kernel_rfl)) (fun _ _ _ h => h) (Or.inl ⟨by rfl, ?_⟩) ?_ ?_
                    rotate_left
                    ·intro w'
                     go_simp
                     with_reducible rfl
                    rotate_left
                    ·simp only [Act.put, La_, Lb_, Lc_, i64_w, i32_w]
                     rfl
                    refine take_ (i := 27) (N := some 112) (v := ?_) (a' := ?_) #[t_,t_,t_,t_,t_,t_,t_,t_,t_,t_,t_,t_,t_,t_,t_,t_,t_,t_,t_,t_,t_,t_,t_,t_,t_,t_,t_,t_,f_,f_,f_,f_,f_,f_,f_,f_,f_,f_,f_,f_,f_] rfl rfl (take_ofW HT_.out HW_.out (by kernel_rfl)) (fun _ _ _ h => h) (Or.inl ⟨by rfl, ?_⟩) hHeld ?_ ?_
                    rotate_left
                    ·rintro w' ⟨s0, s1, s2, s3, s4, s5, s6, s7, s8⟩
                     go_simp
                     with_reducible rfl
                    rotate_left
                    ·simp only [Act.put, La_, Lb_, Lc_, i64_w, i32_w]
                     rfl
                    refine take_ (i := 29) (N := some 114) (v := ?_) (a' := ?_) #[t_,t_,t_,t_,t_,t_,t_,t_,t_,t_,t_,t_,t_,t_,t_,t_,t_,t_,t_,t_,t_,t_,t_,t_,t_,t_,t_,t_,f_,t_,f_,f_,f_,f_,f_,f_,f_,f_,f_,f_,f_] rfl rfl (take_ofW HT_.out HW_.out (by kernel_rfl)) (fun _ _ _ h => h) (Or.inl ⟨by rfl, ?_⟩) hHeld ?_ ?_
                    rotate_left
                    ·rintro w' ⟨s0, s1, s2, s3, s4, s5, s6, s7, s8⟩
                     go_simp
                     with_reducible rfl
                    rotate_left
                    ·simp only [Act.put, La_, Lb_, Lc_, i64_w, i32_w]
                     rfl
                    refine one_ (i := 28) (N := some 113) #[t_,t_,t_,t_,t_,t_,t_,t_,t_,t_,t_,t_,t_,t_,t_,t_,t_,t_,t_,t_,t_,t_,t_,t_,t_,t_,t_,t_,t_,t_,f_,f_,f_,f_,f_,f_,f_,f_,f_,f_,f_] rfl rfl (one_of HT_.out (by kernel_rfl)) (by decide) (fun K hK => ?_)
                    refine goes_ Try.func13 (by kernel_rfl) rfl #[.agg #[.slice Ao68 t298.length co68, .int .i64 t301, .int .i64 t302]] (by rfl) rfl rfl (by (try simp only [List.map_toArray, List.map_cons, List.map_nil]); first | done | rfl | (simp only [List.length_drop, List.length_take]; rfl)) ?_
                    with_reducible refine (flagstonelaw09_its.calls kj42 _ _ t298 t301 t302 t314 t317 t318 _ ?side1 ?side2 A55.out).mono ?_
                    (case side1 => repeat (first | exact (Vr_ HO300.out).2.2 | (with_reducible refine Kd.C_alloc ?_ _) | (with_reducible refine Kd.C_drewN ?_ _) | (with_reducible refine Kd.C_drew ?_)))
                    (case side2 => exact (Vr_ HO300.out).2.1)
                    rintro e w84 ⟨v315, rfl, ho0, hb⟩
                    refine ⟨_, rfl, ?_⟩
                    have n0_ := Am_ (Kd.V_elder' (by (with_reducible repeat (first | apply Va_ | apply Vn_ | apply Vd_)); exact HO_296007.out) (Kd.S_base ho0) hb)
                    have n1_ := Am_ (Kd.V_elder' (by (with_reducible repeat (first | apply Va_ | apply Vn_ | apply Vd_)); exact HO300.out) (Kd.S_base ho0) hb)
                    have n2_ := Am_ (Kd.V_elder' (by (with_reducible repeat (first | apply Va_ | apply Vn_ | apply Vd_)); exact HO307.out) (Kd.S_base ho0) hb)
                    have n3_ := Am_ (Kd.S_lower (Kd.S_newB ho0 (g := gb295) (o := .cells #[.int .i64 t284, .int .i64 t285, .int .i64 t286, .int .i64 t287, .int .i64 t288, .int .i64 t289, .string t290, .slice Ao32 t291.length co32] 53 (0, 0)) (by (with_reducible repeat (first | refine Bn_ ?_ _ | refine Bd_ ?_ | refine Ba_ ?_ _)); exact BK295.out)) (Bz_ (by repeat (first | (with_reducible first | exact HB.out | apply Pa_ | apply Pn_ | apply Pd_ | refine Bs_ ?_ GE275.out | refine Bs_ ?_ GE295.out | refine Bs_ ?_ GE304.out | refine Bs_ ?_ GE311.out) | exact HB.out))))
                    have n4_ := Am_ (Bb_ (g := gb275) (o := .cells #[.slice A0_0 l0_0.length c0_0, .int .i64 a0_1, .int .i64 a0_2] 24 (0, 0)) (by (with_reducible repeat (first | refine Bn_ ?_ _ | refine Bd_ ?_ | refine Ba_ ?_ _)); exact BK275.out) hb)
                    have n5_ := Am_ (Bb_ (g := gb295) (o := .cells #[.int .i64 t284, .int .i64 t285, .int .i64 t286, .int .i64 t287, .int .i64 t288, .int .i64 t289, .string t290, .slice Ao32 t291.length co32] 53 (0, 0)) (by (with_reducible repeat (first | refine Bn_ ?_ _ | refine Bd_ ?_ | refine Ba_ ?_ _)); exact BK295.out) hb)
                    have n6_ := Am_ (Bb_ (g := gb304) (o := .cells #[.slice Ao68 t298.length co68, .int .i64 t301, .int .i64 t302] 24 (0, 0)) (by (with_reducible repeat (first | refine Bn_ ?_ _ | refine Bd_ ?_ | refine Ba_ ?_ _)); exact BK304.out) hb)
                    have n7_ := Am_ (Bb_ (g := gb311) (o := .cells #[.slice Ao76 t305.length co76, .int .i64 t308, .int .i64 t309] 24 (0, 0)) (by (with_reducible repeat (first | refine Bn_ ?_ _ | refine Bd_ ?_ | refine Ba_ ?_ _)); exact BK311.out) hb)
                    have n8_ := Am_ (Be_ (by repeat (first | (with_reducible first | exact HB.out | apply Pa_ | apply Pn_ | apply Pd_ | refine Bs_ ?_ GE275.out | refine Bs_ ?_ GE295.out | refine Bs_ ?_ GE304.out | refine Bs_ ?_ GE311.out) | exact HB.out)) hb)
                    clear HO_296007
                    clear HO300
                    clear HO307
                    clear BK275
                    clear BK295
                    clear BK304
                    clear BK311
                    clear HB
                    have HO_296007 := n0_
                    have HO300 := n1_
                    have HO307 := n2_
                    have HO316 := n3_
                    have BK275 := n4_
                    have BK295 := n5_
                    have BK304 := n6_
                    have BK311 := n7_
                    have HB := n8_
                    clear n0_ n1_ n2_ n3_ n4_ n5_ n6_ n7_ n8_
                    (try clear hb)
                    (try clear hb2)
                    (try clear hk)
                    (try clear hi)
                    (try clear ho0)
                    refine hK.out _ _ ⟨(Bc_ BK304.out 0).trans rfl, (Bc_ BK304.out 1).trans rfl, (Bc_ BK304.out 2).trans rfl, (Bc_ BK275.out 0).trans rfl, (Bc_ BK275.out 1).trans rfl, (Bc_ BK275.out 2).trans rfl, (Bc_ BK311.out 0).trans rfl, (Bc_ BK311.out 1).trans rfl, (Bc_ BK311.out 2).trans rfl⟩ (fun hHeld => ?_)
                    clear hK K
                    refine norm_ (a' := ?_) ?_ ?_
                    rotate_left
                    ·show Act.put _ (some 113) _ = _
                     simp only [Act.put, La_, Lb_, Lc_, i64_w, i32_w]
                     rfl
                    refine one_ (i := 30) (N := some 115) #[t_,t_,t_,t_,t_,t_,t_,t_,t_,t_,t_,t_,t_,t_,t_,t_,t_,t_,t_,t_,t_,t_,t_,t_,t_,t_,t_,t_,t_,t_,t_,f_,f_,f_,f_,f_,f_,f_,f_,f_,f_] rfl rfl (one_of HT_.out (by kernel_rfl)) (by decide) (fun K hK => ?_)
                    refine goes_ Try.func13 (by kernel_rfl) rfl #[.agg #[.slice A0_0 l0_0.length c0_0, .int .i64 a0_1, .int .i64 a0_2]] (by rfl) rfl rfl (by (try simp only [List.map_toArray, List.map_cons, List.map_nil]); first | done | rfl | (simp only [List.length_drop, List.length_take]; rfl)) ?_
                    with_reducible refine (flagstonelaw09_its.calls kj42 _ _ l0_0 a0_1 a0_2 t319 t322 t323 _ ?side1 ?side2 A56.out).mono ?_
                    (case side1 => repeat (first | exact (Kd.C_below HR0_0.out HB.out) | (with_reducible refine Kd.C_alloc ?_ _) | (with_reducible refine Kd.C_drewN ?_ _) | (with_reducible refine Kd.C_drew ?_)))
                    (case side2 => exact HC0_0.out)
                    rintro e w85 ⟨v320, rfl, ho0, hb⟩
                    refine ⟨_, rfl, ?_⟩
                    have n0_ := Am_ (Kd.V_elder' (by (with_reducible repeat (first | apply Va_ | apply Vn_ | apply Vd_)); exact HO_296007.out) (Kd.S_base ho0) hb)
                    have n1_ := Am_ (Kd.V_elder' (by (with_reducible repeat (first | apply Va_ | apply Vn_ | apply Vd_)); exact HO300.out) (Kd.S_base ho0) hb)
                    have n2_ := Am_ (Kd.V_elder' (by (with_reducible repeat (first | apply Va_ | apply Vn_ | apply Vd_)); exact HO307.out) (Kd.S_base ho0) hb)
                    have n3_ := Am_ (Kd.S_elder' (by (with_reducible repeat (first | apply Kd.S_alloc | apply Kd.S_drewN | apply Kd.S_drew)); exact HO316.out) (Kd.S_base ho0) hb)
                    have n4_ := Am_ (Kd.S_lower (Kd.S_newB (Kd.S_new' ho0 (Kd.S_lt (by (with_reducible repeat (first | apply Kd.S_alloc | apply Kd.S_drewN | apply Kd.S_drew)); exact HO316.out))) (g := gb295) (o := .cells #[.int .i64 t284, .int .i64 t285, .int .i64 t286, .int .i64 t287, .int .i64 t288, .int .i64 t289, .string t290, .slice Ao32 t291.length co32] 53 (0, 0)) (by (with_reducible repeat (first | refine Bn_ ?_ _ | refine Bd_ ?_ | refine Ba_ ?_ _)); exact BK295.out)) (Bz_ (by repeat (first | (with_reducible first | exact HB.out | apply Pa_ | apply Pn_ | apply Pd_ | refine Bs_ ?_ GE275.out | refine Bs_ ?_ GE295.out | refine Bs_ ?_ GE304.out | refine Bs_ ?_ GE311.out) | exact HB.out))))
                    have n5_ := Am_ (Bb_ (g := gb275) (o := .cells #[.slice A0_0 l0_0.length c0_0, .int .i64 a0_1, .int .i64 a0_2] 24 (0, 0)) (by (with_reducible repeat (first | refine Bn_ ?_ _ | refine Bd_ ?_ | refine Ba_ ?_ _)); exact BK275.out) hb)
                    have n6_ := Am_ (Bb_ (g := gb295) (o := .cells #[.int .i64 t284, .int .i64 t285, .int .i64 t286, .int .i64 t287, .int .i64 t288, .int .i64 t289, .string t290, .slice Ao32 t291.length co32] 53 (0, 0)) (by (with_reducible repeat (first | refine Bn_ ?_ _ | refine Bd_ ?_ | refine Ba_ ?_ _)); exact BK295.out) hb)
                    have n7_ := Am_ (Bb_ (g := gb304) (o := .cells #[.slice Ao68 t298.length co68, .int .i64 t301, .int .i64 t302] 24 (0, 0)) (by (with_reducible repeat (first | refine Bn_ ?_ _ | refine Bd_ ?_ | refine Ba_ ?_ _)); exact BK304.out) hb)
                    have n8_ := Am_ (Bb_ (g := gb311) (o := .cells #[.slice Ao76 t305.length co76, .int .i64 t308, .int .i64 t309] 24 (0, 0)) (by (with_reducible repeat (first | refine Bn_ ?_ _ | refine Bd_ ?_ | refine Ba_ ?_ _)); exact BK311.out) hb)
                    have n9_ := Am_ (Be_ (by repeat (first | (with_reducible first | exact HB.out | apply Pa_ | apply Pn_ | apply Pd_ | refine Bs_ ?_ GE275.out | refine Bs_ ?_ GE295.out | refine Bs_ ?_ GE304.out | refine Bs_ ?_ GE311.out) | exact HB.out)) hb)
                    clear HO_296007
                    clear HO300
                    clear HO307
                    clear HO316
                    clear BK275
                    clear BK295
                    clear BK304
                    clear BK311
                    clear HB
                    have HO_296007 := n0_
                    have HO300 := n1_
                    have HO307 := n2_
                    have HO316 := n3_
                    have HO321 := n4_
                    have BK275 := n5_
                    have BK295 := n6_
                    have BK304 := n7_
                    have BK311 := n8_
                    have HB := n9_
                    clear n0_ n1_ n2_ n3_ n4_ n5_ n6_ n7_ n8_ n9_
                    (try clear hb)
                    (try clear hb2)
                    (try clear hk)
                    (try clear hi)
                    (try clear ho0)
                    obtain ⟨Ao86, co86, eo86⟩ := Kd.S_slice HO316.out
                    (first | subst eo86 | (injection eo86 with f1_ f2_ f3_; have f4_ := f1_.symm; have f5_ := f3_.symm; clear f1_ f2_ f3_; subst f4_; subst f5_))
                    obtain ⟨Ao87, co87, eo87⟩ := Kd.S_slice HO321.out
                    (first | subst eo87 | (injection eo87 with f1_ f2_ f3_; have f4_ := f1_.symm; have f5_ := f3_.symm; clear f1_ f2_ f3_; subst f4_; subst f5_))
                    refine hK.out _ _ ⟨(Bc_ BK304.out 0).trans rfl, (Bc_ BK304.out 1).trans rfl, (Bc_ BK304.out 2).trans rfl, (Bc_ BK275.out 0).trans rfl, (Bc_ BK275.out 1).trans rfl, (Bc_ BK275.out 2).trans rfl, (Bc_ BK311.out 0).trans rfl, (Bc_ BK311.out 1).trans rfl, (Bc_ BK311.out 2).trans rfl⟩ (fun hHeld => ?_)
                    clear hK K
                    refine norm_ (a' := ?_) ?_ ?_
                    rotate_left
                    ·show Act.put _ (some 115) _ = _
                     simp only [Act.put, La_, Lb_, Lc_, i64_w, i32_w]
                     rfl
                    refine one_ (i := 31) (N := some 116) #[t_,t_,t_,t_,t_,t_,t_,t_,t_,t_,t_,t_,t_,t_,t_,t_,t_,t_,t_,t_,t_,t_,t_,t_,t_,t_,t_,t_,t_,t_,t_,t_,f_,f_,f_,f_,f_,f_,f_,f_,f_] rfl rfl (one_of HT_.out (by kernel_rfl)) (by decide) (fun K hK => ?_)
                    refine goes_ Try.func20 (by kernel_rfl) rfl #[.agg #[.slice Ao86 t314.length co86, .int .i64 t317, .int .i64 t318], .agg #[.slice Ao87 t319.length co87, .int .i64 t322, .int .i64 t323]] (by rfl) rfl rfl (by (try simp only [List.map_toArray, List.map_cons, List.map_nil]); first | done | rfl | (simp only [List.length_drop, List.length_take]; rfl)) ?_
                    with_reducible refine (flagstoneref06_Same.calls kj42 _ _ t314 t317 t318 _ _ t319 t322 t323 true _ ?side1 ?side2 ?side3 ?side4 A57.out).mono ?_
                    (case side1 => repeat (first | exact (Kd.S_reads' HO316.out).2.2 | (with_reducible refine Kd.C_alloc ?_ _) | (with_reducible refine Kd.C_drewN ?_ _) | (with_reducible refine Kd.C_drew ?_)))
                    (case side2 => exact (Kd.S_reads' HO316.out).2.1)
                    (case side3 => repeat (first | exact (Kd.S_reads' HO321.out).2.2 | (with_reducible refine Kd.C_alloc ?_ _) | (with_reducible refine Kd.C_drewN ?_ _) | (with_reducible refine Kd.C_drew ?_)))
                    (case side4 => exact (Kd.S_reads' HO321.out).2.1)
                    rintro e w88 ⟨rfl, hb⟩
                    refine ⟨_, rfl, ?_⟩
                    have n0_ := Am_ (Vb_ (by (with_reducible repeat (first | apply Va_ | apply Vn_ | apply Vd_)); exact HO_296007.out) hb)
                    have n1_ := Am_ (Vb_ (by (with_reducible repeat (first | apply Va_ | apply Vn_ | apply Vd_)); exact HO300.out) hb)
                    have n2_ := Am_ (Vb_ (by (with_reducible repeat (first | apply Va_ | apply Vn_ | apply Vd_)); exact HO307.out) hb)
                    have n3_ := Am_ (Kd.S_below (by (with_reducible repeat (first | apply Kd.S_alloc | apply Kd.S_drewN | apply Kd.S_drew)); exact HO316.out) hb)
                    have n4_ := Am_ (Kd.S_below (by (with_reducible repeat (first | apply Kd.S_alloc | apply Kd.S_drewN | apply Kd.S_drew)); exact HO321.out) hb)
                    have n5_ := Am_ (Bb_ (g := gb275) (o := .cells #[.slice A0_0 l0_0.length c0_0, .int .i64 a0_1, .int .i64 a0_2] 24 (0, 0)) (by (with_reducible repeat (first | refine Bn_ ?_ _ | refine Bd_ ?_ | refine Ba_ ?_ _)); exact BK275.out) hb)
                    have n6_ := Am_ (Bb_ (g := gb295) (o := .cells #[.int .i64 t284, .int .i64 t285, .int .i64 t286, .int .i64 t287, .int .i64 t288, .int .i64 t289, .string t290, .slice Ao32 t291.length co32] 53 (0, 0)) (by (with_reducible repeat (first | refine Bn_ ?_ _ | refine Bd_ ?_ | refine Ba_ ?_ _)); exact BK295.out) hb)
                    have n7_ := Am_ (Bb_ (g := gb304) (o := .cells #[.slice Ao68 t298.length co68, .int .i64 t301, .int .i64 t302] 24 (0, 0)) (by (with_reducible repeat (first | refine Bn_ ?_ _ | refine Bd_ ?_ | refine Ba_ ?_ _)); exact BK304.out) hb)
                    have n8_ := Am_ (Bb_ (g := gb311) (o := .cells #[.slice Ao76 t305.length co76, .int .i64 t308, .int .i64 t309] 24 (0, 0)) (by (with_reducible repeat (first | refine Bn_ ?_ _ | refine Bd_ ?_ | refine Ba_ ?_ _)); exact BK311.out) hb)
                    have n9_ := Am_ (Be_ (by repeat (first | (with_reducible first | exact HB.out | apply Pa_ | apply Pn_ | apply Pd_ | refine Bs_ ?_ GE275.out | refine Bs_ ?_ GE295.out | refine Bs_ ?_ GE304.out | refine Bs_ ?_ GE311.out) | exact HB.out)) hb)
                    clear HO_296007
                    clear HO300
                    clear HO307
                    clear HO316
                    clear HO321
                    clear BK275
                    clear BK295
                    clear BK304
                    clear BK311
                    clear HB
                    have HO_296007 := n0_
                    have HO300 := n1_
                    have HO307 := n2_
                    have HO316 := n3_
                    have HO321 := n4_
                    have BK275 := n5_
                    have BK295 := n6_
                    have BK304 := n7_
                    have BK311 := n8_
                    have HB := n9_
                    clear n0_ n1_ n2_ n3_ n4_ n5_ n6_ n7_ n8_ n9_
                    (try clear hb)
                    (try clear hb2)
                    (try clear hk)
                    (try clear hi)
                    refine hK.out _ _ ⟨(Bc_ BK304.out 0).trans rfl, (Bc_ BK304.out 1).trans rfl, (Bc_ BK304.out 2).trans rfl, (Bc_ BK275.out 0).trans rfl, (Bc_ BK275.out 1).trans rfl, (Bc_ BK275.out 2).trans rfl, (Bc_ BK311.out 0).trans rfl, (Bc_ BK311.out 1).trans rfl, (Bc_ BK311.out 2).trans rfl⟩ (fun hHeld => ?_)
                    clear hK K
                    refine norm_ (a' := ?_) ?_ ?_
                    rotate_left
                    ·show Act.put _ (some 116) _ = _
                     simp only [Act.put, La_, Lb_, Lc_, i64_w, i32_w]
                     rfl
                    refine pure_ (i := 32) (N := some 117) (v := ?_) (a' := ?_) #[t_,t_,t_,t_,t_,t_,t_,t_,t_,t_,t_,t_,t_,t_,t_,t_,t_,t_,t_,t_,t_,t_,t_,t_,t_,t_,t_,t_,t_,t_,t_,t_,t_,f_,f_,f_,f_,f_,f_,f_,f_] rfl rfl (any_of HT_.out (by kernel_rfl)) (fun _ _ _ h => h) (Or.inl ⟨by rfl, ?_⟩) ?_ ?_
                    rotate_left
                    ·intro w'
                     go_simp
                     with_reducible rfl
                    rotate_left
                    ·simp only [Act.put, La_, Lb_, Lc_, i64_w, i32_w]
                     rfl
                    refine pure_ (i := 33) (N := some 118) (v := ?_) (a' := ?_) #[t_,t_,t_,t_,t_,t_,t_,t_,t_,t_,t_,t_,t_,t_,t_,t_,t_,t_,t_,t_,t_,t_,t_,t_,t_,t_,t_,t_,t_,t_,t_,t_,t_,t_,f_,f_,f_,f_,f_,f_,f_] rfl rfl (any_of HT_.out (by kernel_rfl)) (fun _ _ _ h => h) (Or.inl ⟨by rfl, ?_⟩) ?_ ?_
                    rotate_left
                    ·intro w'
                     go_simp
                     with_reducible rfl
                    rotate_left
                    ·simp only [Act.put, La_, Lb_, Lc_, i64_w, i32_w]
                     rfl
                    refine take_ (i := 34) (N := some 119) (v := ?_) (a' := ?_) #[t_,t_,t_,t_,t_,t_,t_,t_,t_,t_,t_,t_,t_,t_,t_,t_,t_,t_,t_,t_,t_,t_,t_,t_,t_,t_,t_,t_,t_,t_,t_,t_,t_,t_,t_,f_,f_,f_,f_,f_,f_] rfl rfl (take_ofW HT_.out HW_.out (by kernel_rfl)) (fun _ _ _ h => h) (Or.inl ⟨by rfl, ?_⟩) hHeld ?_ ?_
                    rotate_left
                    ·rintro w' ⟨s0, s1, s2, s3, s4, s5, s6, s7, s8⟩
                     go_simp
                     with_reducible rfl
                    rotate_left
                    ·simp only [Act.put, La_, Lb_, Lc_, i64_w, i32_w]
                     rfl
                    refine take_ (i := 36) (N := some 121) (v := ?_) (a' := ?_) #[t_,t_,t_,t_,t_,t_,t_,t_,t_,t_,t_,t_,t_,t_,t_,t_,t_,t_,t_,t_,t_,t_,t_,t_,t_,t_,t_,t_,t_,t_,t_,t_,t_,t_,t_,f_,t_,f_,f_,f_,f_] rfl rfl (take_ofW HT_.out HW_.out (by kernel_rfl)) (fun _ _ _ h => h) (Or.inl ⟨by rfl, ?_⟩) hHeld ?_ ?_
                    rotate_left
                    ·rintro w' ⟨s0, s1, s2, s3, s4, s5, s6, s7, s8⟩
                     go_simp
                     with_reducible rfl
                    rotate_left
                    ·simp only [Act.put, La_, Lb_, Lc_, i64_w, i32_w]
                     rfl
                    refine one_ (i := 35) (N := some 120) #[t_,t_,t_,t_,t_,t_,t_,t_,t_,t_,t_,t_,t_,t_,t_,t_,t_,t_,t_,t_,t_,t_,t_,t_,t_,t_,t_,t_,t_,t_,t_,t_,t_,t_,t_,t_,t_,f_,f_,f_,f_] rfl rfl (one_of HT_.out (by kernel_rfl)) (by decide) (fun K hK => ?_)
                    refine goes_ Try.func13 (by kernel_rfl) rfl #[.agg #[.slice Ao76 t305.length co76, .int .i64 t308, .int .i64 t309]] (by rfl) rfl rfl (by (try simp only [List.map_toArray, List.map_cons, List.map_nil]); first | done | rfl | (simp only [List.length_drop, List.length_take]; rfl)) ?_
                    with_reducible refine (flagstonelaw09_its.calls kj42 _ _ t305 t308 t309 t325 t328 t329 _ ?side1 ?side2 A59.out).mono ?_
                    (case side1 => repeat (first | exact (Vr_ HO307.out).2.2 | (with_reducible refine Kd.C_alloc ?_ _) | (with_reducible refine Kd.C_drewN ?_ _) | (with_reducible refine Kd.C_drew ?_)))
                    (case side2 => exact (Vr_ HO307.out).2.1)
                    rintro e w89 ⟨v326, rfl, ho0, hb⟩
                    refine ⟨_, rfl, ?_⟩
                    have n0_ := Am_ (Kd.V_elder' (by (with_reducible repeat (first | apply Va_ | apply Vn_ | apply Vd_)); exact HO_296007.out) (Kd.S_base ho0) hb)
                    have n1_ := Am_ (Kd.V_elder' (by (with_reducible repeat (first | apply Va_ | apply Vn_ | apply Vd_)); exact HO300.out) (Kd.S_base ho0) hb)
                    have n2_ := Am_ (Kd.V_elder' (by (with_reducible repeat (first | apply Va_ | apply Vn_ | apply Vd_)); exact HO307.out) (Kd.S_base ho0) hb)
                    have n3_ := Am_ (Kd.S_elder' (by (with_reducible repeat (first | apply Kd.S_alloc | apply Kd.S_drewN | apply Kd.S_drew)); exact HO316.out) (Kd.S_base ho0) hb)
                    have n4_ := Am_ (Kd.S_elder' (by (with_reducible repeat (first | apply Kd.S_alloc | apply Kd.S_drewN | apply Kd.S_drew)); exact HO321.out) (Kd.S_base ho0) hb)
                    have n5_ := Am_ (Kd.S_lower (Kd.S_newB (Kd.S_new' (Kd.S_new' ho0 (Kd.S_lt (by (with_reducible repeat (first | apply Kd.S_alloc | apply Kd.S_drewN | apply Kd.S_drew)); exact HO316.out))) (Kd.S_lt (by (with_reducible repeat (first | apply Kd.S_alloc | apply Kd.S_drewN | apply Kd.S_drew)); exact HO321.out))) (g := gb295) (o := .cells #[.int .i64 t284, .int .i64 t285, .int .i64 t286, .int .i64 t287, .int .i64 t288, .int .i64 t289, .string t290, .slice Ao32 t291.length co32] 53 (0, 0)) (by (with_reducible repeat (first | refine Bn_ ?_ _ | refine Bd_ ?_ | refine Ba_ ?_ _)); exact BK295.out)) (Bz_ (by repeat (first | (with_reducible first | exact HB.out | apply Pa_ | apply Pn_ | apply Pd_ | refine Bs_ ?_ GE275.out | refine Bs_ ?_ GE295.out | refine Bs_ ?_ GE304.out | refine Bs_ ?_ GE311.out) | exact HB.out))))
                    have n6_ := Am_ (Bb_ (g := gb275) (o := .cells #[.slice A0_0 l0_0.length c0_0, .int .i64 a0_1, .int .i64 a0_2] 24 (0, 0)) (by (with_reducible repeat (first | refine Bn_ ?_ _ | refine Bd_ ?_ | refine Ba_ ?_ _)); exact BK275.out) hb)
                    have n7_ := Am_ (Bb_ (g := gb295) (o := .cells #[.int .i64 t284, .int .i64 t285, .int .i64 t286, .int .i64 t287, .int .i64 t288, .int .i64 t289, .string t290, .slice Ao32 t291.length co32] 53 (0, 0)) (by (with_reducible repeat (first | refine Bn_ ?_ _ | refine Bd_ ?_ | refine Ba_ ?_ _)); exact BK295.out) hb)
                    have n8_ := Am_ (Bb_ (g := gb304) (o := .cells #[.slice Ao68 t298.length co68, .int .i64 t301, .int .i64 t302] 24 (0, 0)) (by (with_reducible repeat (first | refine Bn_ ?_ _ | refine Bd_ ?_ | refine Ba_ ?_ _)); exact BK304.out) hb)
                    have n9_ := Am_ (Bb_ (g := gb311) (o := .cells #[.slice Ao76 t305.length co76, .int .i64 t308, .int .i64 t309] 24 (0, 0)) (by (with_reducible repeat (first | refine Bn_ ?_ _ | refine Bd_ ?_ | refine Ba_ ?_ _)); exact BK311.out) hb)
                    have n10_ := Am_ (Be_ (by repeat (first | (with_reducible first | exact HB.out | apply Pa_ | apply Pn_ | apply Pd_ | refine Bs_ ?_ GE275.out | refine Bs_ ?_ GE295.out | refine Bs_ ?_ GE304.out | refine Bs_ ?_ GE311.out) | exact HB.out)) hb)
                    clear HO_296007
                    clear HO300
                    clear HO307
                    clear HO316
                    clear HO321
                    clear BK275
                    clear BK295
                    clear BK304
                    clear BK311
                    clear HB
                    have HO_296007 := n0_
                    have HO300 := n1_
                    have HO307 := n2_
                    have HO316 := n3_
                    have HO321 := n4_
                    have HO327 := n5_
                    have BK275 := n6_
                    have BK295 := n7_
                    have BK304 := n8_
                    have BK311 := n9_
                    have HB := n10_
                    clear n0_ n1_ n2_ n3_ n4_ n5_ n6_ n7_ n8_ n9_ n10_
                    (try clear hb)
                    (try clear hb2)
                    (try clear hk)
                    (try clear hi)
                    (try clear ho0)
                    refine hK.out _ _ ⟨(Bc_ BK304.out 0).trans rfl, (Bc_ BK304.out 1).trans rfl, (Bc_ BK304.out 2).trans rfl, (Bc_ BK275.out 0).trans rfl, (Bc_ BK275.out 1).trans rfl, (Bc_ BK275.out 2).trans rfl, (Bc_ BK311.out 0).trans rfl, (Bc_ BK311.out 1).trans rfl, (Bc_ BK311.out 2).trans rfl⟩ (fun hHeld => ?_)
                    clear hK K
                    refine norm_ (a' := ?_) ?_ ?_
                    rotate_left
                    ·show Act.put _ (some 120) _ = _
                     simp only [Act.put, La_, Lb_, Lc_, i64_w, i32_w]
                     rfl
                    refine one_ (i := 37) (N := some 122) #[t_,t_,t_,t_,t_,t_,t_,t_,t_,t_,t_,t_,t_,t_,t_,t_,t_,t_,t_,t_,t_,t_,t_,t_,t_,t_,t_,t_,t_,t_,t_,t_,t_,t_,t_,t_,t_,t_,f_,f_,f_] rfl rfl (one_of HT_.out (by kernel_rfl)) (by decide) (fun K hK => ?_)
                    refine goes_ Try.func13 (by kernel_rfl) rfl #[.agg #[.slice A0_0 l0_0.length c0_0, .int .i64 a0_1, .int .i64 a0_2]] (by rfl) rfl rfl (by (try simp only [List.map_toArray, List.map_cons, List.map_nil]); first | done | rfl | (simp only [List.length_drop, List.length_take]; rfl)) ?_
                    with_reducible refine (flagstonelaw09_its.calls kj42 _ _ l0_0 a0_1 a0_2 t330 t333 t334 _ ?side1 ?side2 A60.out).mono ?_
                    (case side1 => repeat (first | exact (Kd.C_below HR0_0.out HB.out) | (with_reducible refine Kd.C_alloc ?_ _) | (with_reducible refine Kd.C_drewN ?_ _) | (with_reducible refine Kd.C_drew ?_)))
                    (case side2 => exact HC0_0.out)
                    rintro e w90 ⟨v331, rfl, ho0, hb⟩
                    refine ⟨_, rfl, ?_⟩
                    have n0_ := Am_ (Kd.V_elder' (by (with_reducible repeat (first | apply Va_ | apply Vn_ | apply Vd_)); exact HO_296007.out) (Kd.S_base ho0) hb)
                    have n1_ := Am_ (Kd.V_elder' (by (with_reducible repeat (first | apply Va_ | apply Vn_ | apply Vd_)); exact HO300.out) (Kd.S_base ho0) hb)
                    have n2_ := Am_ (Kd.V_elder' (by (with_reducible repeat (first | apply Va_ | apply Vn_ | apply Vd_)); exact HO307.out) (Kd.S_base ho0) hb)
                    have n3_ := Am_ (Kd.S_elder' (by (with_reducible repeat (first | apply Kd.S_alloc | apply Kd.S_drewN | apply Kd.S_drew)); exact HO316.out) (Kd.S_base ho0) hb)
                    have n4_ := Am_ (Kd.S_elder' (by (with_reducible repeat (first | apply Kd.S_alloc | apply Kd.S_drewN | apply Kd.S_drew)); exact HO321.out) (Kd.S_base ho0) hb)
                    have n5_ := Am_ (Kd.S_elder' (by (with_reducible repeat (first | apply Kd.S_alloc | apply Kd.S_drewN | apply Kd.S_drew)); exact HO327.out) (Kd.S_base ho0) hb)
                    have n6_ := Am_ (Kd.S_lower (Kd.S_newB (Kd.S_new' (Kd.S_new' (Kd.S_new' ho0 (Kd.S_lt (by (with_reducible repeat (first | apply Kd.S_alloc | apply Kd.S_drewN | apply Kd.S_drew)); exact HO316.out))) (Kd.S_lt (by (with_reducible repeat (first | apply Kd.S_alloc | apply Kd.S_drewN | apply Kd.S_drew)); exact HO321.out))) (Kd.S_lt (by (with_reducible repeat (first | apply Kd.S_alloc | apply Kd.S_drewN | apply Kd.S_drew)); exact HO327.out))) (g := gb295) (o := .cells #[.int .i64 t284, .int .i64 t285, .int .i64 t286, .int .i64 t287, .int .i64 t288, .int .i64 t289, .string t290, .slice Ao32 t291.length co32] 53 (0, 0)) (by (with_reducible repeat (first | refine Bn_ ?_ _ | refine Bd_ ?_ | refine Ba_ ?_ _)); exact BK295.out)) (Bz_ (by repeat (first | (with_reducible first | exact HB.out | apply Pa_ | apply Pn_ | apply Pd_ | refine Bs_ ?_ GE275.out | refine Bs_ ?_ GE295.out | refine Bs_ ?_ GE304.out | refine Bs_ ?_ GE311.out) | exact HB.out))))
                    have n7_ := Am_ (Bb_ (g := gb275) (o := .cells #[.slice A0_0 l0_0.length c0_0, .int .i64 a0_1, .int .i64 a0_2] 24 (0, 0)) (by (with_reducible repeat (first | refine Bn_ ?_ _ | refine Bd_ ?_ | refine Ba_ ?_ _)); exact BK275.out) hb)
                    have n8_ := Am_ (Bb_ (g := gb295) (o := .cells #[.int .i64 t284, .int .i64 t285, .int .i64 t286, .int .i64 t287, .int .i64 t288, .int .i64 t289, .string t290, .slice Ao32 t291.length co32] 53 (0, 0)) (by (with_reducible repeat (first | refine Bn_ ?_ _ | refine Bd_ ?_ | refine Ba_ ?_ _)); exact BK295.out) hb)
                    have n9_ := Am_ (Bb_ (g := gb304) (o := .cells #[.slice Ao68 t298.length co68, .int .i64 t301, .int .i64 t302] 24 (0, 0)) (by (with_reducible repeat (first | refine Bn_ ?_ _ | refine Bd_ ?_ | refine Ba_ ?_ _)); exact BK304.out) hb)
                    have n10_ := Am_ (Bb_ (g := gb311) (o := .cells #[.slice Ao76 t305.length co76, .int .i64 t308, .int .i64 t309] 24 (0, 0)) (by (with_reducible repeat (first | refine Bn_ ?_ _ | refine Bd_ ?_ | refine Ba_ ?_ _)); exact BK311.out) hb)
                    have n11_ := Am_ (Be_ (by repeat (first | (with_reducible first | exact HB.out | apply Pa_ | apply Pn_ | apply Pd_ | refine Bs_ ?_ GE275.out | refine Bs_ ?_ GE295.out | refine Bs_ ?_ GE304.out | refine Bs_ ?_ GE311.out) | exact HB.out)) hb)
                    clear HO_296007
                    clear HO300
                    clear HO307
                    clear HO316
                    clear HO321
                    clear HO327
                    clear BK275
                    clear BK295
                    clear BK304
                    clear BK311
                    clear HB
                    have HO_296007 := n0_
                    have HO300 := n1_
                    have HO307 := n2_
                    have HO316 := n3_
                    have HO321 := n4_
                    have HO327 := n5_
                    have HO332 := n6_
                    have BK275 := n7_
                    have BK295 := n8_
                    have BK304 := n9_
                    have BK311 := n10_
                    have HB := n11_
                    clear n0_ n1_ n2_ n3_ n4_ n5_ n6_ n7_ n8_ n9_ n10_ n11_
                    (try clear hb)
                    (try clear hb2)
                    (try clear hk)
                    (try clear hi)
                    (try clear ho0)
                    obtain ⟨Ao91, co91, eo91⟩ := Kd.S_slice HO327.out
                    (first | subst eo91 | (injection eo91 with f1_ f2_ f3_; have f4_ := f1_.symm; have f5_ := f3_.symm; clear f1_ f2_ f3_; subst f4_; subst f5_))
                    obtain ⟨Ao92, co92, eo92⟩ := Kd.S_slice HO332.out
                    (first | subst eo92 | (injection eo92 with f1_ f2_ f3_; have f4_ := f1_.symm; have f5_ := f3_.symm; clear f1_ f2_ f3_; subst f4_; subst f5_))
                    refine hK.out _ _ ⟨(Bc_ BK304.out 0).trans rfl, (Bc_ BK304.out 1).trans rfl, (Bc_ BK304.out 2).trans rfl, (Bc_ BK275.out 0).trans rfl, (Bc_ BK275.out 1).trans rfl, (Bc_ BK275.out 2).trans rfl, (Bc_ BK311.out 0).trans rfl, (Bc_ BK311.out 1).trans rfl, (Bc_ BK311.out 2).trans rfl⟩ (fun hHeld => ?_)
                    clear hK K
                    refine norm_ (a' := ?_) ?_ ?_
                    rotate_left
                    ·show Act.put _ (some 122) _ = _
                     simp only [Act.put, La_, Lb_, Lc_, i64_w, i32_w]
                     rfl
                    refine one_ (i := 38) (N := some 123) #[t_,t_,t_,t_,t_,t_,t_,t_,t_,t_,t_,t_,t_,t_,t_,t_,t_,t_,t_,t_,t_,t_,t_,t_,t_,t_,t_,t_,t_,t_,t_,t_,t_,t_,t_,t_,t_,t_,t_,f_,f_] rfl rfl (one_of HT_.out (by kernel_rfl)) (by decide) (fun K hK => ?_)
                    refine goes_ Try.func20 (by kernel_rfl) rfl #[.agg #[.slice Ao91 t325.length co91, .int .i64 t328, .int .i64 t329], .agg #[.slice Ao92 t330.length co92, .int .i64 t333, .int .i64 t334]] (by rfl) rfl rfl (by (try simp only [List.map_toArray, List.map_cons, List.map_nil]); first | done | rfl | (simp only [List.length_drop, List.length_take]; rfl)) ?_
                    with_reducible refine (flagstoneref06_Same.calls kj42 _ _ t325 t328 t329 _ _ t330 t333 t334 t335 _ ?side1 ?side2 ?side3 ?side4 A61.out).mono ?_
                    (case side1 => repeat (first | exact (Kd.S_reads' HO327.out).2.2 | (with_reducible refine Kd.C_alloc ?_ _) | (with_reducible refine Kd.C_drewN ?_ _) | (with_reducible refine Kd.C_drew ?_)))
                    (case side2 => exact (Kd.S_reads' HO327.out).2.1)
                    (case side3 => repeat (first | exact (Kd.S_reads' HO332.out).2.2 | (with_reducible refine Kd.C_alloc ?_ _) | (with_reducible refine Kd.C_drewN ?_ _) | (with_reducible refine Kd.C_drew ?_)))
                    (case side4 => exact (Kd.S_reads' HO332.out).2.1)
                    rintro e w93 ⟨rfl, hb⟩
                    refine ⟨_, rfl, ?_⟩
                    have n0_ := Am_ (Vb_ (by (with_reducible repeat (first | apply Va_ | apply Vn_ | apply Vd_)); exact HO_296007.out) hb)
                    have n1_ := Am_ (Vb_ (by (with_reducible repeat (first | apply Va_ | apply Vn_ | apply Vd_)); exact HO300.out) hb)
                    have n2_ := Am_ (Vb_ (by (with_reducible repeat (first | apply Va_ | apply Vn_ | apply Vd_)); exact HO307.out) hb)
                    have n3_ := Am_ (Kd.S_below (by (with_reducible repeat (first | apply Kd.S_alloc | apply Kd.S_drewN | apply Kd.S_drew)); exact HO316.out) hb)
                    have n4_ := Am_ (Kd.S_below (by (with_reducible repeat (first | apply Kd.S_alloc | apply Kd.S_drewN | apply Kd.S_drew)); exact HO321.out) hb)
                    have n5_ := Am_ (Kd.S_below (by (with_reducible repeat (first | apply Kd.S_alloc | apply Kd.S_drewN | apply Kd.S_drew)); exact HO327.out) hb)
                    have n6_ := Am_ (Kd.S_below (by (with_reducible repeat (first | apply Kd.S_alloc | apply Kd.S_drewN | apply Kd.S_drew)); exact HO332.out) hb)
                    have n7_ := Am_ (Bb_ (g := gb275) (o := .cells #[.slice A0_0 l0_0.length c0_0, .int .i64 a0_1, .int .i64 a0_2] 24 (0, 0)) (by (with_reducible repeat (first | refine Bn_ ?_ _ | refine Bd_ ?_ | refine Ba_ ?_ _)); exact BK275.out) hb)
                    have n8_ := Am_ (Bb_ (g := gb295) (o := .cells #[.int .i64 t284, .int .i64 t285, .int .i64 t286, .int .i64 t287, .int .i64 t288, .int .i64 t289, .string t290, .slice Ao32 t291.length co32] 53 (0, 0)) (by (with_reducible repeat (first | refine Bn_ ?_ _ | refine Bd_ ?_ | refine Ba_ ?_ _)); exact BK295.out) hb)
                    have n9_ := Am_ (Bb_ (g := gb304) (o := .cells #[.slice Ao68 t298.length co68, .int .i64 t301, .int .i64 t302] 24 (0, 0)) (by (with_reducible repeat (first | refine Bn_ ?_ _ | refine Bd_ ?_ | refine Ba_ ?_ _)); exact BK304.out) hb)
                    have n10_ := Am_ (Bb_ (g := gb311) (o := .cells #[.slice Ao76 t305.length co76, .int .i64 t308, .int .i64 t309] 24 (0, 0)) (by (with_reducible repeat (first | refine Bn_ ?_ _ | refine Bd_ ?_ | refine Ba_ ?_ _)); exact BK311.out) hb)
                    have n11_ := Am_ (Be_ (by repeat (first | (with_reducible first | exact HB.out | apply Pa_ | apply Pn_ | apply Pd_ | refine Bs_ ?_ GE275.out | refine Bs_ ?_ GE295.out | refine Bs_ ?_ GE304.out | refine Bs_ ?_ GE311.out) | exact HB.out)) hb)
                    clear HO_296007
                    clear HO300
                    clear HO307
                    clear HO316
                    clear HO321
                    clear HO327
                    clear HO332
                    clear BK275
                    clear BK295
                    clear BK304
                    clear BK311
                    clear HB
                    have HO_296007 := n0_
                    have HO300 := n1_
                    have HO307 := n2_
                    have HO316 := n3_
                    have HO321 := n4_
                    have HO327 := n5_
                    have HO332 := n6_
                    have BK275 := n7_
                    have BK295 := n8_
                    have BK304 := n9_
                    have BK311 := n10_
                    have HB := n11_
                    clear n0_ n1_ n2_ n3_ n4_ n5_ n6_ n7_ n8_ n9_ n10_ n11_
                    (try clear hb)
                    (try clear hb2)
                    (try clear hk)
                    (try clear hi)
                    refine hK.out _ _ ⟨(Bc_ BK304.out 0).trans rfl, (Bc_ BK304.out 1).trans rfl, (Bc_ BK304.out 2).trans rfl, (Bc_ BK275.out 0).trans rfl, (Bc_ BK275.out 1).trans rfl, (Bc_ BK275.out 2).trans rfl, (Bc_ BK311.out 0).trans rfl, (Bc_ BK311.out 1).trans rfl, (Bc_ BK311.out 2).trans rfl⟩ (fun hHeld => ?_)
                    clear hK K
                    refine norm_ (a' := ?_) ?_ ?_
                    rotate_left
                    ·show Act.put _ (some 123) _ = _
                     simp only [Act.put, La_, Lb_, Lc_, i64_w, i32_w]
                     rfl
                    refine pure_ (i := 39) (N := some 124) (v := ?_) (a' := ?_) #[t_,t_,t_,t_,t_,t_,t_,t_,t_,t_,t_,t_,t_,t_,t_,t_,t_,t_,t_,t_,t_,t_,t_,t_,t_,t_,t_,t_,t_,t_,t_,t_,t_,t_,t_,t_,t_,t_,t_,t_,f_] rfl rfl (any_of HT_.out (by kernel_rfl)) (fun _ _ _ h => h) (Or.inl ⟨by rfl, ?_⟩) ?_ ?_
                    rotate_left
                    ·intro w'
                     go_simp
                     with_reducible rfl
                    rotate_left
                    ·simp only [Act.put, La_, Lb_, Lc_, i64_w, i32_w]
                     rfl
                    refine pure_ (i := 40) (N := some 10) (v := ?_) (a' := ?_) #[t_,t_,t_,t_,t_,t_,t_,t_,t_,t_,t_,t_,t_,t_,t_,t_,t_,t_,t_,t_,t_,t_,t_,t_,t_,t_,t_,t_,t_,t_,t_,t_,t_,t_,t_,t_,t_,t_,t_,t_,t_] rfl rfl (any_of HT_.out (by kernel_rfl)) (fun _ _ _ h => h) (Or.inl ⟨by rfl, ?_⟩) ?_ ?_
                    rotate_left
                    ·intro w'
                     go_simp
                     with_reducible rfl
                    rotate_left
                    ·simp only [Act.put, La_, Lb_, Lc_, i64_w, i32_w]
                     rfl
                    refine done_ (done_of HT_.out (by kernel_rfl)) ?_
                    try go_wp2
                    go_ret
                    exact ⟨by first | rfl | (simp [errW_none, errW_some] <;> rfl) | (simp [*, errW_none, errW_some] <;> rfl), by repeat (first | (with_reducible first | exact HB.out | apply Pa_ | apply Pn_ | apply Pd_ | refine Bs_ ?_ GE275.out | refine Bs_ ?_ GE295.out | refine Bs_ ?_ GE304.out | refine Bs_ ?_ GE311.out) | exact HB.out)⟩
                   ·replace c58 := Bool.eq_false_iff.mpr c58
                    subst c58
                    have H1 : (none) = some r := by rw [if_neg (show ¬ (false = true) by decide)] at H; exact H
                    clear H
                    have H := H1
                    clear H1
                    exact absurd H (by simp)
                  ·rw [if_neg c54] at H
                   have c54b0 : (t313 == x13_42) = false := beq_eq_false_iff_ne.mpr c54
                   have c54b1 : (t313 != x13_42) = true := bne_iff_ne.mpr c54
                   exact absurd H (by simp)
                 ·rw [if_neg c53] at H
                  have c53b0 : (t310 == x13_42) = false := beq_eq_false_iff_ne.mpr c53
                  have c53b1 : (t310 != x13_42) = true := bne_iff_ne.mpr c53
                  exact absurd H (by simp)
                ·rw [if_neg c52] at H
                 have c52b0 : (t303 == x13_42) = false := beq_eq_false_iff_ne.mpr c52
                 have c52b1 : (t303 != x13_42) = true := bne_iff_ne.mpr c52
                 exact absurd H (by simp)
               ·rw [if_neg c51] at H
                have c51b0 : (t297 == x13_42) = false := beq_eq_false_iff_ne.mpr c51
                have c51b1 : (t297 != x13_42) = true := bne_iff_ne.mpr c51
                exact absurd H (by simp)
              ·rw [if_neg c50] at H
               have c50b0 : (t312 == 0) = false := beq_eq_false_iff_ne.mpr c50
               have c50b1 : (t312 != 0) = true := bne_iff_ne.mpr c50
               exact absurd H (by simp)
             ·rw [if_neg c49] at H
              have c49b0 : (t296.toList == ([] : List UInt8)) = false := beq_eq_false_iff_ne.mpr c49
              have c49b1 : (t296.toList != ([] : List UInt8)) = true := bne_iff_ne.mpr c49
              exact absurd H (by simp)

end Go.Proofs.Ytpeelfambaedkaa.P
