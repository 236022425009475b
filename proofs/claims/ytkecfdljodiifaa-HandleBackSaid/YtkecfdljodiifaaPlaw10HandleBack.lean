-- Printed by a program of this session (inject.py) over the kit's print, with functions that were proved by hand in their places.
import Derived.Test.YtkecfdljodiifaaPK
import Derived.Test.YtkecfdljodiifaaPEq38
import Derived.Test.YtkecfdljodiifaaPhandleOpen
import Derived.Test.YtkecfdljodiifaaPhandleGet
import Derived.Test.YtkecfdljodiifaaPhandleClose
import Derived.Test.YtkecfdljodiifaaPhandleCount
import Derived.Test.YtkecfdljodiifaaPhandleDup
import Derived.Test.YtkecfdljodiifaaPlaw10shown
import Derived.Test.YtkecfdljodiifaaPlaw10its
import Derived.Test.YtkecfdljodiifaaPref10Same
import Derived.Test.YtkecfdljodiifaaPlaw10fine
import Derived.Test.YtkecfdljodiifaaPlaw10padded
namespace Go.Proofs.Ytkecfdljodiifaa.P
open Go.RowKit Go.Proofs.YtkecfdljodiifaaW.PrintWords Go.Proofs.YtkecfdljodiifaaW.PrintLast Go.Proofs.YtkecfdljodiifaaW.PrintMore
attribute [local go_sem] max2_int min2_int max_two min_two max_three min_three max_four min_four   -- for this text's walks alone
set_option linter.unusedVariables false
set_option linter.unusedSimpArgs false

attribute [local go_sem high] eqA38
/-! ### flagstonelaw10_HandleBack: function 4 -/
mutual
def flagstonelaw10_HandleBack.j0 : Nat → Int → Int → Bool → List (S38) → List (List Int) → Int → Int → Bool → Bool → Int → Int → Option (Bool)
 | 0, _, _, _, _, _, _, _, _, _, _, _ => none
 | k + 1, x1, x2, x36, x651000, x651001, x652000, x652001, x652002, x652003, x652004, x652005 => if x36 = true then ((flagstonelaw10_shown.f k).bind fun t654 => (some t654)) else ((handle_Open.f x651000 x651001 x1 x652000 x652001 x652002 x652003 x652004 x652005).bind fun bt655 => (if bt655.2.2.2 = 0 then ((handle_Get.f bt655.1 bt655.2.1 x1 bt655.2.2.1).bind fun bt664 => ((handle_Close.f bt655.1 bt655.2.1 x1 bt655.2.2.1).bind fun bt673 => (if bt664.2.2.2.2.2.2.2 = true then (if (!(bt664.2.1 == x652000) || (!(bt664.2.2.1 == x652001) || (!(bt664.2.2.2.1 == x652002) || (!(bt664.2.2.2.2.1 == x652003) || (!(bt664.2.2.2.2.2.1 == 1) || (!(bt664.2.2.2.2.2.2.1 == x652005))))))) = true then (none) else (if bt673.2.2.2.2.2.2.2.2 = 0 then (if bt673.2.2.2.2.2.2.1 = 0 then (if bt673.2.2.1 = x652000 then ((handle_Count.f k bt655.1 bt655.2.1 x1).bind fun t688 => ((handle_Count.f k x651000 x651001 x1).bind fun t689 => (if t688 = (wrap64 (t689 + 1)) then ((flagstonelaw10_its.f k bt673.1 bt673.2.1).bind fun bt690 => ((flagstonelaw10_padded.f k x651000 x651001 bt664.1).bind fun bt696 => ((flagstoneref10_Same.f k bt690.1 bt690.2 bt696.1 bt696.2).bind fun t702 => (if t702 = true then (flagstonelaw10_HandleBack.j1 k x1 x2 x651000 x651001) else (none))))) else (none)))) else (none)) else (none)) else (none))) else (none)))) else (flagstonelaw10_HandleBack.j1 k x1 x2 x651000 x651001)))
def flagstonelaw10_HandleBack.j1 : Nat → Int → Int → List (S38) → List (List Int) → Option (Bool)
 | 0, _, _, _, _ => none
 | k + 1, x1, x2, x651000, x651001 => (handle_Dup.f x651000 x651001 x1 x2).bind fun bt703 => (if bt703.2.2.2 = 0 then ((handle_Get.f bt703.1 bt703.2.1 x1 bt703.2.2.1).bind fun bt712 => ((handle_Get.f x651000 x651001 x1 x2).bind fun bt721 => ((handle_Close.f bt703.1 bt703.2.1 x1 bt703.2.2.1).bind fun bt730 => (if bt712.2.2.2.2.2.2.2 = true then (if bt721.2.2.2.2.2.2.2 = true then (if bt712.1 = bt721.1 then (if bt712.2.2.2.2.2.1 = (wrap64 (bt721.2.2.2.2.2.1 + 1)) then (if bt730.2.2.2.2.2.2.2.2 = 0 then ((flagstonelaw10_its.f k bt730.1 bt730.2.1).bind fun bt745 => ((flagstonelaw10_its.f k x651000 x651001).bind fun bt751 => ((flagstoneref10_Same.f k bt745.1 bt745.2 bt751.1 bt751.2).bind fun t757 => (if t757 = true then (some true) else (none))))) else (none)) else (none)) else (none)) else (none)) else (none))))) else (some true))
end
def flagstonelaw10_HandleBack.f (k : Nat) (l0_0 : List (S38)) (l0_1 : List (List Int)) (a1 : Int) (a2 : Int) (a3_0 : Int) (a3_1 : Int) (a3_2 : Bool) (a3_3 : Bool) (a3_4 : Int) (a3_5 : Int) : Option (Bool) := (flagstonelaw10_fine.f k l0_0 l0_1).bind fun t652 => (if t652 = true then ((flagstonelaw10_shown.f k).bind fun t653 => (flagstonelaw10_HandleBack.j0 k a1 a2 (!t653) l0_0 l0_1 a3_0 a3_1 a3_2 a3_3 a3_4 a3_5)) else (flagstonelaw10_HandleBack.j0 k a1 a2 true l0_0 l0_1 a3_0 a3_1 a3_2 a3_3 a3_4 a3_5))
theorem flagstonelaw10_HandleBack.mono_l : ∀ k, (∀ y0 y1 y2 y3 y4 y5 y6 y7 y8 y9 y10, LeO (flagstonelaw10_HandleBack.j0 k y0 y1 y2 y3 y4 y5 y6 y7 y8 y9 y10) (flagstonelaw10_HandleBack.j0 (k + 1) y0 y1 y2 y3 y4 y5 y6 y7 y8 y9 y10)) ∧ (∀ y0 y1 y2 y3, LeO (flagstonelaw10_HandleBack.j1 k y0 y1 y2 y3) (flagstonelaw10_HandleBack.j1 (k + 1) y0 y1 y2 y3))
 | 0 => ⟨fun _ _ _ _ _ _ _ _ _ _ _ r h => by simp [flagstonelaw10_HandleBack.j0] at h, fun _ _ _ _ r h => by simp [flagstonelaw10_HandleBack.j1] at h⟩
 | k + 1 => by
  obtain ⟨ih0, ih1⟩ := flagstonelaw10_HandleBack.mono_l k
  refine ⟨?_, ?_⟩
  ·intro y0 y1 y2 y3 y4 y5 y6 y7 y8 y9 y10
   unfold flagstonelaw10_HandleBack.j0
   repeat' first
   | (with_reducible exact ih0 _ _ _ _ _ _ _ _ _ _ _)
   | (with_reducible exact ih1 _ _ _ _)
   | (with_reducible exact flagstonelaw10_fine.mono _ _ _)
   | (with_reducible exact flagstonelaw10_its.mono _ _ _)
   | (with_reducible exact flagstonelaw10_padded.mono _ _ _ _)
   | (with_reducible exact flagstonelaw10_shown.mono _)
   | (with_reducible exact flagstoneref10_Same.mono _ _ _ _ _)
   | (with_reducible exact handle_Count.mono _ _ _ _)
   | (with_reducible exact LeO.refl _)
   | (with_reducible exact LeO.none _)
   | (with_reducible refine LeO.ite ?_ ?_)
   | (with_reducible refine LeO.bind ?_ (fun _ => ?_))
   | exact ih0 _ _ _ _ _ _ _ _ _ _ _
   | exact ih1 _ _ _ _
   | exact flagstonelaw10_fine.mono _ _ _
   | exact flagstonelaw10_its.mono _ _ _
   | exact flagstonelaw10_padded.mono _ _ _ _
   | exact flagstonelaw10_shown.mono _
   | exact flagstoneref10_Same.mono _ _ _ _ _
   | exact handle_Count.mono _ _ _ _
   | exact LeO.none _
   | refine LeO.ite ?_ ?_
   | refine LeO.bind ?_ (fun _ => ?_)
  ·intro y0 y1 y2 y3
   unfold flagstonelaw10_HandleBack.j1
   repeat' first
   | (with_reducible exact ih0 _ _ _ _ _ _ _ _ _ _ _)
   | (with_reducible exact ih1 _ _ _ _)
   | (with_reducible exact flagstonelaw10_fine.mono _ _ _)
   | (with_reducible exact flagstonelaw10_its.mono _ _ _)
   | (with_reducible exact flagstonelaw10_padded.mono _ _ _ _)
   | (with_reducible exact flagstonelaw10_shown.mono _)
   | (with_reducible exact flagstoneref10_Same.mono _ _ _ _ _)
   | (with_reducible exact handle_Count.mono _ _ _ _)
   | (with_reducible exact LeO.refl _)
   | (with_reducible exact LeO.none _)
   | (with_reducible refine LeO.ite ?_ ?_)
   | (with_reducible refine LeO.bind ?_ (fun _ => ?_))
   | exact ih0 _ _ _ _ _ _ _ _ _ _ _
   | exact ih1 _ _ _ _
   | exact flagstonelaw10_fine.mono _ _ _
   | exact flagstonelaw10_its.mono _ _ _
   | exact flagstonelaw10_padded.mono _ _ _ _
   | exact flagstonelaw10_shown.mono _
   | exact flagstoneref10_Same.mono _ _ _ _ _
   | exact handle_Count.mono _ _ _ _
   | exact LeO.none _
   | refine LeO.ite ?_ ?_
   | refine LeO.bind ?_ (fun _ => ?_)
theorem flagstonelaw10_HandleBack.mono : ∀ a0 a1 a2 a3 a4 a5 a6 a7 a8 a9 k, LeO (flagstonelaw10_HandleBack.f k a0 a1 a2 a3 a4 a5 a6 a7 a8 a9) (flagstonelaw10_HandleBack.f (k + 1) a0 a1 a2 a3 a4 a5 a6 a7 a8 a9) := by
 intro a0 a1 a2 a3 a4 a5 a6 a7 a8 a9 k
 obtain ⟨ih0, ih1⟩ := flagstonelaw10_HandleBack.mono_l k
 unfold flagstonelaw10_HandleBack.f
 repeat' first
   | (with_reducible exact ih0 _ _ _ _ _ _ _ _ _ _ _)
   | (with_reducible exact ih1 _ _ _ _)
   | (with_reducible exact flagstonelaw10_fine.mono _ _ _)
   | (with_reducible exact flagstonelaw10_its.mono _ _ _)
   | (with_reducible exact flagstonelaw10_padded.mono _ _ _ _)
   | (with_reducible exact flagstonelaw10_shown.mono _)
   | (with_reducible exact flagstoneref10_Same.mono _ _ _ _ _)
   | (with_reducible exact handle_Count.mono _ _ _ _)
   | (with_reducible exact LeO.refl _)
   | (with_reducible exact LeO.none _)
   | (with_reducible refine LeO.ite ?_ ?_)
   | (with_reducible refine LeO.bind ?_ (fun _ => ?_))
   | exact ih0 _ _ _ _ _ _ _ _ _ _ _
   | exact ih1 _ _ _ _
   | exact flagstonelaw10_fine.mono _ _ _
   | exact flagstonelaw10_its.mono _ _ _
   | exact flagstonelaw10_padded.mono _ _ _ _
   | exact flagstonelaw10_shown.mono _
   | exact flagstoneref10_Same.mono _ _ _ _ _
   | exact handle_Count.mono _ _ _ _
   | exact LeO.none _
   | refine LeO.ite ?_ ?_
   | refine LeO.bind ?_ (fun _ => ?_)
def flagstonelaw10_HandleBack.T8 : Bool × List (List Nat × List Nat) := (true, [([], []), ([0], [0]), ([1], [1]), ([2], [2]), ([2], [2]), ([3, 4, 2], [2, 3, 4]), ([2, 5], [2, 5]), ([6, 2], [6]), ([7], [7]), ([8, 7], [7, 8]), ([7, 9], [7, 9]), ([10, 7], [10]), ([11], [11]), ([12, 11], [11, 12]), ([13, 11], [11, 13]), ([11, 14], [11, 14]), ([15, 11], [15]), ([16], [16]), ([17, 16], [16, 17]), ([16], [16]), ([19, 16], [16, 19]), ([18, 20, 16], [16, 18, 20]), ([16, 21], [16, 21]), ([22, 16], [22]), ([23], [23]), ([23], [23]), ([24, 25, 23, 23], [23, 24, 25]), ([23], [23]), ([23], [23]), ([27, 28, 26, 23], [23, 27, 28]), ([29, 23], [23, 29]), ([26, 30, 23], [23, 26, 30]), ([23, 31], [23, 31]), ([32, 29], [32]), ([33], [33]), ([34, 33, 33], [33, 34]), ([33], [33]), ([33], [33]), ([36, 37, 35, 33], [33, 36, 37]), ([35, 38, 38, 33], [33, 35, 38]), ([39, 33], [33, 39]), ([33, 40], [33, 40])])
def flagstonelaw10_HandleBack.B8 : List Nat := [0, 1, 3, 7, 7, 31, 63, 127, 255, 511, 1023, 2047, 4095, 8191, 16383, 32767, 65535, 131071, 262143, 131071, 655359, 2097151, 4194303, 8388607, 16777215, 16777215, 67108863, 16777215, 16777215, 536870911, 1073741823, 2147483647, 4294967295, 8589934591, 17179869183, 34359738367, 17179869183, 17179869183, 274877906943, 549755813887, 1099511627775, 2199023255551]
theorem flagstonelaw10_HandleBack.tab8 : rtab .any (opsOf Try.f4 8) = flagstonelaw10_HandleBack.T8 := by kernel_rfl
theorem flagstonelaw10_HandleBack.bits8 : waitsOk flagstonelaw10_HandleBack.T8.2 flagstonelaw10_HandleBack.B8 = true := by kernel_rfl
def flagstonelaw10_HandleBack.T15 : Bool × List (List Nat × List Nat) := (true, [([], []), ([0], [0]), ([1], [1]), ([2], [2]), ([3, 2], [2, 3]), ([2, 4], [2, 4]), ([5, 2], [5]), ([6], [6]), ([6], [6]), ([7, 8, 6], [6, 7, 8]), ([6, 9], [6, 9]), ([10, 6], [10]), ([11], [11]), ([12, 11], [11, 12]), ([11], [11]), ([14, 11], [11, 14]), ([15, 11], [11, 15]), ([13, 16, 11], [11, 13, 16]), ([11, 17], [11, 17]), ([18, 11], [18]), ([19], [19]), ([20, 19], [19, 20]), ([19, 21], [19, 21]), ([22, 19], [22]), ([23], [23]), ([24, 23, 23], [23, 24]), ([23], [23]), ([26, 25, 23], [23, 26]), ([25, 27, 27, 23], [23, 25, 27]), ([28, 23], [23, 28]), ([23, 29], [23, 29])])
def flagstonelaw10_HandleBack.B15 : List Nat := [0, 1, 3, 7, 15, 31, 63, 127, 127, 511, 1023, 2047, 4095, 8191, 4095, 20479, 53247, 131071, 262143, 524287, 1048575, 2097151, 4194303, 8388607, 16777215, 33554431, 16777215, 134217727, 268435455, 536870911, 1073741823]
theorem flagstonelaw10_HandleBack.tab15 : rtab .any (opsOf Try.f4 15) = flagstonelaw10_HandleBack.T15 := by kernel_rfl
theorem flagstonelaw10_HandleBack.bits15 : waitsOk flagstonelaw10_HandleBack.T15.2 flagstonelaw10_HandleBack.B15 = true := by kernel_rfl
set_option maxHeartbeats 8000000 in
set_option maxRecDepth 100000 in
theorem flagstonelaw10_HandleBack.calls (k : Nat) (A0_0 : Option Addr) (c0_0 : Nat) (l0_0 : List (S38)) (A0_1 : Option Addr) (c0_1 : Nat) (l0_1 : List (List Int)) (a1 : Int) (a2 : Int) (a3_0 : Int) (a3_1 : Int) (a3_2 : Bool) (a3_3 : Bool) (a3_4 : Int) (a3_5 : Int) (r : Bool) (w : World) (hr0_0 : Kd.C k38 w A0_0 l0_0.length l0_0) (hc0_0 : l0_0.length ≤ c0_0) (hr0_1 : Kd.C (Kd.slice 3 (Kd.int .i64)) w A0_1 l0_1.length l0_1) (hc0_1 : l0_1.length ≤ c0_1) (h : flagstonelaw10_HandleBack.f k l0_0 l0_1 a1 a2 a3_0 a3_1 a3_2 a3_3 a3_4 a3_5 = some r) :
  Calls Try.prog 4 #[.agg #[.slice A0_0 l0_0.length c0_0, .slice A0_1 l0_1.length c0_1], .int .i64 a1, .int .i64 a2, .agg #[.int .i64 a3_0, .int .i64 a3_1, .bool a3_2, .bool a3_3, .int .i64 a3_4, .int .i64 a3_5]] w fun e w' => e = .returned (.bool r) ∧ Below w.heap.size w w' := by
 have hu25 := Try.underlying25
 have hu38 := Try.underlying38
 have HR0_0 := Am_ hr0_0
 have HC0_0 := Am_ hc0_0
 clear hr0_0 hc0_0
 have HR0_1 := Am_ hr0_1
 have HC0_1 := Am_ hc0_1
 clear hr0_1 hc0_1
 have HB := Am_ (Below.refl w.heap.size w)
 have H : ((flagstonelaw10_fine.f k l0_0 l0_1).bind fun t652 => (if t652 = true then ((flagstonelaw10_shown.f k).bind fun t653 => (flagstonelaw10_HandleBack.j0 k a1 a2 (!t653) l0_0 l0_1 a3_0 a3_1 a3_2 a3_3 a3_4 a3_5)) else (flagstonelaw10_HandleBack.j0 k a1 a2 true l0_0 l0_1 a3_0 a3_1 a3_2 a3_3 a3_4 a3_5))) = some r := h
 clear h
 have HC5 := Am_ H
 clear H
 go_enter Try.func4, Try.ntmps4
 go_upto_region 1 with (first | ((with_reducible refine gate_dst (N := 4) rfl ?_); refine box_event ?hg (N := 4) ?hd (cs := #[.slice A0_0 l0_0.length c0_0, .slice A0_1 l0_1.length c0_1]) (t := 25) ?hr ?_; (case hd => rfl); (case hg => rfl); (case hr => go_simp; try rfl); intro gb650 hg w6 hbox hb; have n0_ := Am_ (Be_ (Pb0_ HB.out) hb); have n1_ := Am_ (hbox); have n2_ := Am_ ((by rw [hg]; exact (Bz_ (Pb0_ HB.out)) : w.heap.size ≤ gb650)); have n3_ := Am_ ((by rw [hg]; exact (Bz_ (Pb0_ HB.out)) : w.heap.size ≤ gb650)); clear HB; have HB := n0_; have BK650 := n1_; have GW650 := n2_; have GE650 := n3_; clear n0_ n1_ n2_ n3_; clear hb hbox hg) | ((with_reducible refine gate_dst (N := 7) rfl ?_); refine box_event ?hg (N := 7) ?hd (cs := #[.int .i64 a3_0, .int .i64 a3_1, .bool a3_2, .bool a3_3, .int .i64 a3_4, .int .i64 a3_5]) (t := 38) ?hr ?_; (case hd => rfl); (case hg => rfl); (case hr => go_simp; try rfl); intro gb651 hg w7 hbox hb; have n0_ := Am_ (Bb_ (g := gb650) (o := .cells #[.slice A0_0 l0_0.length c0_0, .slice A0_1 l0_1.length c0_1] 25 (0, 0)) (Pk_ BK650.out) hb); have n1_ := Am_ (Be_ (Pb1_ HB.out GE650.out) hb); have n2_ := Am_ (hbox); have n3_ := Am_ ((by rw [hg]; exact (Bz_ (Pb1_ HB.out GE650.out)) : w.heap.size ≤ gb651)); have n4_ := Am_ ((by rw [hg]; exact (Bz_ (Pb1_ HB.out GE650.out)) : w.heap.size ≤ gb651)); have n5_ := Am_ ((by rw [hg]; exact Nat.ne_of_lt (blk_lt (g := gb650) (o := .cells #[.slice A0_0 l0_0.length c0_0, .slice A0_1 l0_1.length c0_1] 25 (0, 0)) (Pk_ BK650.out)) : gb650 ≠ gb651)); have n6_ := Am_ ((by rw [hg]; exact Nat.ne_of_gt (blk_lt (g := gb650) (o := .cells #[.slice A0_0 l0_0.length c0_0, .slice A0_1 l0_1.length c0_1] 25 (0, 0)) (Pk_ BK650.out)) : gb651 ≠ gb650)); clear BK650; clear HB; have BK650 := n0_; have HB := n1_; have BK651 := n2_; have GW651 := n3_; have GE651 := n4_; have NB650_651 := n5_; have NB651_650 := n6_; clear n0_ n1_ n2_ n3_ n4_ n5_ n6_; clear hb hbox hg))
 (try simp only [Act.put, La_, Lb_, Lc_])
 go_cut [36] (fun v36 wc => ∃ (kq : Nat) (x36_4 : Bool), v36 = .bool x36_4 ∧ Aside0 (flagstonelaw10_HandleBack.j0 kq a1 a2 x36_4 l0_0 l0_1 a3_0 a3_1 a3_2 a3_3 a3_4 a3_5 = some r) ∧ Aside0 (kq ≤ k) ∧ Aside0 (wc.heap[gb650]? = some (.cells #[(.slice A0_0 l0_0.length c0_0), (.slice A0_1 l0_1.length c0_1)] 25 (0, 0))) ∧ Aside0 (wc.heap[gb651]? = some (.cells #[.int .i64 a3_0, .int .i64 a3_1, .bool a3_2, .bool a3_3, .int .i64 a3_4, .int .i64 a3_5] 38 (0, 0))) ∧ Aside0 (Below w.heap.size w wc))
 case first =>
  have H := HC5.out
  clear HC5
  replace H := Option.bind_eq_some_iff.mp H
  obtain ⟨t652, A80, H⟩ := H
  replace H : (if t652 = true then ((flagstonelaw10_shown.f k).bind fun t653 => (flagstonelaw10_HandleBack.j0 k a1 a2 (!t653) l0_0 l0_1 a3_0 a3_1 a3_2 a3_3 a3_4 a3_5)) else (flagstonelaw10_HandleBack.j0 k a1 a2 true l0_0 l0_1 a3_0 a3_1 a3_2 a3_3 a3_4 a3_5)) = some r := H
  have A8 := Am_ A80
  clear A80
  by_cases c9 : t652 = true
  ·subst c9
   have H1 : ((flagstonelaw10_shown.f k).bind fun t653 => (flagstonelaw10_HandleBack.j0 k a1 a2 (!t653) l0_0 l0_1 a3_0 a3_1 a3_2 a3_3 a3_4 a3_5)) = some r := by rw [if_pos rfl] at H; exact H
   clear H
   have H := H1
   clear H1
   replace H := Option.bind_eq_some_iff.mp H
   obtain ⟨t653, A100, H⟩ := H
   replace H : (flagstonelaw10_HandleBack.j0 k a1 a2 (!t653) l0_0 l0_1 a3_0 a3_1 a3_2 a3_3 a3_4 a3_5) = some r := H
   have A10 := Am_ A100
   clear A100
   have H' := Am_ H
   clear H
   have hnb11 := NB650_651.out
   have hnc11 := NB651_650.out
   obtain ⟨hcz12_0, hcz12_1, hfz12_0, hfz12_1⟩ := Ce2_ BK650.out
   go_wp2_with (first | ((with_reducible refine gate_callee (f := 18) rfl ?_); refine goesL_ (some 31) rfl rfl Try.func18 (by kernel_rfl) rfl #[.agg #[.slice A0_0 l0_0.length c0_0, .slice A0_1 l0_1.length c0_1]] rfl (by (try simp only [List.map_toArray, List.map_cons, List.map_nil]); first | done | rfl | (simp only [List.length_drop, List.length_take]; rfl)) ?_; (with_reducible refine (flagstonelaw10_fine.calls k _ _ l0_0 _ _ l0_1 true _ ?side1 ?side2 ?side3 ?side4 A8.out).mono ?_); (case side1 => repeat (first | exact (Kd.C_below HR0_0.out HB.out) | (with_reducible refine Kd.C_alloc ?_ _) | (with_reducible refine Kd.C_drewN ?_ _) | (with_reducible refine Kd.C_drew ?_))); (case side2 => exact HC0_0.out); (case side3 => repeat (first | exact (Kd.C_below HR0_1.out HB.out) | (with_reducible refine Kd.C_alloc ?_ _) | (with_reducible refine Kd.C_drewN ?_ _) | (with_reducible refine Kd.C_drew ?_))); (case side4 => exact HC0_1.out); rintro e w13 ⟨rfl, hb⟩; refine ⟨_, rfl, ?_⟩; have n0_ := Am_ (Bb_ (g := gb650) (o := .cells #[.slice A0_0 l0_0.length c0_0, .slice A0_1 l0_1.length c0_1] 25 (0, 0)) (Pk_ BK650.out) hb); have n1_ := Am_ (Bb_ (g := gb651) (o := .cells #[.int .i64 a3_0, .int .i64 a3_1, .bool a3_2, .bool a3_3, .int .i64 a3_4, .int .i64 a3_5] 38 (0, 0)) (Pk_ BK651.out) hb); have n2_ := Am_ (Be_ (Pb2_ HB.out GE650.out GE651.out) hb); clear BK650; clear BK651; clear HB; have BK650 := n0_; have BK651 := n1_; have HB := n2_; clear n0_ n1_ n2_; (try clear hb); (try clear hb2); (try clear hk); (try clear hi)) | (go_at_call 11; (with_reducible refine (flagstonelaw10_shown.calls k  t653 _ A10.out).mono ?_); rintro e w14 ⟨rfl, hb⟩; have n0_ := Am_ (Bb_ (g := gb650) (o := .cells #[.slice A0_0 l0_0.length c0_0, .slice A0_1 l0_1.length c0_1] 25 (0, 0)) (Pk_ BK650.out) hb); have n1_ := Am_ (Bb_ (g := gb651) (o := .cells #[.int .i64 a3_0, .int .i64 a3_1, .bool a3_2, .bool a3_3, .int .i64 a3_4, .int .i64 a3_5] 38 (0, 0)) (Pk_ BK651.out) hb); have n2_ := Am_ (Be_ (Pb2_ HB.out GE650.out GE651.out) hb); clear BK650; clear BK651; clear HB; have BK650 := n0_; have BK651 := n1_; have HB := n2_; clear n0_ n1_ n2_; (try clear hb); (try clear hb2); (try clear hk); (try clear hi)))
   go_meet
   case rel => exact ⟨_, (!t653), (by first | rfl | (simp; done) | (simp [*]; done)), H', ⟨by first | omega | exact Nat.le_refl _⟩, ⟨by (with_reducible repeat (first | refine Bn_ ?_ _ | refine Bd_ ?_ | refine Ba_ ?_ _)); exact BK650.out⟩, ⟨by (with_reducible repeat (first | refine Bn_ ?_ _ | refine Bd_ ?_ | refine Ba_ ?_ _)); exact BK651.out⟩, ⟨by repeat (first | (with_reducible first | exact HB.out | apply Pa_ | apply Pn_ | apply Pd_ | refine Bs_ ?_ GE650.out | refine Bs_ ?_ GE651.out) | exact HB.out)⟩⟩
  ·replace c9 := Bool.eq_false_iff.mpr c9
   subst c9
   have H1 : (flagstonelaw10_HandleBack.j0 k a1 a2 true l0_0 l0_1 a3_0 a3_1 a3_2 a3_3 a3_4 a3_5) = some r := by rw [if_neg (show ¬ (false = true) by decide)] at H; exact H
   clear H
   have H := H1
   clear H1
   have H' := Am_ H
   clear H
   have hnb15 := NB650_651.out
   have hnc15 := NB651_650.out
   obtain ⟨hcz16_0, hcz16_1, hfz16_0, hfz16_1⟩ := Ce2_ BK650.out
   go_wp2_with (first | ((with_reducible refine gate_callee (f := 18) rfl ?_); refine goesL_ (some 31) rfl rfl Try.func18 (by kernel_rfl) rfl #[.agg #[.slice A0_0 l0_0.length c0_0, .slice A0_1 l0_1.length c0_1]] rfl (by (try simp only [List.map_toArray, List.map_cons, List.map_nil]); first | done | rfl | (simp only [List.length_drop, List.length_take]; rfl)) ?_; (with_reducible refine (flagstonelaw10_fine.calls k _ _ l0_0 _ _ l0_1 false _ ?side1 ?side2 ?side3 ?side4 A8.out).mono ?_); (case side1 => repeat (first | exact (Kd.C_below HR0_0.out HB.out) | (with_reducible refine Kd.C_alloc ?_ _) | (with_reducible refine Kd.C_drewN ?_ _) | (with_reducible refine Kd.C_drew ?_))); (case side2 => exact HC0_0.out); (case side3 => repeat (first | exact (Kd.C_below HR0_1.out HB.out) | (with_reducible refine Kd.C_alloc ?_ _) | (with_reducible refine Kd.C_drewN ?_ _) | (with_reducible refine Kd.C_drew ?_))); (case side4 => exact HC0_1.out); rintro e w17 ⟨rfl, hb⟩; refine ⟨_, rfl, ?_⟩; have n0_ := Am_ (Bb_ (g := gb650) (o := .cells #[.slice A0_0 l0_0.length c0_0, .slice A0_1 l0_1.length c0_1] 25 (0, 0)) (Pk_ BK650.out) hb); have n1_ := Am_ (Bb_ (g := gb651) (o := .cells #[.int .i64 a3_0, .int .i64 a3_1, .bool a3_2, .bool a3_3, .int .i64 a3_4, .int .i64 a3_5] 38 (0, 0)) (Pk_ BK651.out) hb); have n2_ := Am_ (Be_ (Pb2_ HB.out GE650.out GE651.out) hb); clear BK650; clear BK651; clear HB; have BK650 := n0_; have BK651 := n1_; have HB := n2_; clear n0_ n1_ n2_; (try clear hb); (try clear hb2); (try clear hk); (try clear hi)))
   go_meet
   case rel => exact ⟨_, (true), (by first | rfl | (simp; done) | (simp [*]; done)), H', ⟨by first | omega | exact Nat.le_refl _⟩, ⟨by (with_reducible repeat (first | refine Bn_ ?_ _ | refine Bd_ ?_ | refine Ba_ ?_ _)); exact BK650.out⟩, ⟨by (with_reducible repeat (first | refine Bn_ ?_ _ | refine Bd_ ?_ | refine Ba_ ?_ _)); exact BK651.out⟩, ⟨by repeat (first | (with_reducible first | exact HB.out | apply Pa_ | apply Pn_ | apply Pd_ | refine Bs_ ?_ GE650.out | refine Bs_ ?_ GE651.out) | exact HB.out)⟩⟩
 case rest =>
  clear HC5
  try clear c1
  try clear p2
  try clear c4
  try clear c9
  try clear c11
  try clear c15
  try clear hcz12_0
  try clear hcz12_1
  try clear hcz16_0
  try clear hcz16_1
  try clear hfz12_0
  try clear hfz12_1
  try clear hfz16_0
  try clear hfz16_1
  obtain ⟨kq, x36_4, rfl, HA, HJ4, BK650, BK651, HB⟩ := hcut
  cases kq with
  | zero => exact absurd HA.out (by simp [flagstonelaw10_HandleBack.j0])
  | succ kj4 =>
   have H := HA.out
   clear HA
   simp only [flagstonelaw10_HandleBack.j0] at H
   by_cases c18 : x36_4 = true
   ·subst c18
    have H1 : ((flagstonelaw10_shown.f kj4).bind fun t654 => (some t654)) = some r := by rw [if_pos rfl] at H; exact H
    clear H
    have H := H1
    clear H1
    replace H := Option.bind_eq_some_iff.mp H
    obtain ⟨t654, A190, H⟩ := H
    replace H : (some t654) = some r := H
    have A19 := Am_ A190
    clear A190
    obtain rfl := Option.some.inj H
    go_wp2_with (first | ((with_reducible refine gate_callee (f := 11) rfl ?_); refine goesL_ (some 37) rfl rfl Try.func11 (by kernel_rfl) rfl #[] rfl (by (try simp only [List.map_toArray, List.map_cons, List.map_nil]); first | done | rfl | (simp only [List.length_drop, List.length_take]; rfl)) ?_; (with_reducible refine (flagstonelaw10_shown.calls kj4  t654 _ A19.out).mono ?_); rintro e w20 ⟨rfl, hb⟩; refine ⟨_, rfl, ?_⟩; have n0_ := Am_ (Bb_ (g := gb650) (o := .cells #[.slice A0_0 l0_0.length c0_0, .slice A0_1 l0_1.length c0_1] 25 (0, 0)) (Pk_ BK650.out) hb); have n1_ := Am_ (Bb_ (g := gb651) (o := .cells #[.int .i64 a3_0, .int .i64 a3_1, .bool a3_2, .bool a3_3, .int .i64 a3_4, .int .i64 a3_5] 38 (0, 0)) (Pk_ BK651.out) hb); have n2_ := Am_ (Be_ (Pb2_ HB.out GE650.out GE651.out) hb); clear BK650; clear BK651; clear HB; have BK650 := n0_; have BK651 := n1_; have HB := n2_; clear n0_ n1_ n2_; (try clear hb); (try clear hb2); (try clear hk); (try clear hi)))
    go_ret
    exact ⟨by first | rfl | (simp [errW_none, errW_some] <;> rfl) | (simp [*, errW_none, errW_some] <;> rfl), by repeat (first | (with_reducible first | exact HB.out | apply Pa_ | apply Pn_ | apply Pd_ | refine Bs_ ?_ GE650.out | refine Bs_ ?_ GE651.out) | exact HB.out)⟩
   ·replace c18 := Bool.eq_false_iff.mpr c18
    subst c18
    have H1 : ((handle_Open.f l0_0 l0_1 a1 a3_0 a3_1 a3_2 a3_3 a3_4 a3_5).bind fun bt655 => (if bt655.2.2.2 = 0 then ((handle_Get.f bt655.1 bt655.2.1 a1 bt655.2.2.1).bind fun bt664 => ((handle_Close.f bt655.1 bt655.2.1 a1 bt655.2.2.1).bind fun bt673 => (if bt664.2.2.2.2.2.2.2 = true then (if (!(bt664.2.1 == a3_0) || (!(bt664.2.2.1 == a3_1) || (!(bt664.2.2.2.1 == a3_2) || (!(bt664.2.2.2.2.1 == a3_3) || (!(bt664.2.2.2.2.2.1 == 1) || (!(bt664.2.2.2.2.2.2.1 == a3_5))))))) = true then (none) else (if bt673.2.2.2.2.2.2.2.2 = 0 then (if bt673.2.2.2.2.2.2.1 = 0 then (if bt673.2.2.1 = a3_0 then ((handle_Count.f kj4 bt655.1 bt655.2.1 a1).bind fun t688 => ((handle_Count.f kj4 l0_0 l0_1 a1).bind fun t689 => (if t688 = (wrap64 (t689 + 1)) then ((flagstonelaw10_its.f kj4 bt673.1 bt673.2.1).bind fun bt690 => ((flagstonelaw10_padded.f kj4 l0_0 l0_1 bt664.1).bind fun bt696 => ((flagstoneref10_Same.f kj4 bt690.1 bt690.2 bt696.1 bt696.2).bind fun t702 => (if t702 = true then (flagstonelaw10_HandleBack.j1 kj4 a1 a2 l0_0 l0_1) else (none))))) else (none)))) else (none)) else (none)) else (none))) else (none)))) else (flagstonelaw10_HandleBack.j1 kj4 a1 a2 l0_0 l0_1))) = some r := by rw [if_neg (show ¬ (false = true) by decide)] at H; exact H
    clear H
    have H := H1
    clear H1
    replace H := Option.bind_eq_some_iff.mp H
    obtain ⟨⟨t655, t658, t661, t662⟩, A210, H⟩ := H
    replace H : (if t662 = 0 then ((handle_Get.f t655 t658 a1 t661).bind fun bt664 => ((handle_Close.f t655 t658 a1 t661).bind fun bt673 => (if bt664.2.2.2.2.2.2.2 = true then (if (!(bt664.2.1 == a3_0) || (!(bt664.2.2.1 == a3_1) || (!(bt664.2.2.2.1 == a3_2) || (!(bt664.2.2.2.2.1 == a3_3) || (!(bt664.2.2.2.2.2.1 == 1) || (!(bt664.2.2.2.2.2.2.1 == a3_5))))))) = true then (none) else (if bt673.2.2.2.2.2.2.2.2 = 0 then (if bt673.2.2.2.2.2.2.1 = 0 then (if bt673.2.2.1 = a3_0 then ((handle_Count.f kj4 t655 t658 a1).bind fun t688 => ((handle_Count.f kj4 l0_0 l0_1 a1).bind fun t689 => (if t688 = (wrap64 (t689 + 1)) then ((flagstonelaw10_its.f kj4 bt673.1 bt673.2.1).bind fun bt690 => ((flagstonelaw10_padded.f kj4 l0_0 l0_1 bt664.1).bind fun bt696 => ((flagstoneref10_Same.f kj4 bt690.1 bt690.2 bt696.1 bt696.2).bind fun t702 => (if t702 = true then (flagstonelaw10_HandleBack.j1 kj4 a1 a2 l0_0 l0_1) else (none))))) else (none)))) else (none)) else (none)) else (none))) else (none)))) else (flagstonelaw10_HandleBack.j1 kj4 a1 a2 l0_0 l0_1)) = some r := H
    have A21 := Am_ A210
    clear A210
    have HC22 := Am_ H
    clear H
    have hnb23 := NB650_651.out
    have hnc23 := NB651_650.out
    obtain ⟨hcz24_0, hcz24_1, hfz24_0, hfz24_1⟩ := Ce2_ BK650.out
    obtain ⟨hcz25_0, hcz25_1, hcz25_2, hcz25_3, hcz25_4, hcz25_5, hfz25_0, hfz25_1, hfz25_2, hfz25_3, hfz25_4, hfz25_5⟩ := Ce6_ BK651.out
    go_upto_if 47 with (first | ((with_reducible refine gate_callee (f := 19) rfl ?_); refine goesL_ (some 42) rfl rfl Try.func19 (by kernel_rfl) rfl #[.agg #[.slice A0_0 l0_0.length c0_0, .slice A0_1 l0_1.length c0_1], .int .i64 a1, .agg #[.int .i64 a3_0, .int .i64 a3_1, .bool a3_2, .bool a3_3, .int .i64 a3_4, .int .i64 a3_5]] rfl (by (try simp only [List.map_toArray, List.map_cons, List.map_nil]); first | done | rfl | (simp only [List.length_drop, List.length_take]; rfl)) ?_; (with_reducible refine (handle_Open.calls (fun k_ => k_ < w.heap.size) _ _ l0_0 (fun k_ => k_ < w.heap.size) _ _ l0_1 a1 a3_0 a3_1 a3_2 a3_3 a3_4 a3_5 t655 t658 t661 t662 _ ?side1 ?side2 A21.out).mono ?_); (case side1 => exact Kd.V_mk HC0_0.out (Kd.F_below (Kd.C_F k38_heap HR0_0.out) (Pb2_ HB.out GE650.out GE651.out))); (case side2 => exact Kd.V_mk HC0_1.out (Kd.F_below (Kd.C_F (Kd.heap_slice 3 (Kd.heap_int .i64)) HR0_1.out) (Pb2_ HB.out GE650.out GE651.out))); rintro e w26 ⟨v656, v659, rfl, ho0, ho1, hb⟩; refine ⟨_, rfl, ?_⟩; have n0_ := Am_ (Vl_ (Vm_ (ok' := fun k_ => k_ ≠ gb650 ∧ k_ ≠ gb651) ho0 (fun k_ hk_ => ⟨Or.elim hk_ (fun hs_ => Or.elim hs_ (fun hs_ => fun e_ => Nat.not_le.2 hs_ (by rw [e_]; exact GW650.out)) (fun hs_ => fun e_ => Nat.not_le.2 hs_ (by rw [e_]; exact GW650.out))) (fun hn_ => (Kd.freshB (g := gb650) (o := .cells #[.slice A0_0 l0_0.length c0_0, .slice A0_1 l0_1.length c0_1] 25 (0, 0)) (Pk_ BK650.out) k_ hn_)), Or.elim hk_ (fun hs_ => Or.elim hs_ (fun hs_ => fun e_ => Nat.not_le.2 hs_ (by rw [e_]; exact GW651.out)) (fun hs_ => fun e_ => Nat.not_le.2 hs_ (by rw [e_]; exact GW651.out))) (fun hn_ => (Kd.freshB (g := gb651) (o := .cells #[.int .i64 a3_0, .int .i64 a3_1, .bool a3_2, .bool a3_3, .int .i64 a3_4, .int .i64 a3_5] 38 (0, 0)) (Pk_ BK651.out) k_ hn_))⟩)) (Bz_ (Pb2_ HB.out GE650.out GE651.out))); have n1_ := Am_ (Vl_ (Vm_ (ok' := fun k_ => k_ ≠ gb650 ∧ k_ ≠ gb651) ho1 (fun k_ hk_ => ⟨Or.elim hk_ (fun hs_ => Or.elim hs_ (fun hs_ => fun e_ => Nat.not_le.2 hs_ (by rw [e_]; exact GW650.out)) (fun hs_ => fun e_ => Nat.not_le.2 hs_ (by rw [e_]; exact GW650.out))) (fun hn_ => (Kd.freshB (g := gb650) (o := .cells #[.slice A0_0 l0_0.length c0_0, .slice A0_1 l0_1.length c0_1] 25 (0, 0)) (Pk_ BK650.out) k_ hn_)), Or.elim hk_ (fun hs_ => Or.elim hs_ (fun hs_ => fun e_ => Nat.not_le.2 hs_ (by rw [e_]; exact GW651.out)) (fun hs_ => fun e_ => Nat.not_le.2 hs_ (by rw [e_]; exact GW651.out))) (fun hn_ => (Kd.freshB (g := gb651) (o := .cells #[.int .i64 a3_0, .int .i64 a3_1, .bool a3_2, .bool a3_3, .int .i64 a3_4, .int .i64 a3_5] 38 (0, 0)) (Pk_ BK651.out) k_ hn_))⟩)) (Bz_ (Pb2_ HB.out GE650.out GE651.out))); have n2_ := Am_ (Bb_ (g := gb650) (o := .cells #[.slice A0_0 l0_0.length c0_0, .slice A0_1 l0_1.length c0_1] 25 (0, 0)) (Pk_ BK650.out) hb); have n3_ := Am_ (Bb_ (g := gb651) (o := .cells #[.int .i64 a3_0, .int .i64 a3_1, .bool a3_2, .bool a3_3, .int .i64 a3_4, .int .i64 a3_5] 38 (0, 0)) (Pk_ BK651.out) hb); have n4_ := Am_ (Be_ (Pb2_ HB.out GE650.out GE651.out) hb); clear BK650; clear BK651; clear HB; have HO657 := n0_; have HO660 := n1_; have BK650 := n2_; have BK651 := n3_; have HB := n4_; clear n0_ n1_ n2_ n3_ n4_; (try clear hb); (try clear hb2); (try clear hk); (try clear hi); (try clear ho0); (try clear ho1)) | ((with_reducible refine gate_dst (N := 9) rfl ?_); refine box_event ?hg (N := 9) ?hd (cs := #[.slice none 0 0, .slice none 0 0]) (t := 25) ?hr ?_; (case hd => rfl); (case hg => rfl); (case hr => go_simp; try rfl); intro gb663 hg w27 hbox hb; have n0_ := Am_ (Vb_ (Ke_ (Pv_ HO657.out) gb663 (Nat.le_of_eq hg.symm)) hb); have n1_ := Am_ (Vb_ (Ke_ (Pv_ HO660.out) gb663 (Nat.le_of_eq hg.symm)) hb); have n2_ := Am_ (Bb_ (g := gb650) (o := .cells #[.slice A0_0 l0_0.length c0_0, .slice A0_1 l0_1.length c0_1] 25 (0, 0)) (Pk_ BK650.out) hb); have n3_ := Am_ (Bb_ (g := gb651) (o := .cells #[.int .i64 a3_0, .int .i64 a3_1, .bool a3_2, .bool a3_3, .int .i64 a3_4, .int .i64 a3_5] 38 (0, 0)) (Pk_ BK651.out) hb); have n4_ := Am_ (Be_ (Pb2_ HB.out GE650.out GE651.out) hb); have n5_ := Am_ (hbox); have n6_ := Am_ ((by rw [hg]; exact (Bz_ (Pb2_ HB.out GE650.out GE651.out)) : w.heap.size ≤ gb663)); have n7_ := Am_ ((by rw [hg]; exact (Bz_ (Pb2_ HB.out GE650.out GE651.out)) : w.heap.size ≤ gb663)); have n8_ := Am_ ((by rw [hg]; exact Nat.ne_of_lt (blk_lt (g := gb650) (o := .cells #[.slice A0_0 l0_0.length c0_0, .slice A0_1 l0_1.length c0_1] 25 (0, 0)) (Pk_ BK650.out)) : gb650 ≠ gb663)); have n9_ := Am_ ((by rw [hg]; exact Nat.ne_of_gt (blk_lt (g := gb650) (o := .cells #[.slice A0_0 l0_0.length c0_0, .slice A0_1 l0_1.length c0_1] 25 (0, 0)) (Pk_ BK650.out)) : gb663 ≠ gb650)); have n10_ := Am_ ((by rw [hg]; exact Nat.ne_of_lt (blk_lt (g := gb651) (o := .cells #[.int .i64 a3_0, .int .i64 a3_1, .bool a3_2, .bool a3_3, .int .i64 a3_4, .int .i64 a3_5] 38 (0, 0)) (Pk_ BK651.out)) : gb651 ≠ gb663)); have n11_ := Am_ ((by rw [hg]; exact Nat.ne_of_gt (blk_lt (g := gb651) (o := .cells #[.int .i64 a3_0, .int .i64 a3_1, .bool a3_2, .bool a3_3, .int .i64 a3_4, .int .i64 a3_5] 38 (0, 0)) (Pk_ BK651.out)) : gb663 ≠ gb651)); clear HO657; clear HO660; clear BK650; clear BK651; clear HB; have HO657 := n0_; have HO660 := n1_; have BK650 := n2_; have BK651 := n3_; have HB := n4_; have BK663 := n5_; have GW663 := n6_; have GE663 := n7_; have NB650_663 := n8_; have NB663_650 := n9_; have NB651_663 := n10_; have NB663_651 := n11_; clear n0_ n1_ n2_ n3_ n4_ n5_ n6_ n7_ n8_ n9_ n10_ n11_; clear hb hbox hg; obtain ⟨Ao28, co28, eo28⟩ := Vx_ HO657.out; subst eo28; have hnb29 := NB663_650.out; have hnc29 := NB650_663.out; have hnb30 := NB663_651.out; have hnc30 := NB651_663.out; obtain ⟨hcz31_0, hcz31_1, hfz31_0, hfz31_1⟩ := Ce2_ BK663.out; obtain ⟨Ao32, co32, eo32⟩ := Vx_ HO660.out; subst eo32))
    (try simp only [Act.put, La_, Lb_, Lc_])
    go_cut [] (fun wc => ∃ (kq : Nat) (x652004_21 : Int), Aside0 (flagstonelaw10_HandleBack.j1 kq a1 a2 l0_0 l0_1 = some r) ∧ Aside0 (kq ≤ kj4) ∧ Aside0 (Kd.V k38 38 wc w.heap.size (fun k_ => k_ ≠ gb650 ∧ k_ ≠ gb651 ∧ k_ ≠ gb663) (.slice Ao28 t655.length co28) t655) ∧ Aside0 (Kd.V (Kd.slice 3 (Kd.int .i64)) 64 wc w.heap.size (fun k_ => k_ ≠ gb650 ∧ k_ ≠ gb651 ∧ k_ ≠ gb663) (.slice Ao32 t658.length co32) t658) ∧ Aside0 (wc.heap[gb650]? = some (.cells #[(.slice A0_0 l0_0.length c0_0), (.slice A0_1 l0_1.length c0_1)] 25 (0, 0))) ∧ Aside0 (wc.heap[gb651]? = some (.cells #[.int .i64 a3_0, .int .i64 a3_1, .bool a3_2, .bool a3_3, .int .i64 x652004_21, .int .i64 a3_5] 38 (0, 0))) ∧ Aside0 (wc.heap[gb663]? = some (.cells #[(.slice Ao28 t655.length co28), (.slice Ao32 t658.length co32)] 25 (0, 0))) ∧ Aside0 (Below w.heap.size w wc))
    case first =>
     have H := HC22.out
     clear HC22
     by_cases c33 : t662 = 0
     ·rw [if_pos c33] at H
      have c33b0 : (t662 == 0) = true := beq_iff_eq.mpr c33
      have c33b1 : (t662 != 0) = false := bne_eq_false_iff_eq.mpr c33
      clear c33
      (first | rw [c33b0] | (simp only [i64_w, i32_w]; rw [c33b0]) | skip)
      replace H := Option.bind_eq_some_iff.mp H
      obtain ⟨⟨t664, t665, t666, t667, t668, t669, t670, t671⟩, A340, H⟩ := H
      replace H : ((handle_Close.f t655 t658 a1 t661).bind fun bt673 => (if t671 = true then (if (!(t665 == a3_0) || (!(t666 == a3_1) || (!(t667 == a3_2) || (!(t668 == a3_3) || (!(t669 == 1) || (!(t670 == a3_5))))))) = true then (none) else (if bt673.2.2.2.2.2.2.2.2 = 0 then (if bt673.2.2.2.2.2.2.1 = 0 then (if bt673.2.2.1 = a3_0 then ((handle_Count.f kj4 t655 t658 a1).bind fun t688 => ((handle_Count.f kj4 l0_0 l0_1 a1).bind fun t689 => (if t688 = (wrap64 (t689 + 1)) then ((flagstonelaw10_its.f kj4 bt673.1 bt673.2.1).bind fun bt690 => ((flagstonelaw10_padded.f kj4 l0_0 l0_1 t664).bind fun bt696 => ((flagstoneref10_Same.f kj4 bt690.1 bt690.2 bt696.1 bt696.2).bind fun t702 => (if t702 = true then (flagstonelaw10_HandleBack.j1 kj4 a1 a2 l0_0 l0_1) else (none))))) else (none)))) else (none)) else (none)) else (none))) else (none))) = some r := H
      have A34 := Am_ A340
      clear A340
      replace H := Option.bind_eq_some_iff.mp H
      obtain ⟨⟨t673, t676, t679, t680, t681, t682, t683, t684, t685⟩, A350, H⟩ := H
      replace H : (if t671 = true then (if (!(t665 == a3_0) || (!(t666 == a3_1) || (!(t667 == a3_2) || (!(t668 == a3_3) || (!(t669 == 1) || (!(t670 == a3_5))))))) = true then (none) else (if t685 = 0 then (if t683 = 0 then (if t679 = a3_0 then ((handle_Count.f kj4 t655 t658 a1).bind fun t688 => ((handle_Count.f kj4 l0_0 l0_1 a1).bind fun t689 => (if t688 = (wrap64 (t689 + 1)) then ((flagstonelaw10_its.f kj4 t673 t676).bind fun bt690 => ((flagstonelaw10_padded.f kj4 l0_0 l0_1 t664).bind fun bt696 => ((flagstoneref10_Same.f kj4 bt690.1 bt690.2 bt696.1 bt696.2).bind fun t702 => (if t702 = true then (flagstonelaw10_HandleBack.j1 kj4 a1 a2 l0_0 l0_1) else (none))))) else (none)))) else (none)) else (none)) else (none))) else (none)) = some r := H
      have A35 := Am_ A350
      clear A350
      by_cases c36 : t671 = true
      ·subst c36
       have H1 : (if (!(t665 == a3_0) || (!(t666 == a3_1) || (!(t667 == a3_2) || (!(t668 == a3_3) || (!(t669 == 1) || (!(t670 == a3_5))))))) = true then (none) else (if t685 = 0 then (if t683 = 0 then (if t679 = a3_0 then ((handle_Count.f kj4 t655 t658 a1).bind fun t688 => ((handle_Count.f kj4 l0_0 l0_1 a1).bind fun t689 => (if t688 = (wrap64 (t689 + 1)) then ((flagstonelaw10_its.f kj4 t673 t676).bind fun bt690 => ((flagstonelaw10_padded.f kj4 l0_0 l0_1 t664).bind fun bt696 => ((flagstoneref10_Same.f kj4 bt690.1 bt690.2 bt696.1 bt696.2).bind fun t702 => (if t702 = true then (flagstonelaw10_HandleBack.j1 kj4 a1 a2 l0_0 l0_1) else (none))))) else (none)))) else (none)) else (none)) else (none))) = some r := by rw [if_pos rfl] at H; exact H
       clear H
       have H := H1
       clear H1
       by_cases c37 : (!(t665 == a3_0) || (!(t666 == a3_1) || (!(t667 == a3_2) || (!(t668 == a3_3) || (!(t669 == 1) || (!(t670 == a3_5))))))) = true
       ·rw [if_pos c37] at H
        have c37b0 : (!(t665 == a3_0) || (!(t666 == a3_1) || (!(t667 == a3_2) || (!(t668 == a3_3) || (!(t669 == 1) || (!(t670 == a3_5))))))) = true := c37
        clear c37
        exact absurd H (by simp)
       ·rw [if_neg c37] at H
        have c37b0 : (!(t665 == a3_0) || (!(t666 == a3_1) || (!(t667 == a3_2) || (!(t668 == a3_3) || (!(t669 == 1) || (!(t670 == a3_5))))))) = false := by simpa using c37
        clear c37
        by_cases c38 : t685 = 0
        ·rw [if_pos c38] at H
         have c38b0 : (t685 == 0) = true := beq_iff_eq.mpr c38
         have c38b1 : (t685 != 0) = false := bne_eq_false_iff_eq.mpr c38
         clear c38
         by_cases c39 : t683 = 0
         ·rw [if_pos c39] at H
          have c39b0 : (t683 == 0) = true := beq_iff_eq.mpr c39
          have c39b1 : (t683 != 0) = false := bne_eq_false_iff_eq.mpr c39
          clear c39
          by_cases c40 : t679 = a3_0
          ·rw [if_pos c40] at H
           have c40b0 : (t679 == a3_0) = true := beq_iff_eq.mpr c40
           have c40b1 : (t679 != a3_0) = false := bne_eq_false_iff_eq.mpr c40
           clear c40
           replace H := Option.bind_eq_some_iff.mp H
           obtain ⟨t688, A410, H⟩ := H
           replace H : ((handle_Count.f kj4 l0_0 l0_1 a1).bind fun t689 => (if t688 = (wrap64 (t689 + 1)) then ((flagstonelaw10_its.f kj4 t673 t676).bind fun bt690 => ((flagstonelaw10_padded.f kj4 l0_0 l0_1 t664).bind fun bt696 => ((flagstoneref10_Same.f kj4 bt690.1 bt690.2 bt696.1 bt696.2).bind fun t702 => (if t702 = true then (flagstonelaw10_HandleBack.j1 kj4 a1 a2 l0_0 l0_1) else (none))))) else (none))) = some r := H
           have A41 := Am_ A410
           clear A410
           replace H := Option.bind_eq_some_iff.mp H
           obtain ⟨t689, A420, H⟩ := H
           replace H : (if t688 = (wrap64 (t689 + 1)) then ((flagstonelaw10_its.f kj4 t673 t676).bind fun bt690 => ((flagstonelaw10_padded.f kj4 l0_0 l0_1 t664).bind fun bt696 => ((flagstoneref10_Same.f kj4 bt690.1 bt690.2 bt696.1 bt696.2).bind fun t702 => (if t702 = true then (flagstonelaw10_HandleBack.j1 kj4 a1 a2 l0_0 l0_1) else (none))))) else (none)) = some r := H
           have A42 := Am_ A420
           clear A420
           by_cases c43 : t688 = (wrap64 (t689 + 1))
           ·rw [if_pos c43] at H
            have c43b0 : (t688 == (wrap64 (t689 + 1))) = true := beq_iff_eq.mpr c43
            have c43b1 : (t688 != (wrap64 (t689 + 1))) = false := bne_eq_false_iff_eq.mpr c43
            clear c43
            replace H := Option.bind_eq_some_iff.mp H
            obtain ⟨⟨t690, t693⟩, A440, H⟩ := H
            replace H : ((flagstonelaw10_padded.f kj4 l0_0 l0_1 t664).bind fun bt696 => ((flagstoneref10_Same.f kj4 t690 t693 bt696.1 bt696.2).bind fun t702 => (if t702 = true then (flagstonelaw10_HandleBack.j1 kj4 a1 a2 l0_0 l0_1) else (none)))) = some r := H
            have A44 := Am_ A440
            clear A440
            replace H := Option.bind_eq_some_iff.mp H
            obtain ⟨⟨t696, t699⟩, A450, H⟩ := H
            replace H : ((flagstoneref10_Same.f kj4 t690 t693 t696 t699).bind fun t702 => (if t702 = true then (flagstonelaw10_HandleBack.j1 kj4 a1 a2 l0_0 l0_1) else (none))) = some r := H
            have A45 := Am_ A450
            clear A450
            replace H := Option.bind_eq_some_iff.mp H
            obtain ⟨t702, A460, H⟩ := H
            replace H : (if t702 = true then (flagstonelaw10_HandleBack.j1 kj4 a1 a2 l0_0 l0_1) else (none)) = some r := H
            have A46 := Am_ A460
            clear A460
            by_cases c47 : t702 = true
            ·subst c47
             have H1 : (flagstonelaw10_HandleBack.j1 kj4 a1 a2 l0_0 l0_1) = some r := by rw [if_pos rfl] at H; exact H
             clear H
             have H := H1
             clear H1
             have H' := Am_ H
             clear H
             have hnb48 := NB663_650.out
             have hnc48 := NB650_663.out
             have hnb49 := NB663_651.out
             have hnc49 := NB651_663.out
             obtain ⟨hcz50_0, hcz50_1, hfz50_0, hfz50_1⟩ := Ce2_ BK663.out
             try go_wp2_with (first | ((with_reducible refine gate_callee (f := 20) rfl ?_); refine goesL_ (some 52) rfl rfl Try.func20 (by kernel_rfl) rfl #[.agg #[.slice Ao28 t655.length co28, .slice Ao32 t658.length co32], .int .i64 a1, .int .i64 t661] rfl (by (try simp only [List.map_toArray, List.map_cons, List.map_nil]); first | done | rfl | (simp only [List.length_drop, List.length_take]; rfl)) ?_; (with_reducible refine (handle_Get.calls _ _ t655 _ _ t658 a1 t661 t664 t665 t666 t667 t668 t669 t670 true _ ?side1 ?side2 ?side3 ?side4 A34.out).mono ?_); (case side1 => refine (Vr_ (e := 38) (base := w.heap.size) (ok := fun k_ => ((k_ ≠ gb650 ∧ k_ ≠ gb651) ∧ k_ ≠ gb663)) (n := t655.length) (c := co28) ?_).2.2; exact (by (with_reducible repeat (first | apply Va_ | apply Vn_ | apply Vd_)); exact (Vm_ (Vf_ (p := ⟨gb663, 1, none⟩) (Vf_ (p := ⟨gb663, 0, none⟩) (Vm_ HO657.out (fun k_ hk => (⟨hk, hk.2⟩ : _ ∧ k_ ≠ gb663))) (fun _ hk => hk.2) (.slice Ao28 t655.length co28)) (fun _ hk => hk.2) (.slice Ao32 t658.length co32)) (fun _ h_ => h_.1)))); (case side2 => exact (Vr_ HO657.out).2.1); (case side3 => refine (Vr_ (e := 64) (base := w.heap.size) (ok := fun k_ => ((k_ ≠ gb650 ∧ k_ ≠ gb651) ∧ k_ ≠ gb663)) (n := t658.length) (c := co32) ?_).2.2; exact (by (with_reducible repeat (first | apply Va_ | apply Vn_ | apply Vd_)); exact (Vm_ (Vf_ (p := ⟨gb663, 1, none⟩) (Vf_ (p := ⟨gb663, 0, none⟩) (Vm_ HO660.out (fun k_ hk => (⟨hk, hk.2⟩ : _ ∧ k_ ≠ gb663))) (fun _ hk => hk.2) (.slice Ao28 t655.length co28)) (fun _ hk => hk.2) (.slice Ao32 t658.length co32)) (fun _ h_ => h_.1)))); (case side4 => exact (Vr_ HO660.out).2.1); rintro e w51 ⟨rfl, hb⟩; refine ⟨_, rfl, ?_⟩; have n0_ := Am_ (Vb_ (by (with_reducible repeat (first | apply Va_ | apply Vn_ | apply Vd_)); exact (Vm_ (Vf_ (p := ⟨gb663, 1, none⟩) (Vf_ (p := ⟨gb663, 0, none⟩) (Vm_ HO657.out (fun k_ hk => (⟨hk, hk.2⟩ : _ ∧ k_ ≠ gb663))) (fun _ hk => hk.2) (.slice Ao28 t655.length co28)) (fun _ hk => hk.2) (.slice Ao32 t658.length co32)) (fun _ h_ => h_.1))) hb); have n1_ := Am_ (Vb_ (by (with_reducible repeat (first | apply Va_ | apply Vn_ | apply Vd_)); exact (Vm_ (Vf_ (p := ⟨gb663, 1, none⟩) (Vf_ (p := ⟨gb663, 0, none⟩) (Vm_ HO660.out (fun k_ hk => (⟨hk, hk.2⟩ : _ ∧ k_ ≠ gb663))) (fun _ hk => hk.2) (.slice Ao28 t655.length co28)) (fun _ hk => hk.2) (.slice Ao32 t658.length co32)) (fun _ h_ => h_.1))) hb); have n2_ := Am_ (Bb_ (g := gb650) (o := .cells #[.slice A0_0 l0_0.length c0_0, .slice A0_1 l0_1.length c0_1] 25 (0, 0)) (by (with_reducible repeat (first | refine Bn_ ?_ _ | refine Bd_ ?_ | refine Ba_ ?_ _)); refine blk_far ?_ NB650_663.out _; (with_reducible repeat (first | refine Bn_ ?_ _ | refine Bd_ ?_ | refine Ba_ ?_ _)); refine blk_far ?_ NB650_663.out _; (with_reducible repeat (first | refine Bn_ ?_ _ | refine Bd_ ?_ | refine Ba_ ?_ _)); exact BK650.out) hb); have n3_ := Am_ (Bb_ (g := gb651) (o := .cells #[.int .i64 a3_0, .int .i64 a3_1, .bool a3_2, .bool a3_3, .int .i64 a3_4, .int .i64 a3_5] 38 (0, 0)) (by (with_reducible repeat (first | refine Bn_ ?_ _ | refine Bd_ ?_ | refine Ba_ ?_ _)); refine blk_far ?_ NB651_663.out _; (with_reducible repeat (first | refine Bn_ ?_ _ | refine Bd_ ?_ | refine Ba_ ?_ _)); refine blk_far ?_ NB651_663.out _; (with_reducible repeat (first | refine Bn_ ?_ _ | refine Bd_ ?_ | refine Ba_ ?_ _)); exact BK651.out) hb); have n4_ := Am_ (Bb_ (g := gb663) (o := .cells #[.slice Ao28 t655.length co28, .slice Ao32 t658.length co32] 25 (0, 0)) (by (with_reducible repeat (first | refine Bn_ ?_ _ | refine Bd_ ?_ | refine Ba_ ?_ _)); refine Bp_ (cs := #[.slice Ao28 t655.length co28, .slice none 0 0]) ?_ 1 _ rfl; (with_reducible repeat (first | refine Bn_ ?_ _ | refine Bd_ ?_ | refine Ba_ ?_ _)); refine Bp_ (cs := #[.slice none 0 0, .slice none 0 0]) ?_ 0 _ rfl; (with_reducible repeat (first | refine Bn_ ?_ _ | refine Bd_ ?_ | refine Ba_ ?_ _)); exact BK663.out) hb); have n5_ := Am_ (Be_ (Pb3_ HB.out GE650.out GE651.out GE663.out) hb); clear HO657; clear HO660; clear BK650; clear BK651; clear BK663; clear HB; have HO657 := n0_; have HO660 := n1_; have BK650 := n2_; have BK651 := n3_; have BK663 := n4_; have HB := n5_; clear n0_ n1_ n2_ n3_ n4_ n5_; (try clear hb); (try clear hb2); (try clear hk); (try clear hi)) | ((with_reducible refine gate_dst (N := 13) rfl ?_); refine box_event ?hg (N := 13) ?hd (cs := #[.int .i64 0, .int .i64 0, .bool false, .bool false, .int .i64 0, .int .i64 0]) (t := 38) ?hr ?_; (case hd => rfl); (case hg => rfl); (case hr => go_simp; try rfl); intro gb672 hg w52 hbox hb; have n0_ := Am_ (Vb_ (Ke_ (Pv_ HO657.out) gb672 (Nat.le_of_eq hg.symm)) hb); have n1_ := Am_ (Vb_ (Ke_ (Pv_ HO660.out) gb672 (Nat.le_of_eq hg.symm)) hb); have n2_ := Am_ (Bb_ (g := gb650) (o := .cells #[.slice A0_0 l0_0.length c0_0, .slice A0_1 l0_1.length c0_1] 25 (0, 0)) (Pk_ BK650.out) hb); have n3_ := Am_ (Bb_ (g := gb651) (o := .cells #[.int .i64 a3_0, .int .i64 a3_1, .bool a3_2, .bool a3_3, .int .i64 a3_4, .int .i64 a3_5] 38 (0, 0)) (Pk_ BK651.out) hb); have n4_ := Am_ (Bb_ (g := gb663) (o := .cells #[.slice Ao28 t655.length co28, .slice Ao32 t658.length co32] 25 (0, 0)) (Pk_ BK663.out) hb); have n5_ := Am_ (Be_ (Pb3_ HB.out GE650.out GE651.out GE663.out) hb); have n6_ := Am_ (hbox); have n7_ := Am_ ((by rw [hg]; exact (Bz_ (Pb3_ HB.out GE650.out GE651.out GE663.out)) : w.heap.size ≤ gb672)); have n8_ := Am_ ((by rw [hg]; exact (Bz_ (Pb3_ HB.out GE650.out GE651.out GE663.out)) : w.heap.size ≤ gb672)); have n9_ := Am_ ((by rw [hg]; exact Nat.ne_of_lt (blk_lt (g := gb650) (o := .cells #[.slice A0_0 l0_0.length c0_0, .slice A0_1 l0_1.length c0_1] 25 (0, 0)) (Pk_ BK650.out)) : gb650 ≠ gb672)); have n10_ := Am_ ((by rw [hg]; exact Nat.ne_of_gt (blk_lt (g := gb650) (o := .cells #[.slice A0_0 l0_0.length c0_0, .slice A0_1 l0_1.length c0_1] 25 (0, 0)) (Pk_ BK650.out)) : gb672 ≠ gb650)); have n11_ := Am_ ((by rw [hg]; exact Nat.ne_of_lt (blk_lt (g := gb651) (o := .cells #[.int .i64 a3_0, .int .i64 a3_1, .bool a3_2, .bool a3_3, .int .i64 a3_4, .int .i64 a3_5] 38 (0, 0)) (Pk_ BK651.out)) : gb651 ≠ gb672)); have n12_ := Am_ ((by rw [hg]; exact Nat.ne_of_gt (blk_lt (g := gb651) (o := .cells #[.int .i64 a3_0, .int .i64 a3_1, .bool a3_2, .bool a3_3, .int .i64 a3_4, .int .i64 a3_5] 38 (0, 0)) (Pk_ BK651.out)) : gb672 ≠ gb651)); have n13_ := Am_ ((by rw [hg]; exact Nat.ne_of_lt (blk_lt (g := gb663) (o := .cells #[.slice Ao28 t655.length co28, .slice Ao32 t658.length co32] 25 (0, 0)) (Pk_ BK663.out)) : gb663 ≠ gb672)); have n14_ := Am_ ((by rw [hg]; exact Nat.ne_of_gt (blk_lt (g := gb663) (o := .cells #[.slice Ao28 t655.length co28, .slice Ao32 t658.length co32] 25 (0, 0)) (Pk_ BK663.out)) : gb672 ≠ gb663)); clear HO657; clear HO660; clear BK650; clear BK651; clear BK663; clear HB; have HO657 := n0_; have HO660 := n1_; have BK650 := n2_; have BK651 := n3_; have BK663 := n4_; have HB := n5_; have BK672 := n6_; have GW672 := n7_; have GE672 := n8_; have NB650_672 := n9_; have NB672_650 := n10_; have NB651_672 := n11_; have NB672_651 := n12_; have NB663_672 := n13_; have NB672_663 := n14_; clear n0_ n1_ n2_ n3_ n4_ n5_ n6_ n7_ n8_ n9_ n10_ n11_ n12_ n13_ n14_; clear hb hbox hg; have hnb53 := NB672_650.out; have hnc53 := NB650_672.out; have hnb54 := NB672_651.out; have hnc54 := NB651_672.out; have hnb55 := NB672_663.out; have hnc55 := NB663_672.out; obtain ⟨hcz56_0, hcz56_1, hcz56_2, hcz56_3, hcz56_4, hcz56_5, hfz56_0, hfz56_1, hfz56_2, hfz56_3, hfz56_4, hfz56_5⟩ := Ce6_ BK672.out) | ((with_reducible refine gate_store (t := 38) (p := 13) rfl ?_); refine store_event (t := 38) (p := 13) (v := ?vo_w57) (w1 := ((((((w52.setCell ⟨gb672, 0, none⟩ (.int .i64 t665)).setCell ⟨gb672, 1, none⟩ (.int .i64 t666)).setCell ⟨gb672, 2, none⟩ (.bool t667)).setCell ⟨gb672, 3, none⟩ (.bool t668)).setCell ⟨gb672, 4, none⟩ (.int .i64 t669)).setCell ⟨gb672, 5, none⟩ (.int .i64 t670))) ?hg ?ho ?hn ?hr ?_; (case ho => rfl); (case hg => rfl); (case hn => rfl); (case hr => go_simp; try rfl); intro w57 hw; have n0_ : Aside0 (Kd.V k38 38 w57 w.heap.size (fun k_ => k_ ≠ gb650 ∧ k_ ≠ gb651 ∧ k_ ≠ gb663 ∧ k_ ≠ gb672) (.slice Ao28 t655.length co28) t655) := ⟨(by rw [hw]; exact (by (with_reducible repeat (first | apply Va_ | apply Vn_ | apply Vd_)); exact Vm_ (Vf_ (p := ⟨gb672, 5, none⟩) (Vf_ (p := ⟨gb672, 4, none⟩) (Vf_ (p := ⟨gb672, 3, none⟩) (Vf_ (p := ⟨gb672, 2, none⟩) (Vf_ (p := ⟨gb672, 1, none⟩) (Vf_ (p := ⟨gb672, 0, none⟩) (Vm_ HO657.out (fun k_ hk => (⟨hk, hk.2⟩ : _ ∧ k_ ≠ gb672))) (fun _ hk => hk.2) (.int .i64 t665)) (fun _ hk => hk.2) (.int .i64 t666)) (fun _ hk => hk.2) (.bool t667)) (fun _ hk => hk.2) (.bool t668)) (fun _ hk => hk.2) (.int .i64 t669)) (fun _ hk => hk.2) (.int .i64 t670)) (fun _ hk => ⟨hk.1.1.1.1, ⟨hk.1.1.1.2, ⟨hk.1.1.2, hk.1.2⟩⟩⟩)))⟩; have n1_ : Aside0 (Kd.V (Kd.slice 3 (Kd.int .i64)) 64 w57 w.heap.size (fun k_ => k_ ≠ gb650 ∧ k_ ≠ gb651 ∧ k_ ≠ gb663 ∧ k_ ≠ gb672) (.slice Ao32 t658.length co32) t658) := ⟨(by rw [hw]; exact (by (with_reducible repeat (first | apply Va_ | apply Vn_ | apply Vd_)); exact Vm_ (Vf_ (p := ⟨gb672, 5, none⟩) (Vf_ (p := ⟨gb672, 4, none⟩) (Vf_ (p := ⟨gb672, 3, none⟩) (Vf_ (p := ⟨gb672, 2, none⟩) (Vf_ (p := ⟨gb672, 1, none⟩) (Vf_ (p := ⟨gb672, 0, none⟩) (Vm_ HO660.out (fun k_ hk => (⟨hk, hk.2⟩ : _ ∧ k_ ≠ gb672))) (fun _ hk => hk.2) (.int .i64 t665)) (fun _ hk => hk.2) (.int .i64 t666)) (fun _ hk => hk.2) (.bool t667)) (fun _ hk => hk.2) (.bool t668)) (fun _ hk => hk.2) (.int .i64 t669)) (fun _ hk => hk.2) (.int .i64 t670)) (fun _ hk => ⟨hk.1.1.1.1, ⟨hk.1.1.1.2, ⟨hk.1.1.2, hk.1.2⟩⟩⟩)))⟩; have n2_ : Aside0 (w57.heap[gb650]? = some (.cells #[.slice A0_0 l0_0.length c0_0, .slice A0_1 l0_1.length c0_1] 25 (0, 0))) := ⟨(by rw [hw]; exact (by (with_reducible repeat (first | refine Bn_ ?_ _ | refine Bd_ ?_ | refine Ba_ ?_ _)); refine blk_far ?_ NB650_672.out _; (with_reducible repeat (first | refine Bn_ ?_ _ | refine Bd_ ?_ | refine Ba_ ?_ _)); refine blk_far ?_ NB650_672.out _; (with_reducible repeat (first | refine Bn_ ?_ _ | refine Bd_ ?_ | refine Ba_ ?_ _)); refine blk_far ?_ NB650_672.out _; (with_reducible repeat (first | refine Bn_ ?_ _ | refine Bd_ ?_ | refine Ba_ ?_ _)); refine blk_far ?_ NB650_672.out _; (with_reducible repeat (first | refine Bn_ ?_ _ | refine Bd_ ?_ | refine Ba_ ?_ _)); refine blk_far ?_ NB650_672.out _; (with_reducible repeat (first | refine Bn_ ?_ _ | refine Bd_ ?_ | refine Ba_ ?_ _)); refine blk_far ?_ NB650_672.out _; (with_reducible repeat (first | refine Bn_ ?_ _ | refine Bd_ ?_ | refine Ba_ ?_ _)); exact BK650.out))⟩; have n3_ : Aside0 (w57.heap[gb651]? = some (.cells #[.int .i64 a3_0, .int .i64 a3_1, .bool a3_2, .bool a3_3, .int .i64 a3_4, .int .i64 a3_5] 38 (0, 0))) := ⟨(by rw [hw]; exact (by (with_reducible repeat (first | refine Bn_ ?_ _ | refine Bd_ ?_ | refine Ba_ ?_ _)); refine blk_far ?_ NB651_672.out _; (with_reducible repeat (first | refine Bn_ ?_ _ | refine Bd_ ?_ | refine Ba_ ?_ _)); refine blk_far ?_ NB651_672.out _; (with_reducible repeat (first | refine Bn_ ?_ _ | refine Bd_ ?_ | refine Ba_ ?_ _)); refine blk_far ?_ NB651_672.out _; (with_reducible repeat (first | refine Bn_ ?_ _ | refine Bd_ ?_ | refine Ba_ ?_ _)); refine blk_far ?_ NB651_672.out _; (with_reducible repeat (first | refine Bn_ ?_ _ | refine Bd_ ?_ | refine Ba_ ?_ _)); refine blk_far ?_ NB651_672.out _; (with_reducible repeat (first | refine Bn_ ?_ _ | refine Bd_ ?_ | refine Ba_ ?_ _)); refine blk_far ?_ NB651_672.out _; (with_reducible repeat (first | refine Bn_ ?_ _ | refine Bd_ ?_ | refine Ba_ ?_ _)); exact BK651.out))⟩; have n4_ : Aside0 (w57.heap[gb663]? = some (.cells #[.slice Ao28 t655.length co28, .slice Ao32 t658.length co32] 25 (0, 0))) := ⟨(by rw [hw]; exact (by (with_reducible repeat (first | refine Bn_ ?_ _ | refine Bd_ ?_ | refine Ba_ ?_ _)); refine blk_far ?_ NB663_672.out _; (with_reducible repeat (first | refine Bn_ ?_ _ | refine Bd_ ?_ | refine Ba_ ?_ _)); refine blk_far ?_ NB663_672.out _; (with_reducible repeat (first | refine Bn_ ?_ _ | refine Bd_ ?_ | refine Ba_ ?_ _)); refine blk_far ?_ NB663_672.out _; (with_reducible repeat (first | refine Bn_ ?_ _ | refine Bd_ ?_ | refine Ba_ ?_ _)); refine blk_far ?_ NB663_672.out _; (with_reducible repeat (first | refine Bn_ ?_ _ | refine Bd_ ?_ | refine Ba_ ?_ _)); refine blk_far ?_ NB663_672.out _; (with_reducible repeat (first | refine Bn_ ?_ _ | refine Bd_ ?_ | refine Ba_ ?_ _)); refine blk_far ?_ NB663_672.out _; (with_reducible repeat (first | refine Bn_ ?_ _ | refine Bd_ ?_ | refine Ba_ ?_ _)); exact BK663.out))⟩; have n5_ : Aside0 (w57.heap[gb672]? = some (.cells #[.int .i64 t665, .int .i64 t666, .bool t667, .bool t668, .int .i64 t669, .int .i64 t670] 38 (0, 0))) := ⟨(by rw [hw]; exact (by (with_reducible repeat (first | refine Bn_ ?_ _ | refine Bd_ ?_ | refine Ba_ ?_ _)); refine Bp_ (cs := #[.int .i64 t665, .int .i64 t666, .bool t667, .bool t668, .int .i64 t669, .int .i64 0]) ?_ 5 _ rfl; (with_reducible repeat (first | refine Bn_ ?_ _ | refine Bd_ ?_ | refine Ba_ ?_ _)); refine Bp_ (cs := #[.int .i64 t665, .int .i64 t666, .bool t667, .bool t668, .int .i64 0, .int .i64 0]) ?_ 4 _ rfl; (with_reducible repeat (first | refine Bn_ ?_ _ | refine Bd_ ?_ | refine Ba_ ?_ _)); refine Bp_ (cs := #[.int .i64 t665, .int .i64 t666, .bool t667, .bool false, .int .i64 0, .int .i64 0]) ?_ 3 _ rfl; (with_reducible repeat (first | refine Bn_ ?_ _ | refine Bd_ ?_ | refine Ba_ ?_ _)); refine Bp_ (cs := #[.int .i64 t665, .int .i64 t666, .bool false, .bool false, .int .i64 0, .int .i64 0]) ?_ 2 _ rfl; (with_reducible repeat (first | refine Bn_ ?_ _ | refine Bd_ ?_ | refine Ba_ ?_ _)); refine Bp_ (cs := #[.int .i64 t665, .int .i64 0, .bool false, .bool false, .int .i64 0, .int .i64 0]) ?_ 1 _ rfl; (with_reducible repeat (first | refine Bn_ ?_ _ | refine Bd_ ?_ | refine Ba_ ?_ _)); refine Bp_ (cs := #[.int .i64 0, .int .i64 0, .bool false, .bool false, .int .i64 0, .int .i64 0]) ?_ 0 _ rfl; (with_reducible repeat (first | refine Bn_ ?_ _ | refine Bd_ ?_ | refine Ba_ ?_ _)); exact BK672.out))⟩; have n6_ : Aside0 (Below w.heap.size w w57) := ⟨(by rw [hw]; exact (Pb4_ HB.out GE650.out GE651.out GE663.out GE672.out))⟩; clear hw; clear HO657; clear HO660; clear BK650; clear BK651; clear BK663; clear BK672; clear HB; have HO657 := n0_; have HO660 := n1_; have BK650 := n2_; have BK651 := n3_; have BK663 := n4_; have BK672 := n5_; have HB := n6_; clear n0_ n1_ n2_ n3_ n4_ n5_ n6_; have hnb58 := NB651_650.out; have hnc58 := NB650_651.out; obtain ⟨hcz59_0, hcz59_1, hcz59_2, hcz59_3, hcz59_4, hcz59_5, hfz59_0, hfz59_1, hfz59_2, hfz59_3, hfz59_4, hfz59_5⟩ := Ce6_ BK651.out) | ((with_reducible refine gate_store (t := 3) (p := 56) rfl ?_); refine store_event (t := 3) (p := 56) (v := ?vo_w60) (w1 := (w57.setCell ⟨gb651, 4, none⟩ (.int .i64 1))) ?hg ?ho ?hn ?hr ?_; (case ho => rfl); (case hg => rfl); (case hn => rfl); (case hr => go_simp; try rfl); intro w60 hw; have n0_ : Aside0 (Kd.V k38 38 w60 w.heap.size (fun k_ => k_ ≠ gb650 ∧ k_ ≠ gb651 ∧ k_ ≠ gb663 ∧ k_ ≠ gb672) (.slice Ao28 t655.length co28) t655) := ⟨(by rw [hw]; exact (by (with_reducible repeat (first | apply Va_ | apply Vn_ | apply Vd_)); exact Vm_ (Vf_ (p := ⟨gb651, 4, none⟩) (Vm_ HO657.out (fun k_ hk => (⟨hk, hk.2.1⟩ : _ ∧ k_ ≠ gb651))) (fun _ hk => hk.2) (.int .i64 1)) (fun _ hk => ⟨hk.1.1, ⟨hk.1.2.1, ⟨hk.1.2.2.1, hk.1.2.2.2⟩⟩⟩)))⟩; have n1_ : Aside0 (Kd.V (Kd.slice 3 (Kd.int .i64)) 64 w60 w.heap.size (fun k_ => k_ ≠ gb650 ∧ k_ ≠ gb651 ∧ k_ ≠ gb663 ∧ k_ ≠ gb672) (.slice Ao32 t658.length co32) t658) := ⟨(by rw [hw]; exact (by (with_reducible repeat (first | apply Va_ | apply Vn_ | apply Vd_)); exact Vm_ (Vf_ (p := ⟨gb651, 4, none⟩) (Vm_ HO660.out (fun k_ hk => (⟨hk, hk.2.1⟩ : _ ∧ k_ ≠ gb651))) (fun _ hk => hk.2) (.int .i64 1)) (fun _ hk => ⟨hk.1.1, ⟨hk.1.2.1, ⟨hk.1.2.2.1, hk.1.2.2.2⟩⟩⟩)))⟩; have n2_ : Aside0 (w60.heap[gb650]? = some (.cells #[.slice A0_0 l0_0.length c0_0, .slice A0_1 l0_1.length c0_1] 25 (0, 0))) := ⟨(by rw [hw]; exact (by (with_reducible repeat (first | refine Bn_ ?_ _ | refine Bd_ ?_ | refine Ba_ ?_ _)); refine blk_far ?_ NB650_651.out _; (with_reducible repeat (first | refine Bn_ ?_ _ | refine Bd_ ?_ | refine Ba_ ?_ _)); exact BK650.out))⟩; have n3_ : Aside0 (w60.heap[gb651]? = some (.cells #[.int .i64 a3_0, .int .i64 a3_1, .bool a3_2, .bool a3_3, .int .i64 1, .int .i64 a3_5] 38 (0, 0))) := ⟨(by rw [hw]; exact (by (with_reducible repeat (first | refine Bn_ ?_ _ | refine Bd_ ?_ | refine Ba_ ?_ _)); refine Bp_ (cs := #[.int .i64 a3_0, .int .i64 a3_1, .bool a3_2, .bool a3_3, .int .i64 a3_4, .int .i64 a3_5]) ?_ 4 _ rfl; (with_reducible repeat (first | refine Bn_ ?_ _ | refine Bd_ ?_ | refine Ba_ ?_ _)); exact BK651.out))⟩; have n4_ : Aside0 (w60.heap[gb663]? = some (.cells #[.slice Ao28 t655.length co28, .slice Ao32 t658.length co32] 25 (0, 0))) := ⟨(by rw [hw]; exact (by (with_reducible repeat (first | refine Bn_ ?_ _ | refine Bd_ ?_ | refine Ba_ ?_ _)); refine blk_far ?_ NB663_651.out _; (with_reducible repeat (first | refine Bn_ ?_ _ | refine Bd_ ?_ | refine Ba_ ?_ _)); exact BK663.out))⟩; have n5_ : Aside0 (w60.heap[gb672]? = some (.cells #[.int .i64 t665, .int .i64 t666, .bool t667, .bool t668, .int .i64 t669, .int .i64 t670] 38 (0, 0))) := ⟨(by rw [hw]; exact (by (with_reducible repeat (first | refine Bn_ ?_ _ | refine Bd_ ?_ | refine Ba_ ?_ _)); refine blk_far ?_ NB672_651.out _; (with_reducible repeat (first | refine Bn_ ?_ _ | refine Bd_ ?_ | refine Ba_ ?_ _)); exact BK672.out))⟩; have n6_ : Aside0 (Below w.heap.size w w60) := ⟨(by rw [hw]; exact (Pb4_ HB.out GE650.out GE651.out GE663.out GE672.out))⟩; clear hw; clear HO657; clear HO660; clear BK650; clear BK651; clear BK663; clear BK672; clear HB; have HO657 := n0_; have HO660 := n1_; have BK650 := n2_; have BK651 := n3_; have BK663 := n4_; have BK672 := n5_; have HB := n6_; clear n0_ n1_ n2_ n3_ n4_ n5_ n6_; obtain ⟨hcz61_0, hcz61_1, hfz61_0, hfz61_1⟩ := Ce2_ BK663.out) | ((with_reducible refine gate_callee (f := 21) rfl ?_); refine goesL_ (some 61) rfl rfl Try.func21 (by kernel_rfl) rfl #[.agg #[.slice Ao28 t655.length co28, .slice Ao32 t658.length co32], .int .i64 a1, .int .i64 t661] rfl (by (try simp only [List.map_toArray, List.map_cons, List.map_nil]); first | done | rfl | (simp only [List.length_drop, List.length_take]; rfl)) ?_; (with_reducible refine (handle_Close.calls (fun k_ => (k_ ≠ gb650 ∧ (k_ ≠ gb651 ∧ (k_ ≠ gb663 ∧ k_ ≠ gb672)))) _ _ t655 (fun k_ => (k_ ≠ gb650 ∧ (k_ ≠ gb651 ∧ (k_ ≠ gb663 ∧ k_ ≠ gb672)))) _ _ t658 a1 t661 t673 t676 t679 t680 t681 t682 t683 t684 t685 _ ?side1 ?side2 A35.out).mono ?_); (case side1 => exact HO657.out); (case side2 => exact HO660.out); rintro e w62 ⟨v674, v677, rfl, ho0, ho1, hb⟩; refine ⟨_, rfl, ?_⟩; have n0_ := Am_ (Vb_ (Pv_ HO657.out) hb); have n1_ := Am_ (Vb_ (Pv_ HO660.out) hb); have n2_ := Am_ (Vl_ (Vm_ (ok' := fun k_ => k_ ≠ gb650 ∧ k_ ≠ gb651 ∧ k_ ≠ gb663 ∧ k_ ≠ gb672) ho0 (fun k_ hk_ => ⟨Or.elim hk_ (fun hs_ => Or.elim hs_ (fun hs_ => hs_.1) (fun hs_ => hs_.1)) (fun hn_ => (Kd.freshB (g := gb650) (o := .cells #[.slice A0_0 l0_0.length c0_0, .slice A0_1 l0_1.length c0_1] 25 (0, 0)) (Pk_ BK650.out) k_ hn_)), Or.elim hk_ (fun hs_ => Or.elim hs_ (fun hs_ => hs_.2.1) (fun hs_ => hs_.2.1)) (fun hn_ => (Kd.freshB (g := gb651) (o := .cells #[.int .i64 a3_0, .int .i64 a3_1, .bool a3_2, .bool a3_3, .int .i64 1, .int .i64 a3_5] 38 (0, 0)) (Pk_ BK651.out) k_ hn_)), Or.elim hk_ (fun hs_ => Or.elim hs_ (fun hs_ => hs_.2.2.1) (fun hs_ => hs_.2.2.1)) (fun hn_ => (Kd.freshB (g := gb663) (o := .cells #[.slice Ao28 t655.length co28, .slice Ao32 t658.length co32] 25 (0, 0)) (Pk_ BK663.out) k_ hn_)), Or.elim hk_ (fun hs_ => Or.elim hs_ (fun hs_ => hs_.2.2.2) (fun hs_ => hs_.2.2.2)) (fun hn_ => (Kd.freshB (g := gb672) (o := .cells #[.int .i64 t665, .int .i64 t666, .bool t667, .bool t668, .int .i64 t669, .int .i64 t670] 38 (0, 0)) (Pk_ BK672.out) k_ hn_))⟩)) (Bz_ (Pb4_ HB.out GE650.out GE651.out GE663.out GE672.out))); have n3_ := Am_ (Vl_ (Vm_ (ok' := fun k_ => k_ ≠ gb650 ∧ k_ ≠ gb651 ∧ k_ ≠ gb663 ∧ k_ ≠ gb672) ho1 (fun k_ hk_ => ⟨Or.elim hk_ (fun hs_ => Or.elim hs_ (fun hs_ => hs_.1) (fun hs_ => hs_.1)) (fun hn_ => (Kd.freshB (g := gb650) (o := .cells #[.slice A0_0 l0_0.length c0_0, .slice A0_1 l0_1.length c0_1] 25 (0, 0)) (Pk_ BK650.out) k_ hn_)), Or.elim hk_ (fun hs_ => Or.elim hs_ (fun hs_ => hs_.2.1) (fun hs_ => hs_.2.1)) (fun hn_ => (Kd.freshB (g := gb651) (o := .cells #[.int .i64 a3_0, .int .i64 a3_1, .bool a3_2, .bool a3_3, .int .i64 1, .int .i64 a3_5] 38 (0, 0)) (Pk_ BK651.out) k_ hn_)), Or.elim hk_ (fun hs_ => Or.elim hs_ (fun hs_ => hs_.2.2.1) (fun hs_ => hs_.2.2.1)) (fun hn_ => (Kd.freshB (g := gb663) (o := .cells #[.slice Ao28 t655.length co28, .slice Ao32 t658.length co32] 25 (0, 0)) (Pk_ BK663.out) k_ hn_)), Or.elim hk_ (fun hs_ => Or.elim hs_ (fun hs_ => hs_.2.2.2) (fun hs_ => hs_.2.2.2)) (fun hn_ => (Kd.freshB (g := gb672) (o := .cells #[.int .i64 t665, .int .i64 t666, .bool t667, .bool t668, .int .i64 t669, .int .i64 t670] 38 (0, 0)) (Pk_ BK672.out) k_ hn_))⟩)) (Bz_ (Pb4_ HB.out GE650.out GE651.out GE663.out GE672.out))); have n4_ := Am_ (Bb_ (g := gb650) (o := .cells #[.slice A0_0 l0_0.length c0_0, .slice A0_1 l0_1.length c0_1] 25 (0, 0)) (Pk_ BK650.out) hb); have n5_ := Am_ (Bb_ (g := gb651) (o := .cells #[.int .i64 a3_0, .int .i64 a3_1, .bool a3_2, .bool a3_3, .int .i64 1, .int .i64 a3_5] 38 (0, 0)) (Pk_ BK651.out) hb); have n6_ := Am_ (Bb_ (g := gb663) (o := .cells #[.slice Ao28 t655.length co28, .slice Ao32 t658.length co32] 25 (0, 0)) (Pk_ BK663.out) hb); have n7_ := Am_ (Bb_ (g := gb672) (o := .cells #[.int .i64 t665, .int .i64 t666, .bool t667, .bool t668, .int .i64 t669, .int .i64 t670] 38 (0, 0)) (Pk_ BK672.out) hb); have n8_ := Am_ (Be_ (Pb4_ HB.out GE650.out GE651.out GE663.out GE672.out) hb); clear HO657; clear HO660; clear BK650; clear BK651; clear BK663; clear BK672; clear HB; have HO657 := n0_; have HO660 := n1_; have HO675 := n2_; have HO678 := n3_; have BK650 := n4_; have BK651 := n5_; have BK663 := n6_; have BK672 := n7_; have HB := n8_; clear n0_ n1_ n2_ n3_ n4_ n5_ n6_ n7_ n8_; (try clear hb); (try clear hb2); (try clear hk); (try clear hi); (try clear ho0); (try clear ho1)) | ((with_reducible refine gate_dst (N := 15) rfl ?_); refine box_event ?hg (N := 15) ?hd (cs := #[.slice none 0 0, .slice none 0 0]) (t := 25) ?hr ?_; (case hd => rfl); (case hg => rfl); (case hr => go_simp; try rfl); intro gb686 hg w63 hbox hb; have n0_ := Am_ (Vb_ (Ke_ (Pv_ HO657.out) gb686 (Nat.le_of_eq hg.symm)) hb); have n1_ := Am_ (Vb_ (Ke_ (Pv_ HO660.out) gb686 (Nat.le_of_eq hg.symm)) hb); have n2_ := Am_ (Vb_ (Ke_ (Pv_ HO675.out) gb686 (Nat.le_of_eq hg.symm)) hb); have n3_ := Am_ (Vb_ (Ke_ (Pv_ HO678.out) gb686 (Nat.le_of_eq hg.symm)) hb); have n4_ := Am_ (Bb_ (g := gb650) (o := .cells #[.slice A0_0 l0_0.length c0_0, .slice A0_1 l0_1.length c0_1] 25 (0, 0)) (Pk_ BK650.out) hb); have n5_ := Am_ (Bb_ (g := gb651) (o := .cells #[.int .i64 a3_0, .int .i64 a3_1, .bool a3_2, .bool a3_3, .int .i64 1, .int .i64 a3_5] 38 (0, 0)) (Pk_ BK651.out) hb); have n6_ := Am_ (Bb_ (g := gb663) (o := .cells #[.slice Ao28 t655.length co28, .slice Ao32 t658.length co32] 25 (0, 0)) (Pk_ BK663.out) hb); have n7_ := Am_ (Bb_ (g := gb672) (o := .cells #[.int .i64 t665, .int .i64 t666, .bool t667, .bool t668, .int .i64 t669, .int .i64 t670] 38 (0, 0)) (Pk_ BK672.out) hb); have n8_ := Am_ (Be_ (Pb4_ HB.out GE650.out GE651.out GE663.out GE672.out) hb); have n9_ := Am_ (hbox); have n10_ := Am_ ((by rw [hg]; exact (Bz_ (Pb4_ HB.out GE650.out GE651.out GE663.out GE672.out)) : w.heap.size ≤ gb686)); have n11_ := Am_ ((by rw [hg]; exact (Bz_ (Pb4_ HB.out GE650.out GE651.out GE663.out GE672.out)) : w.heap.size ≤ gb686)); have n12_ := Am_ ((by rw [hg]; exact Nat.ne_of_lt (blk_lt (g := gb650) (o := .cells #[.slice A0_0 l0_0.length c0_0, .slice A0_1 l0_1.length c0_1] 25 (0, 0)) (Pk_ BK650.out)) : gb650 ≠ gb686)); have n13_ := Am_ ((by rw [hg]; exact Nat.ne_of_gt (blk_lt (g := gb650) (o := .cells #[.slice A0_0 l0_0.length c0_0, .slice A0_1 l0_1.length c0_1] 25 (0, 0)) (Pk_ BK650.out)) : gb686 ≠ gb650)); have n14_ := Am_ ((by rw [hg]; exact Nat.ne_of_lt (blk_lt (g := gb651) (o := .cells #[.int .i64 a3_0, .int .i64 a3_1, .bool a3_2, .bool a3_3, .int .i64 1, .int .i64 a3_5] 38 (0, 0)) (Pk_ BK651.out)) : gb651 ≠ gb686)); have n15_ := Am_ ((by rw [hg]; exact Nat.ne_of_gt (blk_lt (g := gb651) (o := .cells #[.int .i64 a3_0, .int .i64 a3_1, .bool a3_2, .bool a3_3, .int .i64 1, .int .i64 a3_5] 38 (0, 0)) (Pk_ BK651.out)) : gb686 ≠ gb651)); have n16_ := Am_ ((by rw [hg]; exact Nat.ne_of_lt (blk_lt (g := gb663) (o := .cells #[.slice Ao28 t655.length co28, .slice Ao32 t658.length co32] 25 (0, 0)) (Pk_ BK663.out)) : gb663 ≠ gb686)); have n17_ := Am_ ((by rw [hg]; exact Nat.ne_of_gt (blk_lt (g := gb663) (o := .cells #[.slice Ao28 t655.length co28, .slice Ao32 t658.length co32] 25 (0, 0)) (Pk_ BK663.out)) : gb686 ≠ gb663)); have n18_ := Am_ ((by rw [hg]; exact Nat.ne_of_lt (blk_lt (g := gb672) (o := .cells #[.int .i64 t665, .int .i64 t666, .bool t667, .bool t668, .int .i64 t669, .int .i64 t670] 38 (0, 0)) (Pk_ BK672.out)) : gb672 ≠ gb686)); have n19_ := Am_ ((by rw [hg]; exact Nat.ne_of_gt (blk_lt (g := gb672) (o := .cells #[.int .i64 t665, .int .i64 t666, .bool t667, .bool t668, .int .i64 t669, .int .i64 t670] 38 (0, 0)) (Pk_ BK672.out)) : gb686 ≠ gb672)); clear HO657; clear HO660; clear HO675; clear HO678; clear BK650; clear BK651; clear BK663; clear BK672; clear HB; have HO657 := n0_; have HO660 := n1_; have HO675 := n2_; have HO678 := n3_; have BK650 := n4_; have BK651 := n5_; have BK663 := n6_; have BK672 := n7_; have HB := n8_; have BK686 := n9_; have GW686 := n10_; have GE686 := n11_; have NB650_686 := n12_; have NB686_650 := n13_; have NB651_686 := n14_; have NB686_651 := n15_; have NB663_686 := n16_; have NB686_663 := n17_; have NB672_686 := n18_; have NB686_672 := n19_; clear n0_ n1_ n2_ n3_ n4_ n5_ n6_ n7_ n8_ n9_ n10_ n11_ n12_ n13_ n14_ n15_ n16_ n17_ n18_ n19_; clear hb hbox hg) | ((with_reducible refine gate_dst (N := 16) rfl ?_); refine box_event ?hg (N := 16) ?hd (cs := #[.int .i64 0, .int .i64 0, .bool false, .bool false, .int .i64 0, .int .i64 0]) (t := 38) ?hr ?_; (case hd => rfl); (case hg => rfl); (case hr => go_simp; try rfl); intro gb687 hg w64 hbox hb; have n0_ := Am_ (Vb_ (Ke_ (Pv_ HO657.out) gb687 (Nat.le_of_eq hg.symm)) hb); have n1_ := Am_ (Vb_ (Ke_ (Pv_ HO660.out) gb687 (Nat.le_of_eq hg.symm)) hb); have n2_ := Am_ (Vb_ (Ke_ (Pv_ HO675.out) gb687 (Nat.le_of_eq hg.symm)) hb); have n3_ := Am_ (Vb_ (Ke_ (Pv_ HO678.out) gb687 (Nat.le_of_eq hg.symm)) hb); have n4_ := Am_ (Bb_ (g := gb650) (o := .cells #[.slice A0_0 l0_0.length c0_0, .slice A0_1 l0_1.length c0_1] 25 (0, 0)) (Pk_ BK650.out) hb); have n5_ := Am_ (Bb_ (g := gb651) (o := .cells #[.int .i64 a3_0, .int .i64 a3_1, .bool a3_2, .bool a3_3, .int .i64 1, .int .i64 a3_5] 38 (0, 0)) (Pk_ BK651.out) hb); have n6_ := Am_ (Bb_ (g := gb663) (o := .cells #[.slice Ao28 t655.length co28, .slice Ao32 t658.length co32] 25 (0, 0)) (Pk_ BK663.out) hb); have n7_ := Am_ (Bb_ (g := gb672) (o := .cells #[.int .i64 t665, .int .i64 t666, .bool t667, .bool t668, .int .i64 t669, .int .i64 t670] 38 (0, 0)) (Pk_ BK672.out) hb); have n8_ := Am_ (Bb_ (g := gb686) (o := .cells #[.slice none 0 0, .slice none 0 0] 25 (0, 0)) (Pk_ BK686.out) hb); have n9_ := Am_ (Be_ (Pb5_ HB.out GE650.out GE651.out GE663.out GE672.out GE686.out) hb); have n10_ := Am_ (hbox); have n11_ := Am_ ((by rw [hg]; exact (Bz_ (Pb5_ HB.out GE650.out GE651.out GE663.out GE672.out GE686.out)) : w.heap.size ≤ gb687)); have n12_ := Am_ ((by rw [hg]; exact (Bz_ (Pb5_ HB.out GE650.out GE651.out GE663.out GE672.out GE686.out)) : w.heap.size ≤ gb687)); have n13_ := Am_ ((by rw [hg]; exact Nat.ne_of_lt (blk_lt (g := gb650) (o := .cells #[.slice A0_0 l0_0.length c0_0, .slice A0_1 l0_1.length c0_1] 25 (0, 0)) (Pk_ BK650.out)) : gb650 ≠ gb687)); have n14_ := Am_ ((by rw [hg]; exact Nat.ne_of_gt (blk_lt (g := gb650) (o := .cells #[.slice A0_0 l0_0.length c0_0, .slice A0_1 l0_1.length c0_1] 25 (0, 0)) (Pk_ BK650.out)) : gb687 ≠ gb650)); have n15_ := Am_ ((by rw [hg]; exact Nat.ne_of_lt (blk_lt (g := gb651) (o := .cells #[.int .i64 a3_0, .int .i64 a3_1, .bool a3_2, .bool a3_3, .int .i64 1, .int .i64 a3_5] 38 (0, 0)) (Pk_ BK651.out)) : gb651 ≠ gb687)); have n16_ := Am_ ((by rw [hg]; exact Nat.ne_of_gt (blk_lt (g := gb651) (o := .cells #[.int .i64 a3_0, .int .i64 a3_1, .bool a3_2, .bool a3_3, .int .i64 1, .int .i64 a3_5] 38 (0, 0)) (Pk_ BK651.out)) : gb687 ≠ gb651)); have n17_ := Am_ ((by rw [hg]; exact Nat.ne_of_lt (blk_lt (g := gb663) (o := .cells #[.slice Ao28 t655.length co28, .slice Ao32 t658.length co32] 25 (0, 0)) (Pk_ BK663.out)) : gb663 ≠ gb687)); have n18_ := Am_ ((by rw [hg]; exact Nat.ne_of_gt (blk_lt (g := gb663) (o := .cells #[.slice Ao28 t655.length co28, .slice Ao32 t658.length co32] 25 (0, 0)) (Pk_ BK663.out)) : gb687 ≠ gb663)); have n19_ := Am_ ((by rw [hg]; exact Nat.ne_of_lt (blk_lt (g := gb672) (o := .cells #[.int .i64 t665, .int .i64 t666, .bool t667, .bool t668, .int .i64 t669, .int .i64 t670] 38 (0, 0)) (Pk_ BK672.out)) : gb672 ≠ gb687)); have n20_ := Am_ ((by rw [hg]; exact Nat.ne_of_gt (blk_lt (g := gb672) (o := .cells #[.int .i64 t665, .int .i64 t666, .bool t667, .bool t668, .int .i64 t669, .int .i64 t670] 38 (0, 0)) (Pk_ BK672.out)) : gb687 ≠ gb672)); have n21_ := Am_ ((by rw [hg]; exact Nat.ne_of_lt (blk_lt (g := gb686) (o := .cells #[.slice none 0 0, .slice none 0 0] 25 (0, 0)) (Pk_ BK686.out)) : gb686 ≠ gb687)); have n22_ := Am_ ((by rw [hg]; exact Nat.ne_of_gt (blk_lt (g := gb686) (o := .cells #[.slice none 0 0, .slice none 0 0] 25 (0, 0)) (Pk_ BK686.out)) : gb687 ≠ gb686)); clear HO657; clear HO660; clear HO675; clear HO678; clear BK650; clear BK651; clear BK663; clear BK672; clear BK686; clear HB; have HO657 := n0_; have HO660 := n1_; have HO675 := n2_; have HO678 := n3_; have BK650 := n4_; have BK651 := n5_; have BK663 := n6_; have BK672 := n7_; have BK686 := n8_; have HB := n9_; have BK687 := n10_; have GW687 := n11_; have GE687 := n12_; have NB650_687 := n13_; have NB687_650 := n14_; have NB651_687 := n15_; have NB687_651 := n16_; have NB663_687 := n17_; have NB687_663 := n18_; have NB672_687 := n19_; have NB687_672 := n20_; have NB686_687 := n21_; have NB687_686 := n22_; clear n0_ n1_ n2_ n3_ n4_ n5_ n6_ n7_ n8_ n9_ n10_ n11_ n12_ n13_ n14_ n15_ n16_ n17_ n18_ n19_ n20_ n21_ n22_; clear hb hbox hg; obtain ⟨Ao65, co65, eo65⟩ := Vx_ HO675.out; subst eo65; have hnb66 := NB686_650.out; have hnc66 := NB650_686.out; have hnb67 := NB686_651.out; have hnc67 := NB651_686.out; have hnb68 := NB686_663.out; have hnc68 := NB663_686.out; have hnb69 := NB686_672.out; have hnc69 := NB672_686.out; have hnb70 := NB686_687.out; have hnc70 := NB687_686.out; obtain ⟨hcz71_0, hcz71_1, hfz71_0, hfz71_1⟩ := Ce2_ BK686.out; obtain ⟨Ao72, co72, eo72⟩ := Vx_ HO678.out; subst eo72; have hnb73 := NB687_650.out; have hnc73 := NB650_687.out; have hnb74 := NB687_651.out; have hnc74 := NB651_687.out; have hnb75 := NB687_663.out; have hnc75 := NB663_687.out; have hnb76 := NB687_672.out; have hnc76 := NB672_687.out; obtain ⟨hcz77_0, hcz77_1, hcz77_2, hcz77_3, hcz77_4, hcz77_5, hfz77_0, hfz77_1, hfz77_2, hfz77_3, hfz77_4, hfz77_5⟩ := Ce6_ BK687.out))
             have n0_ : Aside0 (Kd.V k38 38 ((((((((w64.setCell ⟨gb686, 0, none⟩ (.slice Ao65 t673.length co65)).setCell ⟨gb686, 1, none⟩ (.slice Ao72 t676.length co72)).setCell ⟨gb687, 0, none⟩ (.int .i64 t679)).setCell ⟨gb687, 1, none⟩ (.int .i64 t680)).setCell ⟨gb687, 2, none⟩ (.bool t681)).setCell ⟨gb687, 3, none⟩ (.bool t682)).setCell ⟨gb687, 4, none⟩ (.int .i64 t683)).setCell ⟨gb687, 5, none⟩ (.int .i64 t684)) w.heap.size (fun k_ => k_ ≠ gb650 ∧ k_ ≠ gb651 ∧ k_ ≠ gb663 ∧ k_ ≠ gb672 ∧ k_ ≠ gb686 ∧ k_ ≠ gb687) (.slice Ao28 t655.length co28) t655) := ⟨by (with_reducible repeat (first | apply Va_ | apply Vn_ | apply Vd_)); exact Vm_ (Vf_ (p := ⟨gb687, 5, none⟩) (Vf_ (p := ⟨gb687, 4, none⟩) (Vf_ (p := ⟨gb687, 3, none⟩) (Vf_ (p := ⟨gb687, 2, none⟩) (Vf_ (p := ⟨gb687, 1, none⟩) (Vf_ (p := ⟨gb687, 0, none⟩) (Vf_ (p := ⟨gb686, 1, none⟩) (Vf_ (p := ⟨gb686, 0, none⟩) (Vm_ (Vm_ HO657.out (fun k_ hk => (⟨hk, hk.1.2⟩ : _ ∧ k_ ≠ gb686))) (fun k_ hk => (⟨hk, hk.1.2⟩ : _ ∧ k_ ≠ gb687))) (fun _ hk => hk.1.2) (.slice Ao65 t673.length co65)) (fun _ hk => hk.1.2) (.slice Ao72 t676.length co72)) (fun _ hk => hk.2) (.int .i64 t679)) (fun _ hk => hk.2) (.int .i64 t680)) (fun _ hk => hk.2) (.bool t681)) (fun _ hk => hk.2) (.bool t682)) (fun _ hk => hk.2) (.int .i64 t683)) (fun _ hk => hk.2) (.int .i64 t684)) (fun _ hk => ⟨hk.1.1.1.1.1, ⟨hk.1.1.1.1.2.1, ⟨hk.1.1.1.1.2.2.1, ⟨hk.1.1.1.1.2.2.2, ⟨hk.1.1.1.2, hk.1.1.2⟩⟩⟩⟩⟩)⟩
             have n1_ : Aside0 (Kd.V (Kd.slice 3 (Kd.int .i64)) 64 ((((((((w64.setCell ⟨gb686, 0, none⟩ (.slice Ao65 t673.length co65)).setCell ⟨gb686, 1, none⟩ (.slice Ao72 t676.length co72)).setCell ⟨gb687, 0, none⟩ (.int .i64 t679)).setCell ⟨gb687, 1, none⟩ (.int .i64 t680)).setCell ⟨gb687, 2, none⟩ (.bool t681)).setCell ⟨gb687, 3, none⟩ (.bool t682)).setCell ⟨gb687, 4, none⟩ (.int .i64 t683)).setCell ⟨gb687, 5, none⟩ (.int .i64 t684)) w.heap.size (fun k_ => k_ ≠ gb650 ∧ k_ ≠ gb651 ∧ k_ ≠ gb663 ∧ k_ ≠ gb672 ∧ k_ ≠ gb686 ∧ k_ ≠ gb687) (.slice Ao32 t658.length co32) t658) := ⟨by (with_reducible repeat (first | apply Va_ | apply Vn_ | apply Vd_)); exact Vm_ (Vf_ (p := ⟨gb687, 5, none⟩) (Vf_ (p := ⟨gb687, 4, none⟩) (Vf_ (p := ⟨gb687, 3, none⟩) (Vf_ (p := ⟨gb687, 2, none⟩) (Vf_ (p := ⟨gb687, 1, none⟩) (Vf_ (p := ⟨gb687, 0, none⟩) (Vf_ (p := ⟨gb686, 1, none⟩) (Vf_ (p := ⟨gb686, 0, none⟩) (Vm_ (Vm_ HO660.out (fun k_ hk => (⟨hk, hk.1.2⟩ : _ ∧ k_ ≠ gb686))) (fun k_ hk => (⟨hk, hk.1.2⟩ : _ ∧ k_ ≠ gb687))) (fun _ hk => hk.1.2) (.slice Ao65 t673.length co65)) (fun _ hk => hk.1.2) (.slice Ao72 t676.length co72)) (fun _ hk => hk.2) (.int .i64 t679)) (fun _ hk => hk.2) (.int .i64 t680)) (fun _ hk => hk.2) (.bool t681)) (fun _ hk => hk.2) (.bool t682)) (fun _ hk => hk.2) (.int .i64 t683)) (fun _ hk => hk.2) (.int .i64 t684)) (fun _ hk => ⟨hk.1.1.1.1.1, ⟨hk.1.1.1.1.2.1, ⟨hk.1.1.1.1.2.2.1, ⟨hk.1.1.1.1.2.2.2, ⟨hk.1.1.1.2, hk.1.1.2⟩⟩⟩⟩⟩)⟩
             have n2_ : Aside0 (Kd.V k38 38 ((((((((w64.setCell ⟨gb686, 0, none⟩ (.slice Ao65 t673.length co65)).setCell ⟨gb686, 1, none⟩ (.slice Ao72 t676.length co72)).setCell ⟨gb687, 0, none⟩ (.int .i64 t679)).setCell ⟨gb687, 1, none⟩ (.int .i64 t680)).setCell ⟨gb687, 2, none⟩ (.bool t681)).setCell ⟨gb687, 3, none⟩ (.bool t682)).setCell ⟨gb687, 4, none⟩ (.int .i64 t683)).setCell ⟨gb687, 5, none⟩ (.int .i64 t684)) w.heap.size (fun k_ => k_ ≠ gb650 ∧ k_ ≠ gb651 ∧ k_ ≠ gb663 ∧ k_ ≠ gb672 ∧ k_ ≠ gb686 ∧ k_ ≠ gb687) (.slice Ao65 t673.length co65) t673) := ⟨by (with_reducible repeat (first | apply Va_ | apply Vn_ | apply Vd_)); exact Vm_ (Vf_ (p := ⟨gb687, 5, none⟩) (Vf_ (p := ⟨gb687, 4, none⟩) (Vf_ (p := ⟨gb687, 3, none⟩) (Vf_ (p := ⟨gb687, 2, none⟩) (Vf_ (p := ⟨gb687, 1, none⟩) (Vf_ (p := ⟨gb687, 0, none⟩) (Vf_ (p := ⟨gb686, 1, none⟩) (Vf_ (p := ⟨gb686, 0, none⟩) (Vm_ (Vm_ HO675.out (fun k_ hk => (⟨hk, hk.1.2⟩ : _ ∧ k_ ≠ gb686))) (fun k_ hk => (⟨hk, hk.1.2⟩ : _ ∧ k_ ≠ gb687))) (fun _ hk => hk.1.2) (.slice Ao65 t673.length co65)) (fun _ hk => hk.1.2) (.slice Ao72 t676.length co72)) (fun _ hk => hk.2) (.int .i64 t679)) (fun _ hk => hk.2) (.int .i64 t680)) (fun _ hk => hk.2) (.bool t681)) (fun _ hk => hk.2) (.bool t682)) (fun _ hk => hk.2) (.int .i64 t683)) (fun _ hk => hk.2) (.int .i64 t684)) (fun _ hk => ⟨hk.1.1.1.1.1, ⟨hk.1.1.1.1.2.1, ⟨hk.1.1.1.1.2.2.1, ⟨hk.1.1.1.1.2.2.2, ⟨hk.1.1.1.2, hk.1.1.2⟩⟩⟩⟩⟩)⟩
             have n3_ : Aside0 (Kd.V (Kd.slice 3 (Kd.int .i64)) 64 ((((((((w64.setCell ⟨gb686, 0, none⟩ (.slice Ao65 t673.length co65)).setCell ⟨gb686, 1, none⟩ (.slice Ao72 t676.length co72)).setCell ⟨gb687, 0, none⟩ (.int .i64 t679)).setCell ⟨gb687, 1, none⟩ (.int .i64 t680)).setCell ⟨gb687, 2, none⟩ (.bool t681)).setCell ⟨gb687, 3, none⟩ (.bool t682)).setCell ⟨gb687, 4, none⟩ (.int .i64 t683)).setCell ⟨gb687, 5, none⟩ (.int .i64 t684)) w.heap.size (fun k_ => k_ ≠ gb650 ∧ k_ ≠ gb651 ∧ k_ ≠ gb663 ∧ k_ ≠ gb672 ∧ k_ ≠ gb686 ∧ k_ ≠ gb687) (.slice Ao72 t676.length co72) t676) := ⟨by (with_reducible repeat (first | apply Va_ | apply Vn_ | apply Vd_)); exact Vm_ (Vf_ (p := ⟨gb687, 5, none⟩) (Vf_ (p := ⟨gb687, 4, none⟩) (Vf_ (p := ⟨gb687, 3, none⟩) (Vf_ (p := ⟨gb687, 2, none⟩) (Vf_ (p := ⟨gb687, 1, none⟩) (Vf_ (p := ⟨gb687, 0, none⟩) (Vf_ (p := ⟨gb686, 1, none⟩) (Vf_ (p := ⟨gb686, 0, none⟩) (Vm_ (Vm_ HO678.out (fun k_ hk => (⟨hk, hk.1.2⟩ : _ ∧ k_ ≠ gb686))) (fun k_ hk => (⟨hk, hk.1.2⟩ : _ ∧ k_ ≠ gb687))) (fun _ hk => hk.1.2) (.slice Ao65 t673.length co65)) (fun _ hk => hk.1.2) (.slice Ao72 t676.length co72)) (fun _ hk => hk.2) (.int .i64 t679)) (fun _ hk => hk.2) (.int .i64 t680)) (fun _ hk => hk.2) (.bool t681)) (fun _ hk => hk.2) (.bool t682)) (fun _ hk => hk.2) (.int .i64 t683)) (fun _ hk => hk.2) (.int .i64 t684)) (fun _ hk => ⟨hk.1.1.1.1.1, ⟨hk.1.1.1.1.2.1, ⟨hk.1.1.1.1.2.2.1, ⟨hk.1.1.1.1.2.2.2, ⟨hk.1.1.1.2, hk.1.1.2⟩⟩⟩⟩⟩)⟩
             have n4_ : Aside0 (((((((((w64.setCell ⟨gb686, 0, none⟩ (.slice Ao65 t673.length co65)).setCell ⟨gb686, 1, none⟩ (.slice Ao72 t676.length co72)).setCell ⟨gb687, 0, none⟩ (.int .i64 t679)).setCell ⟨gb687, 1, none⟩ (.int .i64 t680)).setCell ⟨gb687, 2, none⟩ (.bool t681)).setCell ⟨gb687, 3, none⟩ (.bool t682)).setCell ⟨gb687, 4, none⟩ (.int .i64 t683)).setCell ⟨gb687, 5, none⟩ (.int .i64 t684)).heap[gb650]? = some (.cells #[.slice A0_0 l0_0.length c0_0, .slice A0_1 l0_1.length c0_1] 25 (0, 0))) := ⟨by (with_reducible repeat (first | refine Bn_ ?_ _ | refine Bd_ ?_ | refine Ba_ ?_ _)); refine blk_far ?_ NB650_687.out _; (with_reducible repeat (first | refine Bn_ ?_ _ | refine Bd_ ?_ | refine Ba_ ?_ _)); refine blk_far ?_ NB650_687.out _; (with_reducible repeat (first | refine Bn_ ?_ _ | refine Bd_ ?_ | refine Ba_ ?_ _)); refine blk_far ?_ NB650_687.out _; (with_reducible repeat (first | refine Bn_ ?_ _ | refine Bd_ ?_ | refine Ba_ ?_ _)); refine blk_far ?_ NB650_687.out _; (with_reducible repeat (first | refine Bn_ ?_ _ | refine Bd_ ?_ | refine Ba_ ?_ _)); refine blk_far ?_ NB650_687.out _; (with_reducible repeat (first | refine Bn_ ?_ _ | refine Bd_ ?_ | refine Ba_ ?_ _)); refine blk_far ?_ NB650_687.out _; (with_reducible repeat (first | refine Bn_ ?_ _ | refine Bd_ ?_ | refine Ba_ ?_ _)); refine blk_far ?_ NB650_686.out _; (with_reducible repeat (first | refine Bn_ ?_ _ | refine Bd_ ?_ | refine Ba_ ?_ _)); refine blk_far ?_ NB650_686.out _; (with_reducible repeat (first | refine Bn_ ?_ _ | refine Bd_ ?_ | refine Ba_ ?_ _)); exact BK650.out⟩
             have n5_ : Aside0 (((((((((w64.setCell ⟨gb686, 0, none⟩ (.slice Ao65 t673.length co65)).setCell ⟨gb686, 1, none⟩ (.slice Ao72 t676.length co72)).setCell ⟨gb687, 0, none⟩ (.int .i64 t679)).setCell ⟨gb687, 1, none⟩ (.int .i64 t680)).setCell ⟨gb687, 2, none⟩ (.bool t681)).setCell ⟨gb687, 3, none⟩ (.bool t682)).setCell ⟨gb687, 4, none⟩ (.int .i64 t683)).setCell ⟨gb687, 5, none⟩ (.int .i64 t684)).heap[gb651]? = some (.cells #[.int .i64 a3_0, .int .i64 a3_1, .bool a3_2, .bool a3_3, .int .i64 1, .int .i64 a3_5] 38 (0, 0))) := ⟨by (with_reducible repeat (first | refine Bn_ ?_ _ | refine Bd_ ?_ | refine Ba_ ?_ _)); refine blk_far ?_ NB651_687.out _; (with_reducible repeat (first | refine Bn_ ?_ _ | refine Bd_ ?_ | refine Ba_ ?_ _)); refine blk_far ?_ NB651_687.out _; (with_reducible repeat (first | refine Bn_ ?_ _ | refine Bd_ ?_ | refine Ba_ ?_ _)); refine blk_far ?_ NB651_687.out _; (with_reducible repeat (first | refine Bn_ ?_ _ | refine Bd_ ?_ | refine Ba_ ?_ _)); refine blk_far ?_ NB651_687.out _; (with_reducible repeat (first | refine Bn_ ?_ _ | refine Bd_ ?_ | refine Ba_ ?_ _)); refine blk_far ?_ NB651_687.out _; (with_reducible repeat (first | refine Bn_ ?_ _ | refine Bd_ ?_ | refine Ba_ ?_ _)); refine blk_far ?_ NB651_687.out _; (with_reducible repeat (first | refine Bn_ ?_ _ | refine Bd_ ?_ | refine Ba_ ?_ _)); refine blk_far ?_ NB651_686.out _; (with_reducible repeat (first | refine Bn_ ?_ _ | refine Bd_ ?_ | refine Ba_ ?_ _)); refine blk_far ?_ NB651_686.out _; (with_reducible repeat (first | refine Bn_ ?_ _ | refine Bd_ ?_ | refine Ba_ ?_ _)); exact BK651.out⟩
             have n6_ : Aside0 (((((((((w64.setCell ⟨gb686, 0, none⟩ (.slice Ao65 t673.length co65)).setCell ⟨gb686, 1, none⟩ (.slice Ao72 t676.length co72)).setCell ⟨gb687, 0, none⟩ (.int .i64 t679)).setCell ⟨gb687, 1, none⟩ (.int .i64 t680)).setCell ⟨gb687, 2, none⟩ (.bool t681)).setCell ⟨gb687, 3, none⟩ (.bool t682)).setCell ⟨gb687, 4, none⟩ (.int .i64 t683)).setCell ⟨gb687, 5, none⟩ (.int .i64 t684)).heap[gb663]? = some (.cells #[.slice Ao28 t655.length co28, .slice Ao32 t658.length co32] 25 (0, 0))) := ⟨by (with_reducible repeat (first | refine Bn_ ?_ _ | refine Bd_ ?_ | refine Ba_ ?_ _)); refine blk_far ?_ NB663_687.out _; (with_reducible repeat (first | refine Bn_ ?_ _ | refine Bd_ ?_ | refine Ba_ ?_ _)); refine blk_far ?_ NB663_687.out _; (with_reducible repeat (first | refine Bn_ ?_ _ | refine Bd_ ?_ | refine Ba_ ?_ _)); refine blk_far ?_ NB663_687.out _; (with_reducible repeat (first | refine Bn_ ?_ _ | refine Bd_ ?_ | refine Ba_ ?_ _)); refine blk_far ?_ NB663_687.out _; (with_reducible repeat (first | refine Bn_ ?_ _ | refine Bd_ ?_ | refine Ba_ ?_ _)); refine blk_far ?_ NB663_687.out _; (with_reducible repeat (first | refine Bn_ ?_ _ | refine Bd_ ?_ | refine Ba_ ?_ _)); refine blk_far ?_ NB663_687.out _; (with_reducible repeat (first | refine Bn_ ?_ _ | refine Bd_ ?_ | refine Ba_ ?_ _)); refine blk_far ?_ NB663_686.out _; (with_reducible repeat (first | refine Bn_ ?_ _ | refine Bd_ ?_ | refine Ba_ ?_ _)); refine blk_far ?_ NB663_686.out _; (with_reducible repeat (first | refine Bn_ ?_ _ | refine Bd_ ?_ | refine Ba_ ?_ _)); exact BK663.out⟩
             have n7_ : Aside0 (((((((((w64.setCell ⟨gb686, 0, none⟩ (.slice Ao65 t673.length co65)).setCell ⟨gb686, 1, none⟩ (.slice Ao72 t676.length co72)).setCell ⟨gb687, 0, none⟩ (.int .i64 t679)).setCell ⟨gb687, 1, none⟩ (.int .i64 t680)).setCell ⟨gb687, 2, none⟩ (.bool t681)).setCell ⟨gb687, 3, none⟩ (.bool t682)).setCell ⟨gb687, 4, none⟩ (.int .i64 t683)).setCell ⟨gb687, 5, none⟩ (.int .i64 t684)).heap[gb672]? = some (.cells #[.int .i64 t665, .int .i64 t666, .bool t667, .bool t668, .int .i64 t669, .int .i64 t670] 38 (0, 0))) := ⟨by (with_reducible repeat (first | refine Bn_ ?_ _ | refine Bd_ ?_ | refine Ba_ ?_ _)); refine blk_far ?_ NB672_687.out _; (with_reducible repeat (first | refine Bn_ ?_ _ | refine Bd_ ?_ | refine Ba_ ?_ _)); refine blk_far ?_ NB672_687.out _; (with_reducible repeat (first | refine Bn_ ?_ _ | refine Bd_ ?_ | refine Ba_ ?_ _)); refine blk_far ?_ NB672_687.out _; (with_reducible repeat (first | refine Bn_ ?_ _ | refine Bd_ ?_ | refine Ba_ ?_ _)); refine blk_far ?_ NB672_687.out _; (with_reducible repeat (first | refine Bn_ ?_ _ | refine Bd_ ?_ | refine Ba_ ?_ _)); refine blk_far ?_ NB672_687.out _; (with_reducible repeat (first | refine Bn_ ?_ _ | refine Bd_ ?_ | refine Ba_ ?_ _)); refine blk_far ?_ NB672_687.out _; (with_reducible repeat (first | refine Bn_ ?_ _ | refine Bd_ ?_ | refine Ba_ ?_ _)); refine blk_far ?_ NB672_686.out _; (with_reducible repeat (first | refine Bn_ ?_ _ | refine Bd_ ?_ | refine Ba_ ?_ _)); refine blk_far ?_ NB672_686.out _; (with_reducible repeat (first | refine Bn_ ?_ _ | refine Bd_ ?_ | refine Ba_ ?_ _)); exact BK672.out⟩
             have n8_ : Aside0 (((((((((w64.setCell ⟨gb686, 0, none⟩ (.slice Ao65 t673.length co65)).setCell ⟨gb686, 1, none⟩ (.slice Ao72 t676.length co72)).setCell ⟨gb687, 0, none⟩ (.int .i64 t679)).setCell ⟨gb687, 1, none⟩ (.int .i64 t680)).setCell ⟨gb687, 2, none⟩ (.bool t681)).setCell ⟨gb687, 3, none⟩ (.bool t682)).setCell ⟨gb687, 4, none⟩ (.int .i64 t683)).setCell ⟨gb687, 5, none⟩ (.int .i64 t684)).heap[gb686]? = some (.cells #[.slice Ao65 t673.length co65, .slice Ao72 t676.length co72] 25 (0, 0))) := ⟨by (with_reducible repeat (first | refine Bn_ ?_ _ | refine Bd_ ?_ | refine Ba_ ?_ _)); refine blk_far ?_ NB686_687.out _; (with_reducible repeat (first | refine Bn_ ?_ _ | refine Bd_ ?_ | refine Ba_ ?_ _)); refine blk_far ?_ NB686_687.out _; (with_reducible repeat (first | refine Bn_ ?_ _ | refine Bd_ ?_ | refine Ba_ ?_ _)); refine blk_far ?_ NB686_687.out _; (with_reducible repeat (first | refine Bn_ ?_ _ | refine Bd_ ?_ | refine Ba_ ?_ _)); refine blk_far ?_ NB686_687.out _; (with_reducible repeat (first | refine Bn_ ?_ _ | refine Bd_ ?_ | refine Ba_ ?_ _)); refine blk_far ?_ NB686_687.out _; (with_reducible repeat (first | refine Bn_ ?_ _ | refine Bd_ ?_ | refine Ba_ ?_ _)); refine blk_far ?_ NB686_687.out _; (with_reducible repeat (first | refine Bn_ ?_ _ | refine Bd_ ?_ | refine Ba_ ?_ _)); refine Bp_ (cs := #[.slice Ao65 t673.length co65, .slice none 0 0]) ?_ 1 _ rfl; (with_reducible repeat (first | refine Bn_ ?_ _ | refine Bd_ ?_ | refine Ba_ ?_ _)); refine Bp_ (cs := #[.slice none 0 0, .slice none 0 0]) ?_ 0 _ rfl; (with_reducible repeat (first | refine Bn_ ?_ _ | refine Bd_ ?_ | refine Ba_ ?_ _)); exact BK686.out⟩
             have n9_ : Aside0 (((((((((w64.setCell ⟨gb686, 0, none⟩ (.slice Ao65 t673.length co65)).setCell ⟨gb686, 1, none⟩ (.slice Ao72 t676.length co72)).setCell ⟨gb687, 0, none⟩ (.int .i64 t679)).setCell ⟨gb687, 1, none⟩ (.int .i64 t680)).setCell ⟨gb687, 2, none⟩ (.bool t681)).setCell ⟨gb687, 3, none⟩ (.bool t682)).setCell ⟨gb687, 4, none⟩ (.int .i64 t683)).setCell ⟨gb687, 5, none⟩ (.int .i64 t684)).heap[gb687]? = some (.cells #[.int .i64 t679, .int .i64 t680, .bool t681, .bool t682, .int .i64 t683, .int .i64 t684] 38 (0, 0))) := ⟨by (with_reducible repeat (first | refine Bn_ ?_ _ | refine Bd_ ?_ | refine Ba_ ?_ _)); refine Bp_ (cs := #[.int .i64 t679, .int .i64 t680, .bool t681, .bool t682, .int .i64 t683, .int .i64 0]) ?_ 5 _ rfl; (with_reducible repeat (first | refine Bn_ ?_ _ | refine Bd_ ?_ | refine Ba_ ?_ _)); refine Bp_ (cs := #[.int .i64 t679, .int .i64 t680, .bool t681, .bool t682, .int .i64 0, .int .i64 0]) ?_ 4 _ rfl; (with_reducible repeat (first | refine Bn_ ?_ _ | refine Bd_ ?_ | refine Ba_ ?_ _)); refine Bp_ (cs := #[.int .i64 t679, .int .i64 t680, .bool t681, .bool false, .int .i64 0, .int .i64 0]) ?_ 3 _ rfl; (with_reducible repeat (first | refine Bn_ ?_ _ | refine Bd_ ?_ | refine Ba_ ?_ _)); refine Bp_ (cs := #[.int .i64 t679, .int .i64 t680, .bool false, .bool false, .int .i64 0, .int .i64 0]) ?_ 2 _ rfl; (with_reducible repeat (first | refine Bn_ ?_ _ | refine Bd_ ?_ | refine Ba_ ?_ _)); refine Bp_ (cs := #[.int .i64 t679, .int .i64 0, .bool false, .bool false, .int .i64 0, .int .i64 0]) ?_ 1 _ rfl; (with_reducible repeat (first | refine Bn_ ?_ _ | refine Bd_ ?_ | refine Ba_ ?_ _)); refine Bp_ (cs := #[.int .i64 0, .int .i64 0, .bool false, .bool false, .int .i64 0, .int .i64 0]) ?_ 0 _ rfl; (with_reducible repeat (first | refine Bn_ ?_ _ | refine Bd_ ?_ | refine Ba_ ?_ _)); refine blk_far ?_ NB687_686.out _; (with_reducible repeat (first | refine Bn_ ?_ _ | refine Bd_ ?_ | refine Ba_ ?_ _)); refine blk_far ?_ NB687_686.out _; (with_reducible repeat (first | refine Bn_ ?_ _ | refine Bd_ ?_ | refine Ba_ ?_ _)); exact BK687.out⟩
             have n10_ : Aside0 (Below w.heap.size w ((((((((w64.setCell ⟨gb686, 0, none⟩ (.slice Ao65 t673.length co65)).setCell ⟨gb686, 1, none⟩ (.slice Ao72 t676.length co72)).setCell ⟨gb687, 0, none⟩ (.int .i64 t679)).setCell ⟨gb687, 1, none⟩ (.int .i64 t680)).setCell ⟨gb687, 2, none⟩ (.bool t681)).setCell ⟨gb687, 3, none⟩ (.bool t682)).setCell ⟨gb687, 4, none⟩ (.int .i64 t683)).setCell ⟨gb687, 5, none⟩ (.int .i64 t684))) := ⟨by repeat (first | (with_reducible first | exact HB.out | apply Pa_ | apply Pn_ | apply Pd_ | refine Bs_ ?_ GE650.out | refine Bs_ ?_ GE651.out | refine Bs_ ?_ GE663.out | refine Bs_ ?_ GE672.out | refine Bs_ ?_ GE686.out | refine Bs_ ?_ GE687.out) | exact HB.out)⟩
             (try clear HO657)
             (try clear HO660)
             (try clear HO675)
             (try clear HO678)
             (try clear BK650)
             (try clear BK651)
             (try clear BK663)
             (try clear BK672)
             (try clear BK686)
             (try clear BK687)
             (try clear HB)
             generalize ((((((((w64.setCell ⟨gb686, 0, none⟩ (.slice Ao65 t673.length co65)).setCell ⟨gb686, 1, none⟩ (.slice Ao72 t676.length co72)).setCell ⟨gb687, 0, none⟩ (.int .i64 t679)).setCell ⟨gb687, 1, none⟩ (.int .i64 t680)).setCell ⟨gb687, 2, none⟩ (.bool t681)).setCell ⟨gb687, 3, none⟩ (.bool t682)).setCell ⟨gb687, 4, none⟩ (.int .i64 t683)).setCell ⟨gb687, 5, none⟩ (.int .i64 t684)) = w78 at n0_ n1_ n2_ n3_ n4_ n5_ n6_ n7_ n8_ n9_ n10_ ⊢
             have HO657 := n0_
             have HO660 := n1_
             have HO675 := n2_
             have HO678 := n3_
             have BK650 := n4_
             have BK651 := n5_
             have BK663 := n6_
             have BK672 := n7_
             have BK686 := n8_
             have BK687 := n9_
             have HB := n10_
             clear n0_ n1_ n2_ n3_ n4_ n5_ n6_ n7_ n8_ n9_ n10_
             have n0_ := Am_ (Vd_ HO657.out)
             have n1_ := Am_ (Vd_ HO660.out)
             have n2_ := Am_ (Vd_ HO675.out)
             have n3_ := Am_ (Vd_ HO678.out)
             have n4_ := Am_ (Bd_ BK650.out)
             have n5_ := Am_ (Bd_ BK651.out)
             have n6_ := Am_ (Bd_ BK663.out)
             have n7_ := Am_ (Bd_ BK672.out)
             have n8_ := Am_ (Bd_ BK686.out)
             have n9_ := Am_ (Bd_ BK687.out)
             have n10_ := Am_ (Pd_ HB.out)
             clear HO657
             clear HO660
             clear HO675
             clear HO678
             clear BK650
             clear BK651
             clear BK663
             clear BK672
             clear BK686
             clear BK687
             clear HB
             have HO657 := n0_
             have HO660 := n1_
             have HO675 := n2_
             have HO678 := n3_
             have BK650 := n4_
             have BK651 := n5_
             have BK663 := n6_
             have BK672 := n7_
             have BK686 := n8_
             have BK687 := n9_
             have HB := n10_
             clear n0_ n1_ n2_ n3_ n4_ n5_ n6_ n7_ n8_ n9_ n10_
             refine start_ (n := 42) (S := fun w' => w'.cell? ⟨gb672, 0, none⟩ = some (.int .i64 t665) ∧ w'.cell? ⟨gb672, 1, none⟩ = some (.int .i64 t666) ∧ w'.cell? ⟨gb672, 2, none⟩ = some (.bool t667) ∧ w'.cell? ⟨gb672, 3, none⟩ = some (.bool t668) ∧ w'.cell? ⟨gb672, 4, none⟩ = some (.int .i64 t669) ∧ w'.cell? ⟨gb672, 5, none⟩ = some (.int .i64 t670) ∧ w'.cell? ⟨gb651, 0, none⟩ = some (.int .i64 a3_0) ∧ w'.cell? ⟨gb651, 1, none⟩ = some (.int .i64 a3_1) ∧ w'.cell? ⟨gb651, 2, none⟩ = some (.bool a3_2) ∧ w'.cell? ⟨gb651, 3, none⟩ = some (.bool a3_3) ∧ w'.cell? ⟨gb651, 4, none⟩ = some (.int .i64 1) ∧ w'.cell? ⟨gb651, 5, none⟩ = some (.int .i64 a3_5) ∧ w'.cell? ⟨gb687, 0, none⟩ = some (.int .i64 t679) ∧ w'.cell? ⟨gb687, 1, none⟩ = some (.int .i64 t680) ∧ w'.cell? ⟨gb687, 2, none⟩ = some (.bool t681) ∧ w'.cell? ⟨gb687, 3, none⟩ = some (.bool t682) ∧ w'.cell? ⟨gb687, 4, none⟩ = some (.int .i64 t683) ∧ w'.cell? ⟨gb687, 5, none⟩ = some (.int .i64 t684) ∧ w'.cell? ⟨gb663, 0, none⟩ = some (.slice Ao28 t655.length co28) ∧ w'.cell? ⟨gb663, 1, none⟩ = some (.slice Ao32 t658.length co32) ∧ w'.cell? ⟨gb650, 0, none⟩ = some (.slice A0_0 l0_0.length c0_0) ∧ w'.cell? ⟨gb650, 1, none⟩ = some (.slice A0_1 l0_1.length c0_1) ∧ w'.cell? ⟨gb686, 0, none⟩ = some (.slice Ao65 t673.length co65) ∧ w'.cell? ⟨gb686, 1, none⟩ = some (.slice Ao72 t676.length co72)) (ds := []) #[f_,f_,f_,f_,f_,f_,f_,f_,f_,f_,f_,f_,f_,f_,f_,f_,f_,f_,f_,f_,f_,f_,f_,f_,f_,f_,f_,f_,f_,f_,f_,f_,f_,f_,f_,f_,f_,f_,f_,f_,f_,f_] (by kernel_rfl) rfl rfl ⟨(Bc_ BK672.out 0).trans rfl, (Bc_ BK672.out 1).trans rfl, (Bc_ BK672.out 2).trans rfl, (Bc_ BK672.out 3).trans rfl, (Bc_ BK672.out 4).trans rfl, (Bc_ BK672.out 5).trans rfl, (Bc_ BK651.out 0).trans rfl, (Bc_ BK651.out 1).trans rfl, (Bc_ BK651.out 2).trans rfl, (Bc_ BK651.out 3).trans rfl, (Bc_ BK651.out 4).trans rfl, (Bc_ BK651.out 5).trans rfl, (Bc_ BK687.out 0).trans rfl, (Bc_ BK687.out 1).trans rfl, (Bc_ BK687.out 2).trans rfl, (Bc_ BK687.out 3).trans rfl, (Bc_ BK687.out 4).trans rfl, (Bc_ BK687.out 5).trans rfl, (Bc_ BK663.out 0).trans rfl, (Bc_ BK663.out 1).trans rfl, (Bc_ BK650.out 0).trans rfl, (Bc_ BK650.out 1).trans rfl, (Bc_ BK686.out 0).trans rfl, (Bc_ BK686.out 1).trans rfl⟩ (fun hHeld => ?_); refine with_tabW flagstonelaw10_HandleBack.tab8 flagstonelaw10_HandleBack.bits8 (fun HT_ HW_ => ?_)
             generalize w78.drew = w79 at HO657 HO660 HO675 HO678 BK650 BK651 BK663 BK672 BK686 BK687 HB hHeld ⊢
             refine pure_ (i := 0) (N := some 65) (v := ?_) (a' := ?_) #[t_,f_,f_,f_,f_,f_,f_,f_,f_,f_,f_,f_,f_,f_,f_,f_,f_,f_,f_,f_,f_,f_,f_,f_,f_,f_,f_,f_,f_,f_,f_,f_,f_,f_,f_,f_,f_,f_,f_,f_,f_,f_] rfl rfl (any_of HT_.out (by kernel_rfl)) (fun _ _ _ h => h) (Or.inl ⟨by rfl, ?_⟩) ?_ ?_
             rotate_left
             ·intro w'
              go_simp
              with_reducible rfl
             rotate_left
             ·simp only [Act.put, La_, Lb_, Lc_, i64_w, i32_w]
              rfl
             refine pure_ (i := 1) (N := some 66) (v := ?_) (a' := ?_) #[t_,t_,f_,f_,f_,f_,f_,f_,f_,f_,f_,f_,f_,f_,f_,f_,f_,f_,f_,f_,f_,f_,f_,f_,f_,f_,f_,f_,f_,f_,f_,f_,f_,f_,f_,f_,f_,f_,f_,f_,f_,f_] rfl rfl (any_of HT_.out (by kernel_rfl)) (fun _ _ _ h => h) (Or.inl ⟨by rfl, ?_⟩) ?_ ?_
             rotate_left
             ·intro w'
              go_simp
              with_reducible rfl
             rotate_left
             ·simp only [Act.put, La_, Lb_, Lc_, i64_w, i32_w]
              rfl
             refine pure_ (i := 2) (N := some 67) (v := ?_) (a' := ?_) #[t_,t_,t_,f_,f_,f_,f_,f_,f_,f_,f_,f_,f_,f_,f_,f_,f_,f_,f_,f_,f_,f_,f_,f_,f_,f_,f_,f_,f_,f_,f_,f_,f_,f_,f_,f_,f_,f_,f_,f_,f_,f_] rfl rfl (any_of HT_.out (by kernel_rfl)) (fun _ _ _ h => h) (Or.inl ⟨by rfl, ?_⟩) ?_ ?_
             rotate_left
             ·intro w'
              go_simp
              with_reducible rfl
             rotate_left
             ·simp only [Act.put, La_, Lb_, Lc_, i64_w, i32_w]
              rfl
             refine take_ (i := 3) (N := some 68) (v := ?_) (a' := ?_) #[t_,t_,t_,t_,f_,f_,f_,f_,f_,f_,f_,f_,f_,f_,f_,f_,f_,f_,f_,f_,f_,f_,f_,f_,f_,f_,f_,f_,f_,f_,f_,f_,f_,f_,f_,f_,f_,f_,f_,f_,f_,f_] rfl rfl (take_ofW HT_.out HW_.out (by kernel_rfl)) (fun _ _ _ h => h) (Or.inl ⟨by rfl, ?_⟩) hHeld ?_ ?_
             rotate_left
             ·rintro w' ⟨s0, s1, s2, s3, s4, s5, s6, s7, s8, s9, s10, s11, s12, s13, s14, s15, s16, s17, s18, s19, s20, s21, s22, s23⟩
              go_simp
              with_reducible rfl
             rotate_left
             ·simp only [Act.put, La_, Lb_, Lc_, i64_w, i32_w]
              rfl
             refine take_ (i := 4) (N := some 69) (v := ?_) (a' := ?_) #[t_,t_,t_,t_,t_,f_,f_,f_,f_,f_,f_,f_,f_,f_,f_,f_,f_,f_,f_,f_,f_,f_,f_,f_,f_,f_,f_,f_,f_,f_,f_,f_,f_,f_,f_,f_,f_,f_,f_,f_,f_,f_] rfl rfl (take_ofW HT_.out HW_.out (by kernel_rfl)) (fun _ _ _ h => h) (Or.inl ⟨by rfl, ?_⟩) hHeld ?_ ?_
             rotate_left
             ·rintro w' ⟨s0, s1, s2, s3, s4, s5, s6, s7, s8, s9, s10, s11, s12, s13, s14, s15, s16, s17, s18, s19, s20, s21, s22, s23⟩
              go_simp
              with_reducible rfl
             rotate_left
             ·simp only [Act.put, La_, Lb_, Lc_, i64_w, i32_w]
              rfl
             refine pure_ (i := 5) (N := some 70) (v := ?_) (a' := ?_) #[t_,t_,t_,t_,t_,t_,f_,f_,f_,f_,f_,f_,f_,f_,f_,f_,f_,f_,f_,f_,f_,f_,f_,f_,f_,f_,f_,f_,f_,f_,f_,f_,f_,f_,f_,f_,f_,f_,f_,f_,f_,f_] rfl rfl (any_of HT_.out (by kernel_rfl)) (fun _ _ _ h => h) (Or.inl ⟨by rfl, ?_⟩) ?_ ?_
             rotate_left
             ·intro w'
              go_simp
              with_reducible rfl
             rotate_left
             ·simp only [Act.put, La_, Lb_, Lc_, i64_w, i32_w]
              rfl
             refine pure_ (i := 6) (N := some 71) (v := ?_) (a' := ?_) #[t_,t_,t_,t_,t_,t_,t_,f_,f_,f_,f_,f_,f_,f_,f_,f_,f_,f_,f_,f_,f_,f_,f_,f_,f_,f_,f_,f_,f_,f_,f_,f_,f_,f_,f_,f_,f_,f_,f_,f_,f_,f_] rfl rfl (any_of HT_.out (by kernel_rfl)) (fun _ _ _ h => h) (Or.inl ⟨by rfl, ?_⟩) ?_ ?_
             rotate_left
             ·intro w'
              go_simp
              with_reducible rfl
             rotate_left
             ·simp only [Act.put, La_, Lb_, Lc_, i64_w, i32_w]
              rfl
             refine pure_ (i := 7) (N := some 72) (v := ?_) (a' := ?_) #[t_,t_,t_,t_,t_,t_,t_,t_,f_,f_,f_,f_,f_,f_,f_,f_,f_,f_,f_,f_,f_,f_,f_,f_,f_,f_,f_,f_,f_,f_,f_,f_,f_,f_,f_,f_,f_,f_,f_,f_,f_,f_] rfl rfl (any_of HT_.out (by kernel_rfl)) (fun _ _ _ h => h) (Or.inl ⟨by rfl, ?_⟩) ?_ ?_
             rotate_left
             ·intro w'
              go_simp
              with_reducible rfl
             rotate_left
             ·simp only [Act.put, La_, Lb_, Lc_, i64_w, i32_w]
              rfl
             refine pure_ (i := 8) (N := some 73) (v := ?_) (a' := ?_) #[t_,t_,t_,t_,t_,t_,t_,t_,t_,f_,f_,f_,f_,f_,f_,f_,f_,f_,f_,f_,f_,f_,f_,f_,f_,f_,f_,f_,f_,f_,f_,f_,f_,f_,f_,f_,f_,f_,f_,f_,f_,f_] rfl rfl (any_of HT_.out (by kernel_rfl)) (fun _ _ _ h => h) (Or.inl ⟨by rfl, ?_⟩) ?_ ?_
             rotate_left
             ·intro w'
              go_simp
              with_reducible rfl
             rotate_left
             ·simp only [Act.put, La_, Lb_, Lc_, i64_w, i32_w]
              rfl
             refine pure_ (i := 9) (N := some 74) (v := ?_) (a' := ?_) #[t_,t_,t_,t_,t_,t_,t_,t_,t_,t_,f_,f_,f_,f_,f_,f_,f_,f_,f_,f_,f_,f_,f_,f_,f_,f_,f_,f_,f_,f_,f_,f_,f_,f_,f_,f_,f_,f_,f_,f_,f_,f_] rfl rfl (any_of HT_.out (by kernel_rfl)) (fun _ _ _ h => h) (Or.inl ⟨by rfl, ?_⟩) ?_ ?_
             rotate_left
             ·intro w'
              go_simp
              with_reducible rfl
             rotate_left
             ·simp only [Act.put, La_, Lb_, Lc_, i64_w, i32_w]
              rfl
             refine pure_ (i := 10) (N := some 75) (v := ?_) (a' := ?_) #[t_,t_,t_,t_,t_,t_,t_,t_,t_,t_,t_,f_,f_,f_,f_,f_,f_,f_,f_,f_,f_,f_,f_,f_,f_,f_,f_,f_,f_,f_,f_,f_,f_,f_,f_,f_,f_,f_,f_,f_,f_,f_] rfl rfl (any_of HT_.out (by kernel_rfl)) (fun _ _ _ h => h) (Or.inl ⟨by rfl, ?_⟩) ?_ ?_
             rotate_left
             ·intro w'
              go_simp
              with_reducible rfl
             rotate_left
             ·simp only [Act.put, La_, Lb_, Lc_, i64_w, i32_w]
              rfl
             refine pure_ (i := 11) (N := some 76) (v := ?_) (a' := ?_) #[t_,t_,t_,t_,t_,t_,t_,t_,t_,t_,t_,t_,f_,f_,f_,f_,f_,f_,f_,f_,f_,f_,f_,f_,f_,f_,f_,f_,f_,f_,f_,f_,f_,f_,f_,f_,f_,f_,f_,f_,f_,f_] rfl rfl (any_of HT_.out (by kernel_rfl)) (fun _ _ _ h => h) (Or.inl ⟨by rfl, ?_⟩) ?_ ?_
             rotate_left
             ·intro w'
              go_simp
              with_reducible rfl
             rotate_left
             ·simp only [Act.put, La_, Lb_, Lc_, i64_w, i32_w]
              rfl
             refine pure_ (i := 12) (N := some 77) (v := ?_) (a' := ?_) #[t_,t_,t_,t_,t_,t_,t_,t_,t_,t_,t_,t_,t_,f_,f_,f_,f_,f_,f_,f_,f_,f_,f_,f_,f_,f_,f_,f_,f_,f_,f_,f_,f_,f_,f_,f_,f_,f_,f_,f_,f_,f_] rfl rfl (any_of HT_.out (by kernel_rfl)) (fun _ _ _ h => h) (Or.inl ⟨by rfl, ?_⟩) ?_ ?_
             rotate_left
             ·intro w'
              go_simp
              with_reducible rfl
             rotate_left
             ·simp only [Act.put, La_, Lb_, Lc_, i64_w, i32_w]
              rfl
             refine take_ (i := 13) (N := some 78) (v := ?_) (a' := ?_) #[t_,t_,t_,t_,t_,t_,t_,t_,t_,t_,t_,t_,t_,t_,f_,f_,f_,f_,f_,f_,f_,f_,f_,f_,f_,f_,f_,f_,f_,f_,f_,f_,f_,f_,f_,f_,f_,f_,f_,f_,f_,f_] rfl rfl (take_ofW HT_.out HW_.out (by kernel_rfl)) (fun _ _ _ h => h) (Or.inl ⟨by rfl, ?_⟩) hHeld ?_ ?_
             rotate_left
             ·rintro w' ⟨s0, s1, s2, s3, s4, s5, s6, s7, s8, s9, s10, s11, s12, s13, s14, s15, s16, s17, s18, s19, s20, s21, s22, s23⟩
              go_simp
              with_reducible rfl
             rotate_left
             ·simp only [Act.put, La_, Lb_, Lc_, i64_w, i32_w]
              rfl
             refine pure_ (i := 14) (N := some 79) (v := ?_) (a' := ?_) #[t_,t_,t_,t_,t_,t_,t_,t_,t_,t_,t_,t_,t_,t_,t_,f_,f_,f_,f_,f_,f_,f_,f_,f_,f_,f_,f_,f_,f_,f_,f_,f_,f_,f_,f_,f_,f_,f_,f_,f_,f_,f_] rfl rfl (any_of HT_.out (by kernel_rfl)) (fun _ _ _ h => h) (Or.inl ⟨by rfl, ?_⟩) ?_ ?_
             rotate_left
             ·intro w'
              go_simp
              with_reducible rfl
             rotate_left
             ·simp only [Act.put, La_, Lb_, Lc_, i64_w, i32_w]
              rfl
             refine pure_ (i := 15) (N := some 80) (v := ?_) (a' := ?_) #[t_,t_,t_,t_,t_,t_,t_,t_,t_,t_,t_,t_,t_,t_,t_,t_,f_,f_,f_,f_,f_,f_,f_,f_,f_,f_,f_,f_,f_,f_,f_,f_,f_,f_,f_,f_,f_,f_,f_,f_,f_,f_] rfl rfl (any_of HT_.out (by kernel_rfl)) (fun _ _ _ h => h) (Or.inl ⟨by rfl, ?_⟩) ?_ ?_
             rotate_left
             ·intro w'
              go_simp
              with_reducible rfl
             rotate_left
             ·simp only [Act.put, La_, Lb_, Lc_, i64_w, i32_w]
              rfl
             refine pure_ (i := 16) (N := some 81) (v := ?_) (a' := ?_) #[t_,t_,t_,t_,t_,t_,t_,t_,t_,t_,t_,t_,t_,t_,t_,t_,t_,f_,f_,f_,f_,f_,f_,f_,f_,f_,f_,f_,f_,f_,f_,f_,f_,f_,f_,f_,f_,f_,f_,f_,f_,f_] rfl rfl (any_of HT_.out (by kernel_rfl)) (fun _ _ _ h => h) (Or.inl ⟨by rfl, ?_⟩) ?_ ?_
             rotate_left
             ·intro w'
              go_simp
              with_reducible rfl
             rotate_left
             ·simp only [Act.put, La_, Lb_, Lc_, i64_w, i32_w]
              rfl
             refine pure_ (i := 17) (N := some 82) (v := ?_) (a' := ?_) #[t_,t_,t_,t_,t_,t_,t_,t_,t_,t_,t_,t_,t_,t_,t_,t_,t_,t_,f_,f_,f_,f_,f_,f_,f_,f_,f_,f_,f_,f_,f_,f_,f_,f_,f_,f_,f_,f_,f_,f_,f_,f_] rfl rfl (any_of HT_.out (by kernel_rfl)) (fun _ _ _ h => h) (Or.inl ⟨by rfl, ?_⟩) ?_ ?_
             rotate_left
             ·intro w'
              go_simp
              with_reducible rfl
             rotate_left
             ·simp only [Act.put, La_, Lb_, Lc_, i64_w, i32_w]
              rfl
             refine pure_ (i := 19) (N := some 84) (v := ?_) (a' := ?_) #[t_,t_,t_,t_,t_,t_,t_,t_,t_,t_,t_,t_,t_,t_,t_,t_,t_,t_,f_,t_,f_,f_,f_,f_,f_,f_,f_,f_,f_,f_,f_,f_,f_,f_,f_,f_,f_,f_,f_,f_,f_,f_] rfl rfl (any_of HT_.out (by kernel_rfl)) (fun _ _ _ h => h) (Or.inl ⟨by rfl, ?_⟩) ?_ ?_
             rotate_left
             ·intro w'
              go_simp
              with_reducible rfl
             rotate_left
             ·simp only [Act.put, La_, Lb_, Lc_, i64_w, i32_w]
              rfl
             refine take_ (i := 18) (N := some 83) (v := ?_) (a' := ?_) #[t_,t_,t_,t_,t_,t_,t_,t_,t_,t_,t_,t_,t_,t_,t_,t_,t_,t_,t_,t_,f_,f_,f_,f_,f_,f_,f_,f_,f_,f_,f_,f_,f_,f_,f_,f_,f_,f_,f_,f_,f_,f_] rfl rfl (take_ofW HT_.out HW_.out (by kernel_rfl)) (fun _ _ _ h => h) (Or.inl ⟨by rfl, ?_⟩) hHeld ?_ ?_
             rotate_left
             ·rintro w' ⟨s0, s1, s2, s3, s4, s5, s6, s7, s8, s9, s10, s11, s12, s13, s14, s15, s16, s17, s18, s19, s20, s21, s22, s23⟩
              go_simp
              with_reducible rfl
             rotate_left
             ·simp only [Act.put, La_, Lb_, Lc_, i64_w, i32_w]
              rfl
             refine take_ (i := 20) (N := some 85) (v := ?_) (a' := ?_) #[t_,t_,t_,t_,t_,t_,t_,t_,t_,t_,t_,t_,t_,t_,t_,t_,t_,t_,t_,t_,t_,f_,f_,f_,f_,f_,f_,f_,f_,f_,f_,f_,f_,f_,f_,f_,f_,f_,f_,f_,f_,f_] rfl rfl (take_ofW HT_.out HW_.out (by kernel_rfl)) (fun _ _ _ h => h) (Or.inl ⟨by rfl, ?_⟩) hHeld ?_ ?_
             rotate_left
             ·rintro w' ⟨s0, s1, s2, s3, s4, s5, s6, s7, s8, s9, s10, s11, s12, s13, s14, s15, s16, s17, s18, s19, s20, s21, s22, s23⟩
              go_simp
              with_reducible rfl
             rotate_left
             ·simp only [Act.put, La_, Lb_, Lc_, i64_w, i32_w]
              rfl
             refine pure_ (i := 21) (N := some 86) (v := ?_) (a' := ?_) #[t_,t_,t_,t_,t_,t_,t_,t_,t_,t_,t_,t_,t_,t_,t_,t_,t_,t_,t_,t_,t_,t_,f_,f_,f_,f_,f_,f_,f_,f_,f_,f_,f_,f_,f_,f_,f_,f_,f_,f_,f_,f_] rfl rfl (any_of HT_.out (by kernel_rfl)) (fun _ _ _ h => h) (Or.inl ⟨by rfl, ?_⟩) ?_ ?_
             rotate_left
             ·intro w'
              go_simp
              with_reducible rfl
             rotate_left
             ·simp only [Act.put, La_, Lb_, Lc_, i64_w, i32_w]
              rfl
             refine pure_ (i := 22) (N := some 87) (v := ?_) (a' := ?_) #[t_,t_,t_,t_,t_,t_,t_,t_,t_,t_,t_,t_,t_,t_,t_,t_,t_,t_,t_,t_,t_,t_,t_,f_,f_,f_,f_,f_,f_,f_,f_,f_,f_,f_,f_,f_,f_,f_,f_,f_,f_,f_] rfl rfl (any_of HT_.out (by kernel_rfl)) (fun _ _ _ h => h) (Or.inl ⟨by rfl, ?_⟩) ?_ ?_
             rotate_left
             ·intro w'
              go_simp
              with_reducible rfl
             rotate_left
             ·simp only [Act.put, La_, Lb_, Lc_, i64_w, i32_w]
              rfl
             refine pure_ (i := 23) (N := some 88) (v := ?_) (a' := ?_) #[t_,t_,t_,t_,t_,t_,t_,t_,t_,t_,t_,t_,t_,t_,t_,t_,t_,t_,t_,t_,t_,t_,t_,t_,f_,f_,f_,f_,f_,f_,f_,f_,f_,f_,f_,f_,f_,f_,f_,f_,f_,f_] rfl rfl (any_of HT_.out (by kernel_rfl)) (fun _ _ _ h => h) (Or.inl ⟨by rfl, ?_⟩) ?_ ?_
             rotate_left
             ·intro w'
              go_simp
              with_reducible rfl
             rotate_left
             ·simp only [Act.put, La_, Lb_, Lc_, i64_w, i32_w]
              rfl
             refine pure_ (i := 25) (N := some 90) (v := ?_) (a' := ?_) #[t_,t_,t_,t_,t_,t_,t_,t_,t_,t_,t_,t_,t_,t_,t_,t_,t_,t_,t_,t_,t_,t_,t_,t_,f_,t_,f_,f_,f_,f_,f_,f_,f_,f_,f_,f_,f_,f_,f_,f_,f_,f_] rfl rfl (any_of HT_.out (by kernel_rfl)) (fun _ _ _ h => h) (Or.inl ⟨by rfl, ?_⟩) ?_ ?_
             rotate_left
             ·intro w'
              go_simp
              with_reducible rfl
             rotate_left
             ·simp only [Act.put, La_, Lb_, Lc_, i64_w, i32_w]
              rfl
             refine pure_ (i := 28) (N := some 93) (v := ?_) (a' := ?_) #[t_,t_,t_,t_,t_,t_,t_,t_,t_,t_,t_,t_,t_,t_,t_,t_,t_,t_,t_,t_,t_,t_,t_,t_,f_,t_,f_,f_,t_,f_,f_,f_,f_,f_,f_,f_,f_,f_,f_,f_,f_,f_] rfl rfl (any_of HT_.out (by kernel_rfl)) (fun _ _ _ h => h) (Or.inl ⟨by rfl, ?_⟩) ?_ ?_
             rotate_left
             ·intro w'
              go_simp
              with_reducible rfl
             rotate_left
             ·simp only [Act.put, La_, Lb_, Lc_, i64_w, i32_w]
              rfl
             refine take_ (i := 24) (N := some 89) (v := ?_) (a' := ?_) #[t_,t_,t_,t_,t_,t_,t_,t_,t_,t_,t_,t_,t_,t_,t_,t_,t_,t_,t_,t_,t_,t_,t_,t_,t_,t_,f_,f_,t_,f_,f_,f_,f_,f_,f_,f_,f_,f_,f_,f_,f_,f_] rfl rfl (take_ofW HT_.out HW_.out (by kernel_rfl)) (fun _ _ _ h => h) (Or.inl ⟨by rfl, ?_⟩) hHeld ?_ ?_
             rotate_left
             ·rintro w' ⟨s0, s1, s2, s3, s4, s5, s6, s7, s8, s9, s10, s11, s12, s13, s14, s15, s16, s17, s18, s19, s20, s21, s22, s23⟩
              go_simp
              with_reducible rfl
             rotate_left
             ·simp only [Act.put, La_, Lb_, Lc_, i64_w, i32_w]
              rfl
             refine take_ (i := 27) (N := some 92) (v := ?_) (a' := ?_) #[t_,t_,t_,t_,t_,t_,t_,t_,t_,t_,t_,t_,t_,t_,t_,t_,t_,t_,t_,t_,t_,t_,t_,t_,t_,t_,f_,t_,t_,f_,f_,f_,f_,f_,f_,f_,f_,f_,f_,f_,f_,f_] rfl rfl (take_ofW HT_.out HW_.out (by kernel_rfl)) (fun _ _ _ h => h) (Or.inl ⟨by rfl, ?_⟩) hHeld ?_ ?_
             rotate_left
             ·rintro w' ⟨s0, s1, s2, s3, s4, s5, s6, s7, s8, s9, s10, s11, s12, s13, s14, s15, s16, s17, s18, s19, s20, s21, s22, s23⟩
              go_simp
              with_reducible rfl
             rotate_left
             ·simp only [Act.put, La_, Lb_, Lc_, i64_w, i32_w]
              rfl
             refine one_ (i := 26) (N := some 91) #[t_,t_,t_,t_,t_,t_,t_,t_,t_,t_,t_,t_,t_,t_,t_,t_,t_,t_,t_,t_,t_,t_,t_,t_,t_,t_,t_,t_,t_,f_,f_,f_,f_,f_,f_,f_,f_,f_,f_,f_,f_,f_] rfl rfl (one_of HT_.out (by kernel_rfl)) (by decide) (fun K hK => ?_)
             refine goes_ Try.func22 (by kernel_rfl) rfl #[.agg #[.slice Ao28 t655.length co28, .slice Ao32 t658.length co32], .int .i64 a1] (by rfl) rfl rfl (by (try simp only [List.map_toArray, List.map_cons, List.map_nil]); first | done | rfl | (simp only [List.length_drop, List.length_take]; rfl)) ?_
             with_reducible refine (handle_Count.calls kj4 _ _ t655 _ _ t658 a1 t688 _ ?side1 ?side2 ?side3 ?side4 A41.out).mono ?_
             (case side1 => repeat (first | exact (Vr_ HO657.out).2.2 | (with_reducible refine Kd.C_alloc ?_ _) | (with_reducible refine Kd.C_drewN ?_ _) | (with_reducible refine Kd.C_drew ?_)))
             (case side2 => exact (Vr_ HO657.out).2.1)
             (case side3 => repeat (first | exact (Vr_ HO660.out).2.2 | (with_reducible refine Kd.C_alloc ?_ _) | (with_reducible refine Kd.C_drewN ?_ _) | (with_reducible refine Kd.C_drew ?_)))
             (case side4 => exact (Vr_ HO660.out).2.1)
             rintro e w80 ⟨rfl, hb⟩
             refine ⟨_, rfl, ?_⟩
             have n0_ := Am_ (Vb_ (Pv_ HO657.out) hb)
             have n1_ := Am_ (Vb_ (Pv_ HO660.out) hb)
             have n2_ := Am_ (Vb_ (Pv_ HO675.out) hb)
             have n3_ := Am_ (Vb_ (Pv_ HO678.out) hb)
             have n4_ := Am_ (Bb_ (g := gb650) (o := .cells #[.slice A0_0 l0_0.length c0_0, .slice A0_1 l0_1.length c0_1] 25 (0, 0)) (Pk_ BK650.out) hb)
             have n5_ := Am_ (Bb_ (g := gb651) (o := .cells #[.int .i64 a3_0, .int .i64 a3_1, .bool a3_2, .bool a3_3, .int .i64 1, .int .i64 a3_5] 38 (0, 0)) (Pk_ BK651.out) hb)
             have n6_ := Am_ (Bb_ (g := gb663) (o := .cells #[.slice Ao28 t655.length co28, .slice Ao32 t658.length co32] 25 (0, 0)) (Pk_ BK663.out) hb)
             have n7_ := Am_ (Bb_ (g := gb672) (o := .cells #[.int .i64 t665, .int .i64 t666, .bool t667, .bool t668, .int .i64 t669, .int .i64 t670] 38 (0, 0)) (Pk_ BK672.out) hb)
             have n8_ := Am_ (Bb_ (g := gb686) (o := .cells #[.slice Ao65 t673.length co65, .slice Ao72 t676.length co72] 25 (0, 0)) (Pk_ BK686.out) hb)
             have n9_ := Am_ (Bb_ (g := gb687) (o := .cells #[.int .i64 t679, .int .i64 t680, .bool t681, .bool t682, .int .i64 t683, .int .i64 t684] 38 (0, 0)) (Pk_ BK687.out) hb)
             have n10_ := Am_ (Be_ (by repeat (first | (with_reducible first | exact HB.out | apply Pa_ | apply Pn_ | apply Pd_ | refine Bs_ ?_ GE650.out | refine Bs_ ?_ GE651.out | refine Bs_ ?_ GE663.out | refine Bs_ ?_ GE672.out | refine Bs_ ?_ GE686.out | refine Bs_ ?_ GE687.out) | exact HB.out)) hb)
             clear HO657
             clear HO660
             clear HO675
             clear HO678
             clear BK650
             clear BK651
             clear BK663
             clear BK672
             clear BK686
             clear BK687
             clear HB
             have HO657 := n0_
             have HO660 := n1_
             have HO675 := n2_
             have HO678 := n3_
             have BK650 := n4_
             have BK651 := n5_
             have BK663 := n6_
             have BK672 := n7_
             have BK686 := n8_
             have BK687 := n9_
             have HB := n10_
             clear n0_ n1_ n2_ n3_ n4_ n5_ n6_ n7_ n8_ n9_ n10_
             (try clear hb)
             (try clear hb2)
             (try clear hk)
             (try clear hi)
             refine hK.out _ _ ⟨(Bc_ BK672.out 0).trans rfl, (Bc_ BK672.out 1).trans rfl, (Bc_ BK672.out 2).trans rfl, (Bc_ BK672.out 3).trans rfl, (Bc_ BK672.out 4).trans rfl, (Bc_ BK672.out 5).trans rfl, (Bc_ BK651.out 0).trans rfl, (Bc_ BK651.out 1).trans rfl, (Bc_ BK651.out 2).trans rfl, (Bc_ BK651.out 3).trans rfl, (Bc_ BK651.out 4).trans rfl, (Bc_ BK651.out 5).trans rfl, (Bc_ BK687.out 0).trans rfl, (Bc_ BK687.out 1).trans rfl, (Bc_ BK687.out 2).trans rfl, (Bc_ BK687.out 3).trans rfl, (Bc_ BK687.out 4).trans rfl, (Bc_ BK687.out 5).trans rfl, (Bc_ BK663.out 0).trans rfl, (Bc_ BK663.out 1).trans rfl, (Bc_ BK650.out 0).trans rfl, (Bc_ BK650.out 1).trans rfl, (Bc_ BK686.out 0).trans rfl, (Bc_ BK686.out 1).trans rfl⟩ (fun hHeld => ?_)
             clear hK K
             refine norm_ (a' := ?_) ?_ ?_
             rotate_left
             ·show Act.put _ (some 91) _ = _
              simp only [Act.put, La_, Lb_, Lc_, i64_w, i32_w]
              rfl
             refine one_ (i := 29) (N := some 94) #[t_,t_,t_,t_,t_,t_,t_,t_,t_,t_,t_,t_,t_,t_,t_,t_,t_,t_,t_,t_,t_,t_,t_,t_,t_,t_,t_,t_,t_,t_,f_,f_,f_,f_,f_,f_,f_,f_,f_,f_,f_,f_] rfl rfl (one_of HT_.out (by kernel_rfl)) (by decide) (fun K hK => ?_)
             refine goes_ Try.func22 (by kernel_rfl) rfl #[.agg #[.slice A0_0 l0_0.length c0_0, .slice A0_1 l0_1.length c0_1], .int .i64 a1] (by rfl) rfl rfl (by (try simp only [List.map_toArray, List.map_cons, List.map_nil]); first | done | rfl | (simp only [List.length_drop, List.length_take]; rfl)) ?_
             with_reducible refine (handle_Count.calls kj4 _ _ l0_0 _ _ l0_1 a1 t689 _ ?side1 ?side2 ?side3 ?side4 A42.out).mono ?_
             (case side1 => repeat (first | exact (Kd.C_below HR0_0.out HB.out) | (with_reducible refine Kd.C_alloc ?_ _) | (with_reducible refine Kd.C_drewN ?_ _) | (with_reducible refine Kd.C_drew ?_)))
             (case side2 => exact HC0_0.out)
             (case side3 => repeat (first | exact (Kd.C_below HR0_1.out HB.out) | (with_reducible refine Kd.C_alloc ?_ _) | (with_reducible refine Kd.C_drewN ?_ _) | (with_reducible refine Kd.C_drew ?_)))
             (case side4 => exact HC0_1.out)
             rintro e w81 ⟨rfl, hb⟩
             refine ⟨_, rfl, ?_⟩
             have n0_ := Am_ (Vb_ (Pv_ HO657.out) hb)
             have n1_ := Am_ (Vb_ (Pv_ HO660.out) hb)
             have n2_ := Am_ (Vb_ (Pv_ HO675.out) hb)
             have n3_ := Am_ (Vb_ (Pv_ HO678.out) hb)
             have n4_ := Am_ (Bb_ (g := gb650) (o := .cells #[.slice A0_0 l0_0.length c0_0, .slice A0_1 l0_1.length c0_1] 25 (0, 0)) (Pk_ BK650.out) hb)
             have n5_ := Am_ (Bb_ (g := gb651) (o := .cells #[.int .i64 a3_0, .int .i64 a3_1, .bool a3_2, .bool a3_3, .int .i64 1, .int .i64 a3_5] 38 (0, 0)) (Pk_ BK651.out) hb)
             have n6_ := Am_ (Bb_ (g := gb663) (o := .cells #[.slice Ao28 t655.length co28, .slice Ao32 t658.length co32] 25 (0, 0)) (Pk_ BK663.out) hb)
             have n7_ := Am_ (Bb_ (g := gb672) (o := .cells #[.int .i64 t665, .int .i64 t666, .bool t667, .bool t668, .int .i64 t669, .int .i64 t670] 38 (0, 0)) (Pk_ BK672.out) hb)
             have n8_ := Am_ (Bb_ (g := gb686) (o := .cells #[.slice Ao65 t673.length co65, .slice Ao72 t676.length co72] 25 (0, 0)) (Pk_ BK686.out) hb)
             have n9_ := Am_ (Bb_ (g := gb687) (o := .cells #[.int .i64 t679, .int .i64 t680, .bool t681, .bool t682, .int .i64 t683, .int .i64 t684] 38 (0, 0)) (Pk_ BK687.out) hb)
             have n10_ := Am_ (Be_ (by repeat (first | (with_reducible first | exact HB.out | apply Pa_ | apply Pn_ | apply Pd_ | refine Bs_ ?_ GE650.out | refine Bs_ ?_ GE651.out | refine Bs_ ?_ GE663.out | refine Bs_ ?_ GE672.out | refine Bs_ ?_ GE686.out | refine Bs_ ?_ GE687.out) | exact HB.out)) hb)
             clear HO657
             clear HO660
             clear HO675
             clear HO678
             clear BK650
             clear BK651
             clear BK663
             clear BK672
             clear BK686
             clear BK687
             clear HB
             have HO657 := n0_
             have HO660 := n1_
             have HO675 := n2_
             have HO678 := n3_
             have BK650 := n4_
             have BK651 := n5_
             have BK663 := n6_
             have BK672 := n7_
             have BK686 := n8_
             have BK687 := n9_
             have HB := n10_
             clear n0_ n1_ n2_ n3_ n4_ n5_ n6_ n7_ n8_ n9_ n10_
             (try clear hb)
             (try clear hb2)
             (try clear hk)
             (try clear hi)
             refine hK.out _ _ ⟨(Bc_ BK672.out 0).trans rfl, (Bc_ BK672.out 1).trans rfl, (Bc_ BK672.out 2).trans rfl, (Bc_ BK672.out 3).trans rfl, (Bc_ BK672.out 4).trans rfl, (Bc_ BK672.out 5).trans rfl, (Bc_ BK651.out 0).trans rfl, (Bc_ BK651.out 1).trans rfl, (Bc_ BK651.out 2).trans rfl, (Bc_ BK651.out 3).trans rfl, (Bc_ BK651.out 4).trans rfl, (Bc_ BK651.out 5).trans rfl, (Bc_ BK687.out 0).trans rfl, (Bc_ BK687.out 1).trans rfl, (Bc_ BK687.out 2).trans rfl, (Bc_ BK687.out 3).trans rfl, (Bc_ BK687.out 4).trans rfl, (Bc_ BK687.out 5).trans rfl, (Bc_ BK663.out 0).trans rfl, (Bc_ BK663.out 1).trans rfl, (Bc_ BK650.out 0).trans rfl, (Bc_ BK650.out 1).trans rfl, (Bc_ BK686.out 0).trans rfl, (Bc_ BK686.out 1).trans rfl⟩ (fun hHeld => ?_)
             clear hK K
             refine norm_ (a' := ?_) ?_ ?_
             rotate_left
             ·show Act.put _ (some 94) _ = _
              simp only [Act.put, La_, Lb_, Lc_, i64_w, i32_w]
              rfl
             refine pure_ (i := 30) (N := some 95) (v := ?_) (a' := ?_) #[t_,t_,t_,t_,t_,t_,t_,t_,t_,t_,t_,t_,t_,t_,t_,t_,t_,t_,t_,t_,t_,t_,t_,t_,t_,t_,t_,t_,t_,t_,t_,f_,f_,f_,f_,f_,f_,f_,f_,f_,f_,f_] rfl rfl (any_of HT_.out (by kernel_rfl)) (fun _ _ _ h => h) (Or.inl ⟨by rfl, ?_⟩) ?_ ?_
             rotate_left
             ·intro w'
              go_simp
              with_reducible rfl
             rotate_left
             ·simp only [Act.put, La_, Lb_, Lc_, i64_w, i32_w]
              rfl
             refine pure_ (i := 31) (N := some 96) (v := ?_) (a' := ?_) #[t_,t_,t_,t_,t_,t_,t_,t_,t_,t_,t_,t_,t_,t_,t_,t_,t_,t_,t_,t_,t_,t_,t_,t_,t_,t_,t_,t_,t_,t_,t_,t_,f_,f_,f_,f_,f_,f_,f_,f_,f_,f_] rfl rfl (any_of HT_.out (by kernel_rfl)) (fun _ _ _ h => h) (Or.inl ⟨by rfl, ?_⟩) ?_ ?_
             rotate_left
             ·intro w'
              go_simp
              with_reducible rfl
             rotate_left
             ·simp only [Act.put, La_, Lb_, Lc_, i64_w, i32_w]
              rfl
             refine pure_ (i := 32) (N := some 97) (v := ?_) (a' := ?_) #[t_,t_,t_,t_,t_,t_,t_,t_,t_,t_,t_,t_,t_,t_,t_,t_,t_,t_,t_,t_,t_,t_,t_,t_,t_,t_,t_,t_,t_,t_,t_,t_,t_,f_,f_,f_,f_,f_,f_,f_,f_,f_] rfl rfl (any_of HT_.out (by kernel_rfl)) (fun _ _ _ h => h) (Or.inl ⟨by rfl, ?_⟩) ?_ ?_
             rotate_left
             ·intro w'
              go_simp
              with_reducible rfl
             rotate_left
             ·simp only [Act.put, La_, Lb_, Lc_, i64_w, i32_w]
              rfl
             refine pure_ (i := 33) (N := some 98) (v := ?_) (a' := ?_) #[t_,t_,t_,t_,t_,t_,t_,t_,t_,t_,t_,t_,t_,t_,t_,t_,t_,t_,t_,t_,t_,t_,t_,t_,t_,t_,t_,t_,t_,t_,t_,t_,t_,t_,f_,f_,f_,f_,f_,f_,f_,f_] rfl rfl (any_of HT_.out (by kernel_rfl)) (fun _ _ _ h => h) (Or.inl ⟨by rfl, ?_⟩) ?_ ?_
             rotate_left
             ·intro w'
              go_simp
              with_reducible rfl
             rotate_left
             ·simp only [Act.put, La_, Lb_, Lc_, i64_w, i32_w]
              rfl
             refine pure_ (i := 37) (N := some 102) (v := ?_) (a' := ?_) #[t_,t_,t_,t_,t_,t_,t_,t_,t_,t_,t_,t_,t_,t_,t_,t_,t_,t_,t_,t_,t_,t_,t_,t_,t_,t_,t_,t_,t_,t_,t_,t_,t_,t_,f_,f_,f_,t_,f_,f_,f_,f_] rfl rfl (any_of HT_.out (by kernel_rfl)) (fun _ _ _ h => h) (Or.inl ⟨by rfl, ?_⟩) ?_ ?_
             rotate_left
             ·intro w'
              go_simp
              with_reducible rfl
             rotate_left
             ·simp only [Act.put, La_, Lb_, Lc_, i64_w, i32_w]
              rfl
             refine take_ (i := 34) (N := some 99) (v := ?_) (a' := ?_) #[t_,t_,t_,t_,t_,t_,t_,t_,t_,t_,t_,t_,t_,t_,t_,t_,t_,t_,t_,t_,t_,t_,t_,t_,t_,t_,t_,t_,t_,t_,t_,t_,t_,t_,t_,f_,f_,t_,f_,f_,f_,f_] rfl rfl (take_ofW HT_.out HW_.out (by kernel_rfl)) (fun _ _ _ h => h) (Or.inl ⟨by rfl, ?_⟩) hHeld ?_ ?_
             rotate_left
             ·rintro w' ⟨s0, s1, s2, s3, s4, s5, s6, s7, s8, s9, s10, s11, s12, s13, s14, s15, s16, s17, s18, s19, s20, s21, s22, s23⟩
              go_simp
              with_reducible rfl
             rotate_left
             ·simp only [Act.put, La_, Lb_, Lc_, i64_w, i32_w]
              rfl
             refine take_ (i := 36) (N := some 101) (v := ?_) (a' := ?_) #[t_,t_,t_,t_,t_,t_,t_,t_,t_,t_,t_,t_,t_,t_,t_,t_,t_,t_,t_,t_,t_,t_,t_,t_,t_,t_,t_,t_,t_,t_,t_,t_,t_,t_,t_,f_,t_,t_,f_,f_,f_,f_] rfl rfl (take_ofW HT_.out HW_.out (by kernel_rfl)) (fun _ _ _ h => h) (Or.inl ⟨by rfl, ?_⟩) hHeld ?_ ?_
             rotate_left
             ·rintro w' ⟨s0, s1, s2, s3, s4, s5, s6, s7, s8, s9, s10, s11, s12, s13, s14, s15, s16, s17, s18, s19, s20, s21, s22, s23⟩
              go_simp
              with_reducible rfl
             rotate_left
             ·simp only [Act.put, La_, Lb_, Lc_, i64_w, i32_w]
              rfl
             refine one_ (i := 35) (N := some 100) #[t_,t_,t_,t_,t_,t_,t_,t_,t_,t_,t_,t_,t_,t_,t_,t_,t_,t_,t_,t_,t_,t_,t_,t_,t_,t_,t_,t_,t_,t_,t_,t_,t_,t_,t_,t_,t_,t_,f_,f_,f_,f_] rfl rfl (one_of HT_.out (by kernel_rfl)) (by decide) (fun K hK => ?_)
             refine goes_ Try.func14 (by kernel_rfl) rfl #[.agg #[.slice Ao65 t673.length co65, .slice Ao72 t676.length co72]] (by rfl) rfl rfl (by (try simp only [List.map_toArray, List.map_cons, List.map_nil]); first | done | rfl | (simp only [List.length_drop, List.length_take]; rfl)) ?_
             with_reducible refine (flagstonelaw10_its.calls kj4 _ _ t673 (fun k_ => (k_ ≠ gb650 ∧ (k_ ≠ gb651 ∧ (k_ ≠ gb663 ∧ (k_ ≠ gb672 ∧ (k_ ≠ gb686 ∧ k_ ≠ gb687)))))) _ _ t676 t690 t693 _ ?side1 ?side2 ?side3 A44.out).mono ?_
             (case side1 => repeat (first | exact (Vr_ HO675.out).2.2 | (with_reducible refine Kd.C_alloc ?_ _) | (with_reducible refine Kd.C_drewN ?_ _) | (with_reducible refine Kd.C_drew ?_)))
             (case side2 => exact (Vr_ HO675.out).2.1)
             (case side3 => exact HO678.out)
             rintro e w82 ⟨v691, v694, rfl, ho0, ho1, hb⟩
             refine ⟨_, rfl, ?_⟩
             have n0_ := Am_ (Kd.V_elder' (Pv_ HO657.out) (Kd.R_base ho0) hb)
             have n1_ := Am_ (Kd.V_elder' (Pv_ HO660.out) (Kd.R_base ho0) hb)
             have n2_ := Am_ (Kd.V_elder' (Pv_ HO675.out) (Kd.R_base ho0) hb)
             have n3_ := Am_ (Kd.V_elder' (Pv_ HO678.out) (Kd.R_base ho0) hb)
             have n4_ := Am_ (Kd.R_lower (Kd.R_mono (ok' := fun k_ => True) ho0 (fun _ hk_ => trivial)) (Bz_ (by repeat (first | (with_reducible first | exact HB.out | apply Pa_ | apply Pn_ | apply Pd_ | refine Bs_ ?_ GE650.out | refine Bs_ ?_ GE651.out | refine Bs_ ?_ GE663.out | refine Bs_ ?_ GE672.out | refine Bs_ ?_ GE686.out | refine Bs_ ?_ GE687.out) | exact HB.out))))
             have n5_ := Am_ (Vl_ (Vm_ (ok' := fun k_ => some k_ ≠ (v691 : Value).ownBlock ∧ k_ ≠ gb650 ∧ k_ ≠ gb651 ∧ k_ ≠ gb663 ∧ k_ ≠ gb672 ∧ k_ ≠ gb686 ∧ k_ ≠ gb687) ho1 (fun k_ hk_ => ⟨hk_.2, Or.elim hk_.1 (fun hs_ => hs_.1) (fun hn_ => (Kd.freshB (g := gb650) (o := .cells #[.slice A0_0 l0_0.length c0_0, .slice A0_1 l0_1.length c0_1] 25 (0, 0)) (Pk_ BK650.out) k_ hn_)), Or.elim hk_.1 (fun hs_ => hs_.2.1) (fun hn_ => (Kd.freshB (g := gb651) (o := .cells #[.int .i64 a3_0, .int .i64 a3_1, .bool a3_2, .bool a3_3, .int .i64 1, .int .i64 a3_5] 38 (0, 0)) (Pk_ BK651.out) k_ hn_)), Or.elim hk_.1 (fun hs_ => hs_.2.2.1) (fun hn_ => (Kd.freshB (g := gb663) (o := .cells #[.slice Ao28 t655.length co28, .slice Ao32 t658.length co32] 25 (0, 0)) (Pk_ BK663.out) k_ hn_)), Or.elim hk_.1 (fun hs_ => hs_.2.2.2.1) (fun hn_ => (Kd.freshB (g := gb672) (o := .cells #[.int .i64 t665, .int .i64 t666, .bool t667, .bool t668, .int .i64 t669, .int .i64 t670] 38 (0, 0)) (Pk_ BK672.out) k_ hn_)), Or.elim hk_.1 (fun hs_ => hs_.2.2.2.2.1) (fun hn_ => (Kd.freshB (g := gb686) (o := .cells #[.slice Ao65 t673.length co65, .slice Ao72 t676.length co72] 25 (0, 0)) (Pk_ BK686.out) k_ hn_)), Or.elim hk_.1 (fun hs_ => hs_.2.2.2.2.2) (fun hn_ => (Kd.freshB (g := gb687) (o := .cells #[.int .i64 t679, .int .i64 t680, .bool t681, .bool t682, .int .i64 t683, .int .i64 t684] 38 (0, 0)) (Pk_ BK687.out) k_ hn_))⟩)) (Bz_ (by repeat (first | (with_reducible first | exact HB.out | apply Pa_ | apply Pn_ | apply Pd_ | refine Bs_ ?_ GE650.out | refine Bs_ ?_ GE651.out | refine Bs_ ?_ GE663.out | refine Bs_ ?_ GE672.out | refine Bs_ ?_ GE686.out | refine Bs_ ?_ GE687.out) | exact HB.out))))
             have n6_ := Am_ (Bb_ (g := gb650) (o := .cells #[.slice A0_0 l0_0.length c0_0, .slice A0_1 l0_1.length c0_1] 25 (0, 0)) (Pk_ BK650.out) hb)
             have n7_ := Am_ (Bb_ (g := gb651) (o := .cells #[.int .i64 a3_0, .int .i64 a3_1, .bool a3_2, .bool a3_3, .int .i64 1, .int .i64 a3_5] 38 (0, 0)) (Pk_ BK651.out) hb)
             have n8_ := Am_ (Bb_ (g := gb663) (o := .cells #[.slice Ao28 t655.length co28, .slice Ao32 t658.length co32] 25 (0, 0)) (Pk_ BK663.out) hb)
             have n9_ := Am_ (Bb_ (g := gb672) (o := .cells #[.int .i64 t665, .int .i64 t666, .bool t667, .bool t668, .int .i64 t669, .int .i64 t670] 38 (0, 0)) (Pk_ BK672.out) hb)
             have n10_ := Am_ (Bb_ (g := gb686) (o := .cells #[.slice Ao65 t673.length co65, .slice Ao72 t676.length co72] 25 (0, 0)) (Pk_ BK686.out) hb)
             have n11_ := Am_ (Bb_ (g := gb687) (o := .cells #[.int .i64 t679, .int .i64 t680, .bool t681, .bool t682, .int .i64 t683, .int .i64 t684] 38 (0, 0)) (Pk_ BK687.out) hb)
             have n12_ := Am_ (Be_ (by repeat (first | (with_reducible first | exact HB.out | apply Pa_ | apply Pn_ | apply Pd_ | refine Bs_ ?_ GE650.out | refine Bs_ ?_ GE651.out | refine Bs_ ?_ GE663.out | refine Bs_ ?_ GE672.out | refine Bs_ ?_ GE686.out | refine Bs_ ?_ GE687.out) | exact HB.out)) hb)
             clear HO657
             clear HO660
             clear HO675
             clear HO678
             clear BK650
             clear BK651
             clear BK663
             clear BK672
             clear BK686
             clear BK687
             clear HB
             have HO657 := n0_
             have HO660 := n1_
             have HO675 := n2_
             have HO678 := n3_
             have HO692 := n4_
             have HO695 := n5_
             have BK650 := n6_
             have BK651 := n7_
             have BK663 := n8_
             have BK672 := n9_
             have BK686 := n10_
             have BK687 := n11_
             have HB := n12_
             clear n0_ n1_ n2_ n3_ n4_ n5_ n6_ n7_ n8_ n9_ n10_ n11_ n12_
             (try clear hb)
             (try clear hb2)
             (try clear hk)
             (try clear hi)
             (try clear ho0)
             (try clear ho1)
             refine hK.out _ _ ⟨(Bc_ BK672.out 0).trans rfl, (Bc_ BK672.out 1).trans rfl, (Bc_ BK672.out 2).trans rfl, (Bc_ BK672.out 3).trans rfl, (Bc_ BK672.out 4).trans rfl, (Bc_ BK672.out 5).trans rfl, (Bc_ BK651.out 0).trans rfl, (Bc_ BK651.out 1).trans rfl, (Bc_ BK651.out 2).trans rfl, (Bc_ BK651.out 3).trans rfl, (Bc_ BK651.out 4).trans rfl, (Bc_ BK651.out 5).trans rfl, (Bc_ BK687.out 0).trans rfl, (Bc_ BK687.out 1).trans rfl, (Bc_ BK687.out 2).trans rfl, (Bc_ BK687.out 3).trans rfl, (Bc_ BK687.out 4).trans rfl, (Bc_ BK687.out 5).trans rfl, (Bc_ BK663.out 0).trans rfl, (Bc_ BK663.out 1).trans rfl, (Bc_ BK650.out 0).trans rfl, (Bc_ BK650.out 1).trans rfl, (Bc_ BK686.out 0).trans rfl, (Bc_ BK686.out 1).trans rfl⟩ (fun hHeld => ?_)
             clear hK K
             refine norm_ (a' := ?_) ?_ ?_
             rotate_left
             ·show Act.put _ (some 100) _ = _
              simp only [Act.put, La_, Lb_, Lc_, i64_w, i32_w]
              rfl
             refine one_ (i := 38) (N := some 103) #[t_,t_,t_,t_,t_,t_,t_,t_,t_,t_,t_,t_,t_,t_,t_,t_,t_,t_,t_,t_,t_,t_,t_,t_,t_,t_,t_,t_,t_,t_,t_,t_,t_,t_,t_,t_,t_,t_,t_,f_,f_,f_] rfl rfl (one_of HT_.out (by kernel_rfl)) (by decide) (fun K hK => ?_)
             refine goes_ Try.func23 (by kernel_rfl) rfl #[.agg #[.slice A0_0 l0_0.length c0_0, .slice A0_1 l0_1.length c0_1], .int .i64 t664] (by rfl) rfl rfl (by (try simp only [List.map_toArray, List.map_cons, List.map_nil]); first | done | rfl | (simp only [List.length_drop, List.length_take]; rfl)) ?_
             with_reducible refine (flagstonelaw10_padded.calls kj4 _ _ l0_0 (fun k_ => k_ < w.heap.size) _ _ l0_1 t664 t696 t699 _ ?side1 ?side2 ?side3 A45.out).mono ?_
             (case side1 => repeat (first | exact (Kd.C_below HR0_0.out HB.out) | (with_reducible refine Kd.C_alloc ?_ _) | (with_reducible refine Kd.C_drewN ?_ _) | (with_reducible refine Kd.C_drew ?_)))
             (case side2 => exact HC0_0.out)
             (case side3 => exact Kd.V_mk HC0_1.out (Kd.F_below (Kd.C_F (Kd.heap_slice 3 (Kd.heap_int .i64)) HR0_1.out) (by repeat (first | (with_reducible first | exact HB.out | apply Pa_ | apply Pn_ | apply Pd_ | refine Bs_ ?_ GE650.out | refine Bs_ ?_ GE651.out | refine Bs_ ?_ GE663.out | refine Bs_ ?_ GE672.out | refine Bs_ ?_ GE686.out | refine Bs_ ?_ GE687.out) | exact HB.out))))
             rintro e w83 ⟨v697, v700, rfl, ho0, ho1, hb⟩
             refine ⟨_, rfl, ?_⟩
             have n0_ := Am_ (Kd.V_elder' (Pv_ HO657.out) (Kd.R_base ho0) hb)
             have n1_ := Am_ (Kd.V_elder' (Pv_ HO660.out) (Kd.R_base ho0) hb)
             have n2_ := Am_ (Kd.V_elder' (Pv_ HO675.out) (Kd.R_base ho0) hb)
             have n3_ := Am_ (Kd.V_elder' (Pv_ HO678.out) (Kd.R_base ho0) hb)
             have n4_ := Am_ (Kd.R_elder' (Px_ HO692.out) (Kd.R_base ho0) hb)
             have n5_ := Am_ (Kd.V_elder' (Pv_ HO695.out) (Kd.R_base ho0) hb)
             have n6_ := Am_ (Kd.R_lower (Kd.R_new' (Kd.R_mono (ok' := fun k_ => True) ho0 (fun _ hk_ => trivial)) (Kd.R_lt (Px_ HO692.out))) (Bz_ (by repeat (first | (with_reducible first | exact HB.out | apply Pa_ | apply Pn_ | apply Pd_ | refine Bs_ ?_ GE650.out | refine Bs_ ?_ GE651.out | refine Bs_ ?_ GE663.out | refine Bs_ ?_ GE672.out | refine Bs_ ?_ GE686.out | refine Bs_ ?_ GE687.out) | exact HB.out))))
             have n7_ := Am_ (Vl_ (Vm_ (ok' := fun k_ => some k_ ≠ (v697 : Value).ownBlock ∧ some k_ ≠ (v691 : Value).ownBlock ∧ k_ ≠ gb650 ∧ k_ ≠ gb651 ∧ k_ ≠ gb663 ∧ k_ ≠ gb672 ∧ k_ ≠ gb686 ∧ k_ ≠ gb687) ho1 (fun k_ hk_ => ⟨hk_.2, Or.elim hk_.1 (fun hs_ => fun e_ => Nat.not_le.2 hs_ (Kd.R_base HO692.out k_ e_.symm)) (fun hn_ => (Kd.fresh' (Kd.R_lt (Px_ HO692.out)) k_ hn_)), Or.elim hk_.1 (fun hs_ => fun e_ => Nat.not_le.2 hs_ (by rw [e_]; exact GW650.out)) (fun hn_ => (Kd.freshB (g := gb650) (o := .cells #[.slice A0_0 l0_0.length c0_0, .slice A0_1 l0_1.length c0_1] 25 (0, 0)) (Pk_ BK650.out) k_ hn_)), Or.elim hk_.1 (fun hs_ => fun e_ => Nat.not_le.2 hs_ (by rw [e_]; exact GW651.out)) (fun hn_ => (Kd.freshB (g := gb651) (o := .cells #[.int .i64 a3_0, .int .i64 a3_1, .bool a3_2, .bool a3_3, .int .i64 1, .int .i64 a3_5] 38 (0, 0)) (Pk_ BK651.out) k_ hn_)), Or.elim hk_.1 (fun hs_ => fun e_ => Nat.not_le.2 hs_ (by rw [e_]; exact GW663.out)) (fun hn_ => (Kd.freshB (g := gb663) (o := .cells #[.slice Ao28 t655.length co28, .slice Ao32 t658.length co32] 25 (0, 0)) (Pk_ BK663.out) k_ hn_)), Or.elim hk_.1 (fun hs_ => fun e_ => Nat.not_le.2 hs_ (by rw [e_]; exact GW672.out)) (fun hn_ => (Kd.freshB (g := gb672) (o := .cells #[.int .i64 t665, .int .i64 t666, .bool t667, .bool t668, .int .i64 t669, .int .i64 t670] 38 (0, 0)) (Pk_ BK672.out) k_ hn_)), Or.elim hk_.1 (fun hs_ => fun e_ => Nat.not_le.2 hs_ (by rw [e_]; exact GW686.out)) (fun hn_ => (Kd.freshB (g := gb686) (o := .cells #[.slice Ao65 t673.length co65, .slice Ao72 t676.length co72] 25 (0, 0)) (Pk_ BK686.out) k_ hn_)), Or.elim hk_.1 (fun hs_ => fun e_ => Nat.not_le.2 hs_ (by rw [e_]; exact GW687.out)) (fun hn_ => (Kd.freshB (g := gb687) (o := .cells #[.int .i64 t679, .int .i64 t680, .bool t681, .bool t682, .int .i64 t683, .int .i64 t684] 38 (0, 0)) (Pk_ BK687.out) k_ hn_))⟩)) (Bz_ (by repeat (first | (with_reducible first | exact HB.out | apply Pa_ | apply Pn_ | apply Pd_ | refine Bs_ ?_ GE650.out | refine Bs_ ?_ GE651.out | refine Bs_ ?_ GE663.out | refine Bs_ ?_ GE672.out | refine Bs_ ?_ GE686.out | refine Bs_ ?_ GE687.out) | exact HB.out))))
             have n8_ := Am_ (Bb_ (g := gb650) (o := .cells #[.slice A0_0 l0_0.length c0_0, .slice A0_1 l0_1.length c0_1] 25 (0, 0)) (Pk_ BK650.out) hb)
             have n9_ := Am_ (Bb_ (g := gb651) (o := .cells #[.int .i64 a3_0, .int .i64 a3_1, .bool a3_2, .bool a3_3, .int .i64 1, .int .i64 a3_5] 38 (0, 0)) (Pk_ BK651.out) hb)
             have n10_ := Am_ (Bb_ (g := gb663) (o := .cells #[.slice Ao28 t655.length co28, .slice Ao32 t658.length co32] 25 (0, 0)) (Pk_ BK663.out) hb)
             have n11_ := Am_ (Bb_ (g := gb672) (o := .cells #[.int .i64 t665, .int .i64 t666, .bool t667, .bool t668, .int .i64 t669, .int .i64 t670] 38 (0, 0)) (Pk_ BK672.out) hb)
             have n12_ := Am_ (Bb_ (g := gb686) (o := .cells #[.slice Ao65 t673.length co65, .slice Ao72 t676.length co72] 25 (0, 0)) (Pk_ BK686.out) hb)
             have n13_ := Am_ (Bb_ (g := gb687) (o := .cells #[.int .i64 t679, .int .i64 t680, .bool t681, .bool t682, .int .i64 t683, .int .i64 t684] 38 (0, 0)) (Pk_ BK687.out) hb)
             have n14_ := Am_ (Be_ (by repeat (first | (with_reducible first | exact HB.out | apply Pa_ | apply Pn_ | apply Pd_ | refine Bs_ ?_ GE650.out | refine Bs_ ?_ GE651.out | refine Bs_ ?_ GE663.out | refine Bs_ ?_ GE672.out | refine Bs_ ?_ GE686.out | refine Bs_ ?_ GE687.out) | exact HB.out)) hb)
             clear HO657
             clear HO660
             clear HO675
             clear HO678
             clear HO692
             clear HO695
             clear BK650
             clear BK651
             clear BK663
             clear BK672
             clear BK686
             clear BK687
             clear HB
             have HO657 := n0_
             have HO660 := n1_
             have HO675 := n2_
             have HO678 := n3_
             have HO692 := n4_
             have HO695 := n5_
             have HO698 := n6_
             have HO701 := n7_
             have BK650 := n8_
             have BK651 := n9_
             have BK663 := n10_
             have BK672 := n11_
             have BK686 := n12_
             have BK687 := n13_
             have HB := n14_
             clear n0_ n1_ n2_ n3_ n4_ n5_ n6_ n7_ n8_ n9_ n10_ n11_ n12_ n13_ n14_
             (try clear hb)
             (try clear hb2)
             (try clear hk)
             (try clear hi)
             (try clear ho0)
             (try clear ho1)
             obtain ⟨Ao84, co84, eo84⟩ := Kd.R_slice HO692.out
             (first | subst eo84 | (injection eo84 with f1_ f2_ f3_; have f4_ := f1_.symm; have f5_ := f3_.symm; clear f1_ f2_ f3_; subst f4_; subst f5_))
             obtain ⟨Ao85, co85, eo85⟩ := Vx_ HO695.out
             (first | subst eo85 | (injection eo85 with f1_ f2_ f3_; have f4_ := f1_.symm; have f5_ := f3_.symm; clear f1_ f2_ f3_; subst f4_; subst f5_))
             obtain ⟨Ao86, co86, eo86⟩ := Kd.R_slice HO698.out
             (first | subst eo86 | (injection eo86 with f1_ f2_ f3_; have f4_ := f1_.symm; have f5_ := f3_.symm; clear f1_ f2_ f3_; subst f4_; subst f5_))
             obtain ⟨Ao87, co87, eo87⟩ := Vx_ HO701.out
             (first | subst eo87 | (injection eo87 with f1_ f2_ f3_; have f4_ := f1_.symm; have f5_ := f3_.symm; clear f1_ f2_ f3_; subst f4_; subst f5_))
             refine hK.out _ _ ⟨(Bc_ BK672.out 0).trans rfl, (Bc_ BK672.out 1).trans rfl, (Bc_ BK672.out 2).trans rfl, (Bc_ BK672.out 3).trans rfl, (Bc_ BK672.out 4).trans rfl, (Bc_ BK672.out 5).trans rfl, (Bc_ BK651.out 0).trans rfl, (Bc_ BK651.out 1).trans rfl, (Bc_ BK651.out 2).trans rfl, (Bc_ BK651.out 3).trans rfl, (Bc_ BK651.out 4).trans rfl, (Bc_ BK651.out 5).trans rfl, (Bc_ BK687.out 0).trans rfl, (Bc_ BK687.out 1).trans rfl, (Bc_ BK687.out 2).trans rfl, (Bc_ BK687.out 3).trans rfl, (Bc_ BK687.out 4).trans rfl, (Bc_ BK687.out 5).trans rfl, (Bc_ BK663.out 0).trans rfl, (Bc_ BK663.out 1).trans rfl, (Bc_ BK650.out 0).trans rfl, (Bc_ BK650.out 1).trans rfl, (Bc_ BK686.out 0).trans rfl, (Bc_ BK686.out 1).trans rfl⟩ (fun hHeld => ?_)
             clear hK K
             refine norm_ (a' := ?_) ?_ ?_
             rotate_left
             ·show Act.put _ (some 103) _ = _
              simp only [Act.put, La_, Lb_, Lc_, i64_w, i32_w]
              rfl
             refine one_ (i := 39) (N := some 104) #[t_,t_,t_,t_,t_,t_,t_,t_,t_,t_,t_,t_,t_,t_,t_,t_,t_,t_,t_,t_,t_,t_,t_,t_,t_,t_,t_,t_,t_,t_,t_,t_,t_,t_,t_,t_,t_,t_,t_,t_,f_,f_] rfl rfl (one_of HT_.out (by kernel_rfl)) (by decide) (fun K hK => ?_)
             refine goes_ Try.func15 (by kernel_rfl) rfl #[.agg #[.slice Ao84 t690.length co84, .slice Ao85 t693.length co85], .agg #[.slice Ao86 t696.length co86, .slice Ao87 t699.length co87]] (by rfl) rfl rfl (by (try simp only [List.map_toArray, List.map_cons, List.map_nil]); first | done | rfl | (simp only [List.length_drop, List.length_take]; rfl)) ?_
             with_reducible refine (flagstoneref10_Same.calls kj4 _ _ t690 _ _ t693 _ _ t696 _ _ t699 true _ ?side1 ?side2 ?side3 ?side4 ?side5 ?side6 ?side7 ?side8 A46.out).mono ?_
             (case side1 => repeat (first | exact (Kd.R_reads' HO692.out).2.2 | (with_reducible refine Kd.C_alloc ?_ _) | (with_reducible refine Kd.C_drewN ?_ _) | (with_reducible refine Kd.C_drew ?_)))
             (case side2 => exact (Kd.R_reads' HO692.out).2.1)
             (case side3 => repeat (first | exact (Vr_ HO695.out).2.2 | (with_reducible refine Kd.C_alloc ?_ _) | (with_reducible refine Kd.C_drewN ?_ _) | (with_reducible refine Kd.C_drew ?_)))
             (case side4 => exact (Vr_ HO695.out).2.1)
             (case side5 => repeat (first | exact (Kd.R_reads' HO698.out).2.2 | (with_reducible refine Kd.C_alloc ?_ _) | (with_reducible refine Kd.C_drewN ?_ _) | (with_reducible refine Kd.C_drew ?_)))
             (case side6 => exact (Kd.R_reads' HO698.out).2.1)
             (case side7 => repeat (first | exact (Vr_ HO701.out).2.2 | (with_reducible refine Kd.C_alloc ?_ _) | (with_reducible refine Kd.C_drewN ?_ _) | (with_reducible refine Kd.C_drew ?_)))
             (case side8 => exact (Vr_ HO701.out).2.1)
             rintro e w88 ⟨rfl, hb⟩
             refine ⟨_, rfl, ?_⟩
             have n0_ := Am_ (Vb_ (Pv_ HO657.out) hb)
             have n1_ := Am_ (Vb_ (Pv_ HO660.out) hb)
             have n2_ := Am_ (Vb_ (Pv_ HO675.out) hb)
             have n3_ := Am_ (Vb_ (Pv_ HO678.out) hb)
             have n4_ := Am_ (Rb_ (Px_ HO692.out) hb)
             have n5_ := Am_ (Vb_ (Pv_ HO695.out) hb)
             have n6_ := Am_ (Rb_ (Px_ HO698.out) hb)
             have n7_ := Am_ (Vb_ (Pv_ HO701.out) hb)
             have n8_ := Am_ (Bb_ (g := gb650) (o := .cells #[.slice A0_0 l0_0.length c0_0, .slice A0_1 l0_1.length c0_1] 25 (0, 0)) (Pk_ BK650.out) hb)
             have n9_ := Am_ (Bb_ (g := gb651) (o := .cells #[.int .i64 a3_0, .int .i64 a3_1, .bool a3_2, .bool a3_3, .int .i64 1, .int .i64 a3_5] 38 (0, 0)) (Pk_ BK651.out) hb)
             have n10_ := Am_ (Bb_ (g := gb663) (o := .cells #[.slice Ao28 t655.length co28, .slice Ao32 t658.length co32] 25 (0, 0)) (Pk_ BK663.out) hb)
             have n11_ := Am_ (Bb_ (g := gb672) (o := .cells #[.int .i64 t665, .int .i64 t666, .bool t667, .bool t668, .int .i64 t669, .int .i64 t670] 38 (0, 0)) (Pk_ BK672.out) hb)
             have n12_ := Am_ (Bb_ (g := gb686) (o := .cells #[.slice Ao65 t673.length co65, .slice Ao72 t676.length co72] 25 (0, 0)) (Pk_ BK686.out) hb)
             have n13_ := Am_ (Bb_ (g := gb687) (o := .cells #[.int .i64 t679, .int .i64 t680, .bool t681, .bool t682, .int .i64 t683, .int .i64 t684] 38 (0, 0)) (Pk_ BK687.out) hb)
             have n14_ := Am_ (Be_ (by repeat (first | (with_reducible first | exact HB.out | apply Pa_ | apply Pn_ | apply Pd_ | refine Bs_ ?_ GE650.out | refine Bs_ ?_ GE651.out | refine Bs_ ?_ GE663.out | refine Bs_ ?_ GE672.out | refine Bs_ ?_ GE686.out | refine Bs_ ?_ GE687.out) | exact HB.out)) hb)
             clear HO657
             clear HO660
             clear HO675
             clear HO678
             clear HO692
             clear HO695
             clear HO698
             clear HO701
             clear BK650
             clear BK651
             clear BK663
             clear BK672
             clear BK686
             clear BK687
             clear HB
             have HO657 := n0_
             have HO660 := n1_
             have HO675 := n2_
             have HO678 := n3_
             have HO692 := n4_
             have HO695 := n5_
             have HO698 := n6_
             have HO701 := n7_
             have BK650 := n8_
             have BK651 := n9_
             have BK663 := n10_
             have BK672 := n11_
             have BK686 := n12_
             have BK687 := n13_
             have HB := n14_
             clear n0_ n1_ n2_ n3_ n4_ n5_ n6_ n7_ n8_ n9_ n10_ n11_ n12_ n13_ n14_
             (try clear hb)
             (try clear hb2)
             (try clear hk)
             (try clear hi)
             refine hK.out _ _ ⟨(Bc_ BK672.out 0).trans rfl, (Bc_ BK672.out 1).trans rfl, (Bc_ BK672.out 2).trans rfl, (Bc_ BK672.out 3).trans rfl, (Bc_ BK672.out 4).trans rfl, (Bc_ BK672.out 5).trans rfl, (Bc_ BK651.out 0).trans rfl, (Bc_ BK651.out 1).trans rfl, (Bc_ BK651.out 2).trans rfl, (Bc_ BK651.out 3).trans rfl, (Bc_ BK651.out 4).trans rfl, (Bc_ BK651.out 5).trans rfl, (Bc_ BK687.out 0).trans rfl, (Bc_ BK687.out 1).trans rfl, (Bc_ BK687.out 2).trans rfl, (Bc_ BK687.out 3).trans rfl, (Bc_ BK687.out 4).trans rfl, (Bc_ BK687.out 5).trans rfl, (Bc_ BK663.out 0).trans rfl, (Bc_ BK663.out 1).trans rfl, (Bc_ BK650.out 0).trans rfl, (Bc_ BK650.out 1).trans rfl, (Bc_ BK686.out 0).trans rfl, (Bc_ BK686.out 1).trans rfl⟩ (fun hHeld => ?_)
             clear hK K
             refine norm_ (a' := ?_) ?_ ?_
             rotate_left
             ·show Act.put _ (some 104) _ = _
              simp only [Act.put, La_, Lb_, Lc_, i64_w, i32_w]
              rfl
             refine pure_ (i := 40) (N := some 105) (v := ?_) (a' := ?_) #[t_,t_,t_,t_,t_,t_,t_,t_,t_,t_,t_,t_,t_,t_,t_,t_,t_,t_,t_,t_,t_,t_,t_,t_,t_,t_,t_,t_,t_,t_,t_,t_,t_,t_,t_,t_,t_,t_,t_,t_,t_,f_] rfl rfl (any_of HT_.out (by kernel_rfl)) (fun _ _ _ h => h) (Or.inl ⟨by rfl, ?_⟩) ?_ ?_
             rotate_left
             ·intro w'
              go_simp
              with_reducible rfl
             rotate_left
             ·simp only [Act.put, La_, Lb_, Lc_, i64_w, i32_w]
              rfl
             refine pure_ (i := 41) (N := some 106) (v := ?_) (a' := ?_) #[t_,t_,t_,t_,t_,t_,t_,t_,t_,t_,t_,t_,t_,t_,t_,t_,t_,t_,t_,t_,t_,t_,t_,t_,t_,t_,t_,t_,t_,t_,t_,t_,t_,t_,t_,t_,t_,t_,t_,t_,t_,t_] rfl rfl (any_of HT_.out (by kernel_rfl)) (fun _ _ _ h => h) (Or.inl ⟨by rfl, ?_⟩) ?_ ?_
             rotate_left
             ·intro w'
              go_simp
              with_reducible rfl
             rotate_left
             ·simp only [Act.put, La_, Lb_, Lc_, i64_w, i32_w]
              rfl
             refine done_ (done_of HT_.out (by kernel_rfl)) ?_
             try go_wp2
             go_meet
             case rel => exact ⟨_, (1), H', ⟨by have := HJ4.out; first | omega | exact Nat.le_refl _⟩, ⟨by (with_reducible repeat (first | apply Va_ | apply Vn_ | apply Vd_)); exact Vm_ HO657.out (fun _ hk => ⟨hk.1.1.1, ⟨hk.1.1.2.1, hk.1.1.2.2.1⟩⟩)⟩, ⟨by (with_reducible repeat (first | apply Va_ | apply Vn_ | apply Vd_)); exact Vm_ HO660.out (fun _ hk => ⟨hk.1.1.1, ⟨hk.1.1.2.1, hk.1.1.2.2.1⟩⟩)⟩, ⟨by (with_reducible repeat (first | refine Bn_ ?_ _ | refine Bd_ ?_ | refine Ba_ ?_ _)); exact BK650.out⟩, ⟨by (with_reducible repeat (first | refine Bn_ ?_ _ | refine Bd_ ?_ | refine Ba_ ?_ _)); exact BK651.out⟩, ⟨by (with_reducible repeat (first | refine Bn_ ?_ _ | refine Bd_ ?_ | refine Ba_ ?_ _)); exact BK663.out⟩, ⟨by repeat (first | (with_reducible first | exact HB.out | apply Pa_ | apply Pn_ | apply Pd_ | refine Bs_ ?_ GE650.out | refine Bs_ ?_ GE651.out | refine Bs_ ?_ GE663.out | refine Bs_ ?_ GE672.out | refine Bs_ ?_ GE686.out | refine Bs_ ?_ GE687.out) | exact HB.out)⟩⟩
            ·replace c47 := Bool.eq_false_iff.mpr c47
             subst c47
             have H1 : (none) = some r := by rw [if_neg (show ¬ (false = true) by decide)] at H; exact H
             clear H
             have H := H1
             clear H1
             exact absurd H (by simp)
           ·rw [if_neg c43] at H
            have c43b0 : (t688 == (wrap64 (t689 + 1))) = false := beq_eq_false_iff_ne.mpr c43
            have c43b1 : (t688 != (wrap64 (t689 + 1))) = true := bne_iff_ne.mpr c43
            exact absurd H (by simp)
          ·rw [if_neg c40] at H
           have c40b0 : (t679 == a3_0) = false := beq_eq_false_iff_ne.mpr c40
           have c40b1 : (t679 != a3_0) = true := bne_iff_ne.mpr c40
           exact absurd H (by simp)
         ·rw [if_neg c39] at H
          have c39b0 : (t683 == 0) = false := beq_eq_false_iff_ne.mpr c39
          have c39b1 : (t683 != 0) = true := bne_iff_ne.mpr c39
          exact absurd H (by simp)
        ·rw [if_neg c38] at H
         have c38b0 : (t685 == 0) = false := beq_eq_false_iff_ne.mpr c38
         have c38b1 : (t685 != 0) = true := bne_iff_ne.mpr c38
         exact absurd H (by simp)
      ·replace c36 := Bool.eq_false_iff.mpr c36
       subst c36
       have H1 : (none) = some r := by rw [if_neg (show ¬ (false = true) by decide)] at H; exact H
       clear H
       have H := H1
       clear H1
       exact absurd H (by simp)
     ·rw [if_neg c33] at H
      have c33b0 : (t662 == 0) = false := beq_eq_false_iff_ne.mpr c33
      have c33b1 : (t662 != 0) = true := bne_iff_ne.mpr c33
      (first | rw [c33b0] | (simp only [i64_w, i32_w]; rw [c33b0]) | skip)
      have H' := Am_ H
      clear H
      go_wp2
      go_meet
      case rel => exact ⟨_, (a3_4), H', ⟨by have := HJ4.out; first | omega | exact Nat.le_refl _⟩, ⟨by (with_reducible repeat (first | apply Va_ | apply Vn_ | apply Vd_)); exact Vm_ (Vf_ (p := ⟨gb663, 1, none⟩) (Vf_ (p := ⟨gb663, 0, none⟩) (Vm_ HO657.out (fun k_ hk => (⟨hk, hk.2⟩ : _ ∧ k_ ≠ gb663))) (fun _ hk => hk.2) (.slice Ao28 t655.length co28)) (fun _ hk => hk.2) (.slice Ao32 t658.length co32)) (fun _ hk => ⟨hk.1.1.1, ⟨hk.1.1.2, hk.1.2⟩⟩)⟩, ⟨by (with_reducible repeat (first | apply Va_ | apply Vn_ | apply Vd_)); exact Vm_ (Vf_ (p := ⟨gb663, 1, none⟩) (Vf_ (p := ⟨gb663, 0, none⟩) (Vm_ HO660.out (fun k_ hk => (⟨hk, hk.2⟩ : _ ∧ k_ ≠ gb663))) (fun _ hk => hk.2) (.slice Ao28 t655.length co28)) (fun _ hk => hk.2) (.slice Ao32 t658.length co32)) (fun _ hk => ⟨hk.1.1.1, ⟨hk.1.1.2, hk.1.2⟩⟩)⟩, ⟨by (with_reducible repeat (first | refine Bn_ ?_ _ | refine Bd_ ?_ | refine Ba_ ?_ _)); refine blk_far ?_ NB650_663.out _; (with_reducible repeat (first | refine Bn_ ?_ _ | refine Bd_ ?_ | refine Ba_ ?_ _)); refine blk_far ?_ NB650_663.out _; (with_reducible repeat (first | refine Bn_ ?_ _ | refine Bd_ ?_ | refine Ba_ ?_ _)); exact BK650.out⟩, ⟨by (with_reducible repeat (first | refine Bn_ ?_ _ | refine Bd_ ?_ | refine Ba_ ?_ _)); refine blk_far ?_ NB651_663.out _; (with_reducible repeat (first | refine Bn_ ?_ _ | refine Bd_ ?_ | refine Ba_ ?_ _)); refine blk_far ?_ NB651_663.out _; (with_reducible repeat (first | refine Bn_ ?_ _ | refine Bd_ ?_ | refine Ba_ ?_ _)); exact BK651.out⟩, ⟨by (with_reducible repeat (first | refine Bn_ ?_ _ | refine Bd_ ?_ | refine Ba_ ?_ _)); refine Bp_ (cs := #[.slice Ao28 t655.length co28, .slice none 0 0]) ?_ 1 _ rfl; (with_reducible repeat (first | refine Bn_ ?_ _ | refine Bd_ ?_ | refine Ba_ ?_ _)); refine Bp_ (cs := #[.slice none 0 0, .slice none 0 0]) ?_ 0 _ rfl; (with_reducible repeat (first | refine Bn_ ?_ _ | refine Bd_ ?_ | refine Ba_ ?_ _)); exact BK663.out⟩, ⟨by repeat (first | (with_reducible first | exact HB.out | apply Pa_ | apply Pn_ | apply Pd_ | refine Bs_ ?_ GE650.out | refine Bs_ ?_ GE651.out | refine Bs_ ?_ GE663.out) | exact HB.out)⟩⟩
    case rest =>
     clear HC22
     try clear c1
     try clear c2
     try clear p2
     try clear c3
     try clear c4
     try clear p6
     try clear c14
     try clear c15
     try clear c22
     try clear c23
     try clear c33
     try clear c33b0
     try clear c33b1
     try clear c36
     try clear c38
     try clear c38b0
     try clear c38b1
     try clear c39
     try clear c39b0
     try clear c39b1
     try clear c40
     try clear c40b0
     try clear c40b1
     try clear c43
     try clear c43b0
     try clear c43b1
     try clear c47
     try clear p64
     obtain ⟨kq, x652004_21, HA, HJ21, HO_664000, HO_664001, BK650, BK651, BK663, HB⟩ := hcut
     cases kq with
     | zero => exact absurd HA.out (by simp [flagstonelaw10_HandleBack.j1])
     | succ kj21 =>
      have H := HA.out
      clear HA
      simp only [flagstonelaw10_HandleBack.j1] at H
      replace H := Option.bind_eq_some_iff.mp H
      obtain ⟨⟨t703, t706, t709, t710⟩, A890, H⟩ := H
      replace H : (if t710 = 0 then ((handle_Get.f t703 t706 a1 t709).bind fun bt712 => ((handle_Get.f l0_0 l0_1 a1 a2).bind fun bt721 => ((handle_Close.f t703 t706 a1 t709).bind fun bt730 => (if bt712.2.2.2.2.2.2.2 = true then (if bt721.2.2.2.2.2.2.2 = true then (if bt712.1 = bt721.1 then (if bt712.2.2.2.2.2.1 = (wrap64 (bt721.2.2.2.2.2.1 + 1)) then (if bt730.2.2.2.2.2.2.2.2 = 0 then ((flagstonelaw10_its.f kj21 bt730.1 bt730.2.1).bind fun bt745 => ((flagstonelaw10_its.f kj21 l0_0 l0_1).bind fun bt751 => ((flagstoneref10_Same.f kj21 bt745.1 bt745.2 bt751.1 bt751.2).bind fun t757 => (if t757 = true then (some true) else (none))))) else (none)) else (none)) else (none)) else (none)) else (none))))) else (some true)) = some r := H
      have A89 := Am_ A890
      clear A890
      by_cases c90 : t710 = 0
      ·rw [if_pos c90] at H
       have c90b0 : (t710 == 0) = true := beq_iff_eq.mpr c90
       have c90b1 : (t710 != 0) = false := bne_eq_false_iff_eq.mpr c90
       clear c90
       replace H := Option.bind_eq_some_iff.mp H
       obtain ⟨⟨t712, t713, t714, t715, t716, t717, t718, t719⟩, A910, H⟩ := H
       replace H : ((handle_Get.f l0_0 l0_1 a1 a2).bind fun bt721 => ((handle_Close.f t703 t706 a1 t709).bind fun bt730 => (if t719 = true then (if bt721.2.2.2.2.2.2.2 = true then (if t712 = bt721.1 then (if t717 = (wrap64 (bt721.2.2.2.2.2.1 + 1)) then (if bt730.2.2.2.2.2.2.2.2 = 0 then ((flagstonelaw10_its.f kj21 bt730.1 bt730.2.1).bind fun bt745 => ((flagstonelaw10_its.f kj21 l0_0 l0_1).bind fun bt751 => ((flagstoneref10_Same.f kj21 bt745.1 bt745.2 bt751.1 bt751.2).bind fun t757 => (if t757 = true then (some true) else (none))))) else (none)) else (none)) else (none)) else (none)) else (none)))) = some r := H
       have A91 := Am_ A910
       clear A910
       replace H := Option.bind_eq_some_iff.mp H
       obtain ⟨⟨t721, t722, t723, t724, t725, t726, t727, t728⟩, A920, H⟩ := H
       replace H : ((handle_Close.f t703 t706 a1 t709).bind fun bt730 => (if t719 = true then (if t728 = true then (if t712 = t721 then (if t717 = (wrap64 (t726 + 1)) then (if bt730.2.2.2.2.2.2.2.2 = 0 then ((flagstonelaw10_its.f kj21 bt730.1 bt730.2.1).bind fun bt745 => ((flagstonelaw10_its.f kj21 l0_0 l0_1).bind fun bt751 => ((flagstoneref10_Same.f kj21 bt745.1 bt745.2 bt751.1 bt751.2).bind fun t757 => (if t757 = true then (some true) else (none))))) else (none)) else (none)) else (none)) else (none)) else (none))) = some r := H
       have A92 := Am_ A920
       clear A920
       replace H := Option.bind_eq_some_iff.mp H
       obtain ⟨⟨t730, t733, t736, t737, t738, t739, t740, t741, t742⟩, A930, H⟩ := H
       replace H : (if t719 = true then (if t728 = true then (if t712 = t721 then (if t717 = (wrap64 (t726 + 1)) then (if t742 = 0 then ((flagstonelaw10_its.f kj21 t730 t733).bind fun bt745 => ((flagstonelaw10_its.f kj21 l0_0 l0_1).bind fun bt751 => ((flagstoneref10_Same.f kj21 bt745.1 bt745.2 bt751.1 bt751.2).bind fun t757 => (if t757 = true then (some true) else (none))))) else (none)) else (none)) else (none)) else (none)) else (none)) = some r := H
       have A93 := Am_ A930
       clear A930
       by_cases c94 : t719 = true
       ·subst c94
        have H1 : (if t728 = true then (if t712 = t721 then (if t717 = (wrap64 (t726 + 1)) then (if t742 = 0 then ((flagstonelaw10_its.f kj21 t730 t733).bind fun bt745 => ((flagstonelaw10_its.f kj21 l0_0 l0_1).bind fun bt751 => ((flagstoneref10_Same.f kj21 bt745.1 bt745.2 bt751.1 bt751.2).bind fun t757 => (if t757 = true then (some true) else (none))))) else (none)) else (none)) else (none)) else (none)) = some r := by rw [if_pos rfl] at H; exact H
        clear H
        have H := H1
        clear H1
        by_cases c95 : t728 = true
        ·subst c95
         have H1 : (if t712 = t721 then (if t717 = (wrap64 (t726 + 1)) then (if t742 = 0 then ((flagstonelaw10_its.f kj21 t730 t733).bind fun bt745 => ((flagstonelaw10_its.f kj21 l0_0 l0_1).bind fun bt751 => ((flagstoneref10_Same.f kj21 bt745.1 bt745.2 bt751.1 bt751.2).bind fun t757 => (if t757 = true then (some true) else (none))))) else (none)) else (none)) else (none)) = some r := by rw [if_pos rfl] at H; exact H
         clear H
         have H := H1
         clear H1
         by_cases c96 : t712 = t721
         ·rw [if_pos c96] at H
          have c96b0 : (t712 == t721) = true := beq_iff_eq.mpr c96
          have c96b1 : (t712 != t721) = false := bne_eq_false_iff_eq.mpr c96
          clear c96
          by_cases c97 : t717 = (wrap64 (t726 + 1))
          ·rw [if_pos c97] at H
           have c97b0 : (t717 == (wrap64 (t726 + 1))) = true := beq_iff_eq.mpr c97
           have c97b1 : (t717 != (wrap64 (t726 + 1))) = false := bne_eq_false_iff_eq.mpr c97
           clear c97
           by_cases c98 : t742 = 0
           ·rw [if_pos c98] at H
            have c98b0 : (t742 == 0) = true := beq_iff_eq.mpr c98
            have c98b1 : (t742 != 0) = false := bne_eq_false_iff_eq.mpr c98
            clear c98
            replace H := Option.bind_eq_some_iff.mp H
            obtain ⟨⟨t745, t748⟩, A990, H⟩ := H
            replace H : ((flagstonelaw10_its.f kj21 l0_0 l0_1).bind fun bt751 => ((flagstoneref10_Same.f kj21 t745 t748 bt751.1 bt751.2).bind fun t757 => (if t757 = true then (some true) else (none)))) = some r := H
            have A99 := Am_ A990
            clear A990
            replace H := Option.bind_eq_some_iff.mp H
            obtain ⟨⟨t751, t754⟩, A1000, H⟩ := H
            replace H : ((flagstoneref10_Same.f kj21 t745 t748 t751 t754).bind fun t757 => (if t757 = true then (some true) else (none))) = some r := H
            have A100 := Am_ A1000
            clear A1000
            replace H := Option.bind_eq_some_iff.mp H
            obtain ⟨t757, A1010, H⟩ := H
            replace H : (if t757 = true then (some true) else (none)) = some r := H
            have A101 := Am_ A1010
            clear A1010
            by_cases c102 : t757 = true
            ·subst c102
             have H1 : (some true) = some r := by rw [if_pos rfl] at H; exact H
             clear H
             have H := H1
             clear H1
             obtain rfl := Option.some.inj H
             have hnb103 := NB650_651.out
             have hnc103 := NB651_650.out
             have hnb104 := NB650_663.out
             have hnc104 := NB663_650.out
             obtain ⟨hcz105_0, hcz105_1, hfz105_0, hfz105_1⟩ := Ce2_ BK650.out
             try go_wp2_with (first | ((with_reducible refine gate_callee (f := 24) rfl ?_); refine goesL_ (some 111) rfl rfl Try.func24 (by kernel_rfl) rfl #[.agg #[.slice A0_0 l0_0.length c0_0, .slice A0_1 l0_1.length c0_1], .int .i64 a1, .int .i64 a2] rfl (by (try simp only [List.map_toArray, List.map_cons, List.map_nil]); first | done | rfl | (simp only [List.length_drop, List.length_take]; rfl)) ?_; (with_reducible refine (handle_Dup.calls (fun k_ => k_ < w.heap.size) _ _ l0_0 (fun k_ => k_ < w.heap.size) _ _ l0_1 a1 a2 t703 t706 t709 t710 _ ?side1 ?side2 A89.out).mono ?_); (case side1 => exact Kd.V_mk HC0_0.out (Kd.F_below (Kd.C_F k38_heap HR0_0.out) (Pb3_ HB.out GE650.out GE651.out GE663.out))); (case side2 => exact Kd.V_mk HC0_1.out (Kd.F_below (Kd.C_F (Kd.heap_slice 3 (Kd.heap_int .i64)) HR0_1.out) (Pb3_ HB.out GE650.out GE651.out GE663.out))); rintro e w106 ⟨v704, v707, rfl, ho0, ho1, hb⟩; refine ⟨_, rfl, ?_⟩; have n0_ := Am_ (Vb_ (Pv_ HO_664000.out) hb); have n1_ := Am_ (Vb_ (Pv_ HO_664001.out) hb); have n2_ := Am_ (Vl_ (Vm_ (ok' := fun k_ => k_ ≠ gb650 ∧ k_ ≠ gb651 ∧ k_ ≠ gb663) ho0 (fun k_ hk_ => ⟨Or.elim hk_ (fun hs_ => Or.elim hs_ (fun hs_ => fun e_ => Nat.not_le.2 hs_ (by rw [e_]; exact GW650.out)) (fun hs_ => fun e_ => Nat.not_le.2 hs_ (by rw [e_]; exact GW650.out))) (fun hn_ => (Kd.freshB (g := gb650) (o := .cells #[.slice A0_0 l0_0.length c0_0, .slice A0_1 l0_1.length c0_1] 25 (0, 0)) (Pk_ BK650.out) k_ hn_)), Or.elim hk_ (fun hs_ => Or.elim hs_ (fun hs_ => fun e_ => Nat.not_le.2 hs_ (by rw [e_]; exact GW651.out)) (fun hs_ => fun e_ => Nat.not_le.2 hs_ (by rw [e_]; exact GW651.out))) (fun hn_ => (Kd.freshB (g := gb651) (o := .cells #[.int .i64 a3_0, .int .i64 a3_1, .bool a3_2, .bool a3_3, .int .i64 x652004_21, .int .i64 a3_5] 38 (0, 0)) (Pk_ BK651.out) k_ hn_)), Or.elim hk_ (fun hs_ => Or.elim hs_ (fun hs_ => fun e_ => Nat.not_le.2 hs_ (by rw [e_]; exact GW663.out)) (fun hs_ => fun e_ => Nat.not_le.2 hs_ (by rw [e_]; exact GW663.out))) (fun hn_ => (Kd.freshB (g := gb663) (o := .cells #[.slice Ao28 t655.length co28, .slice Ao32 t658.length co32] 25 (0, 0)) (Pk_ BK663.out) k_ hn_))⟩)) (Bz_ (Pb3_ HB.out GE650.out GE651.out GE663.out))); have n3_ := Am_ (Vl_ (Vm_ (ok' := fun k_ => k_ ≠ gb650 ∧ k_ ≠ gb651 ∧ k_ ≠ gb663) ho1 (fun k_ hk_ => ⟨Or.elim hk_ (fun hs_ => Or.elim hs_ (fun hs_ => fun e_ => Nat.not_le.2 hs_ (by rw [e_]; exact GW650.out)) (fun hs_ => fun e_ => Nat.not_le.2 hs_ (by rw [e_]; exact GW650.out))) (fun hn_ => (Kd.freshB (g := gb650) (o := .cells #[.slice A0_0 l0_0.length c0_0, .slice A0_1 l0_1.length c0_1] 25 (0, 0)) (Pk_ BK650.out) k_ hn_)), Or.elim hk_ (fun hs_ => Or.elim hs_ (fun hs_ => fun e_ => Nat.not_le.2 hs_ (by rw [e_]; exact GW651.out)) (fun hs_ => fun e_ => Nat.not_le.2 hs_ (by rw [e_]; exact GW651.out))) (fun hn_ => (Kd.freshB (g := gb651) (o := .cells #[.int .i64 a3_0, .int .i64 a3_1, .bool a3_2, .bool a3_3, .int .i64 x652004_21, .int .i64 a3_5] 38 (0, 0)) (Pk_ BK651.out) k_ hn_)), Or.elim hk_ (fun hs_ => Or.elim hs_ (fun hs_ => fun e_ => Nat.not_le.2 hs_ (by rw [e_]; exact GW663.out)) (fun hs_ => fun e_ => Nat.not_le.2 hs_ (by rw [e_]; exact GW663.out))) (fun hn_ => (Kd.freshB (g := gb663) (o := .cells #[.slice Ao28 t655.length co28, .slice Ao32 t658.length co32] 25 (0, 0)) (Pk_ BK663.out) k_ hn_))⟩)) (Bz_ (Pb3_ HB.out GE650.out GE651.out GE663.out))); have n4_ := Am_ (Bb_ (g := gb650) (o := .cells #[.slice A0_0 l0_0.length c0_0, .slice A0_1 l0_1.length c0_1] 25 (0, 0)) (Pk_ BK650.out) hb); have n5_ := Am_ (Bb_ (g := gb651) (o := .cells #[.int .i64 a3_0, .int .i64 a3_1, .bool a3_2, .bool a3_3, .int .i64 x652004_21, .int .i64 a3_5] 38 (0, 0)) (Pk_ BK651.out) hb); have n6_ := Am_ (Bb_ (g := gb663) (o := .cells #[.slice Ao28 t655.length co28, .slice Ao32 t658.length co32] 25 (0, 0)) (Pk_ BK663.out) hb); have n7_ := Am_ (Be_ (Pb3_ HB.out GE650.out GE651.out GE663.out) hb); clear HO_664000; clear HO_664001; clear BK650; clear BK651; clear BK663; clear HB; have HO_664000 := n0_; have HO_664001 := n1_; have HO705 := n2_; have HO708 := n3_; have BK650 := n4_; have BK651 := n5_; have BK663 := n6_; have HB := n7_; clear n0_ n1_ n2_ n3_ n4_ n5_ n6_ n7_; (try clear hb); (try clear hb2); (try clear hk); (try clear hi); (try clear ho0); (try clear ho1)) | ((with_reducible refine gate_dst (N := 18) rfl ?_); refine box_event ?hg (N := 18) ?hd (cs := #[.slice none 0 0, .slice none 0 0]) (t := 25) ?hr ?_; (case hd => rfl); (case hg => rfl); (case hr => go_simp; try rfl); intro gb711 hg w107 hbox hb; have n0_ := Am_ (Vb_ (Ke_ (Pv_ HO_664000.out) gb711 (Nat.le_of_eq hg.symm)) hb); have n1_ := Am_ (Vb_ (Ke_ (Pv_ HO_664001.out) gb711 (Nat.le_of_eq hg.symm)) hb); have n2_ := Am_ (Vb_ (Ke_ (Pv_ HO705.out) gb711 (Nat.le_of_eq hg.symm)) hb); have n3_ := Am_ (Vb_ (Ke_ (Pv_ HO708.out) gb711 (Nat.le_of_eq hg.symm)) hb); have n4_ := Am_ (Bb_ (g := gb650) (o := .cells #[.slice A0_0 l0_0.length c0_0, .slice A0_1 l0_1.length c0_1] 25 (0, 0)) (Pk_ BK650.out) hb); have n5_ := Am_ (Bb_ (g := gb651) (o := .cells #[.int .i64 a3_0, .int .i64 a3_1, .bool a3_2, .bool a3_3, .int .i64 x652004_21, .int .i64 a3_5] 38 (0, 0)) (Pk_ BK651.out) hb); have n6_ := Am_ (Bb_ (g := gb663) (o := .cells #[.slice Ao28 t655.length co28, .slice Ao32 t658.length co32] 25 (0, 0)) (Pk_ BK663.out) hb); have n7_ := Am_ (Be_ (Pb3_ HB.out GE650.out GE651.out GE663.out) hb); have n8_ := Am_ (hbox); have n9_ := Am_ ((by rw [hg]; exact (Bz_ (Pb3_ HB.out GE650.out GE651.out GE663.out)) : w.heap.size ≤ gb711)); have n10_ := Am_ ((by rw [hg]; exact (Bz_ (Pb3_ HB.out GE650.out GE651.out GE663.out)) : w.heap.size ≤ gb711)); have n11_ := Am_ ((by rw [hg]; exact Nat.ne_of_lt (blk_lt (g := gb650) (o := .cells #[.slice A0_0 l0_0.length c0_0, .slice A0_1 l0_1.length c0_1] 25 (0, 0)) (Pk_ BK650.out)) : gb650 ≠ gb711)); have n12_ := Am_ ((by rw [hg]; exact Nat.ne_of_gt (blk_lt (g := gb650) (o := .cells #[.slice A0_0 l0_0.length c0_0, .slice A0_1 l0_1.length c0_1] 25 (0, 0)) (Pk_ BK650.out)) : gb711 ≠ gb650)); have n13_ := Am_ ((by rw [hg]; exact Nat.ne_of_lt (blk_lt (g := gb651) (o := .cells #[.int .i64 a3_0, .int .i64 a3_1, .bool a3_2, .bool a3_3, .int .i64 x652004_21, .int .i64 a3_5] 38 (0, 0)) (Pk_ BK651.out)) : gb651 ≠ gb711)); have n14_ := Am_ ((by rw [hg]; exact Nat.ne_of_gt (blk_lt (g := gb651) (o := .cells #[.int .i64 a3_0, .int .i64 a3_1, .bool a3_2, .bool a3_3, .int .i64 x652004_21, .int .i64 a3_5] 38 (0, 0)) (Pk_ BK651.out)) : gb711 ≠ gb651)); have n15_ := Am_ ((by rw [hg]; exact Nat.ne_of_lt (blk_lt (g := gb663) (o := .cells #[.slice Ao28 t655.length co28, .slice Ao32 t658.length co32] 25 (0, 0)) (Pk_ BK663.out)) : gb663 ≠ gb711)); have n16_ := Am_ ((by rw [hg]; exact Nat.ne_of_gt (blk_lt (g := gb663) (o := .cells #[.slice Ao28 t655.length co28, .slice Ao32 t658.length co32] 25 (0, 0)) (Pk_ BK663.out)) : gb711 ≠ gb663)); clear HO_664000; clear HO_664001; clear HO705; clear HO708; clear BK650; clear BK651; clear BK663; clear HB; have HO_664000 := n0_; have HO_664001 := n1_; have HO705 := n2_; have HO708 := n3_; have BK650 := n4_; have BK651 := n5_; have BK663 := n6_; have HB := n7_; have BK711 := n8_; have GW711 := n9_; have GE711 := n10_; have NB650_711 := n11_; have NB711_650 := n12_; have NB651_711 := n13_; have NB711_651 := n14_; have NB663_711 := n15_; have NB711_663 := n16_; clear n0_ n1_ n2_ n3_ n4_ n5_ n6_ n7_ n8_ n9_ n10_ n11_ n12_ n13_ n14_ n15_ n16_; clear hb hbox hg; obtain ⟨Ao108, co108, eo108⟩ := Vx_ HO705.out; subst eo108; have hnb109 := NB711_650.out; have hnc109 := NB650_711.out; have hnb110 := NB711_651.out; have hnc110 := NB651_711.out; have hnb111 := NB711_663.out; have hnc111 := NB663_711.out; obtain ⟨hcz112_0, hcz112_1, hfz112_0, hfz112_1⟩ := Ce2_ BK711.out; obtain ⟨Ao113, co113, eo113⟩ := Vx_ HO708.out; subst eo113) | ((with_reducible refine gate_callee (f := 20) rfl ?_); refine goesL_ (some 121) rfl rfl Try.func20 (by kernel_rfl) rfl #[.agg #[.slice Ao108 t703.length co108, .slice Ao113 t706.length co113], .int .i64 a1, .int .i64 t709] rfl (by (try simp only [List.map_toArray, List.map_cons, List.map_nil]); first | done | rfl | (simp only [List.length_drop, List.length_take]; rfl)) ?_; (with_reducible refine (handle_Get.calls _ _ t703 _ _ t706 a1 t709 t712 t713 t714 t715 t716 t717 t718 true _ ?side1 ?side2 ?side3 ?side4 A91.out).mono ?_); (case side1 => refine (Vr_ (e := 38) (base := w.heap.size) (ok := fun k_ => ((k_ ≠ gb650 ∧ (k_ ≠ gb651 ∧ k_ ≠ gb663)) ∧ k_ ≠ gb711)) (n := t703.length) (c := co108) ?_).2.2; exact (by (with_reducible repeat (first | apply Va_ | apply Vn_ | apply Vd_)); exact (Vm_ (Vf_ (p := ⟨gb711, 1, none⟩) (Vf_ (p := ⟨gb711, 0, none⟩) (Vm_ HO705.out (fun k_ hk => (⟨hk, hk.2⟩ : _ ∧ k_ ≠ gb711))) (fun _ hk => hk.2) (.slice Ao108 t703.length co108)) (fun _ hk => hk.2) (.slice Ao113 t706.length co113)) (fun _ h_ => h_.1)))); (case side2 => exact (Vr_ HO705.out).2.1); (case side3 => refine (Vr_ (e := 64) (base := w.heap.size) (ok := fun k_ => ((k_ ≠ gb650 ∧ (k_ ≠ gb651 ∧ k_ ≠ gb663)) ∧ k_ ≠ gb711)) (n := t706.length) (c := co113) ?_).2.2; exact (by (with_reducible repeat (first | apply Va_ | apply Vn_ | apply Vd_)); exact (Vm_ (Vf_ (p := ⟨gb711, 1, none⟩) (Vf_ (p := ⟨gb711, 0, none⟩) (Vm_ HO708.out (fun k_ hk => (⟨hk, hk.2⟩ : _ ∧ k_ ≠ gb711))) (fun _ hk => hk.2) (.slice Ao108 t703.length co108)) (fun _ hk => hk.2) (.slice Ao113 t706.length co113)) (fun _ h_ => h_.1)))); (case side4 => exact (Vr_ HO708.out).2.1); rintro e w114 ⟨rfl, hb⟩; refine ⟨_, rfl, ?_⟩; have n0_ := Am_ (Vb_ (by (with_reducible repeat (first | apply Va_ | apply Vn_ | apply Vd_)); exact (Vm_ (Vf_ (p := ⟨gb711, 1, none⟩) (Vf_ (p := ⟨gb711, 0, none⟩) (Vm_ HO_664000.out (fun k_ hk => (⟨hk, hk.2⟩ : _ ∧ k_ ≠ gb711))) (fun _ hk => hk.2) (.slice Ao108 t703.length co108)) (fun _ hk => hk.2) (.slice Ao113 t706.length co113)) (fun _ h_ => h_.1))) hb); have n1_ := Am_ (Vb_ (by (with_reducible repeat (first | apply Va_ | apply Vn_ | apply Vd_)); exact (Vm_ (Vf_ (p := ⟨gb711, 1, none⟩) (Vf_ (p := ⟨gb711, 0, none⟩) (Vm_ HO_664001.out (fun k_ hk => (⟨hk, hk.2⟩ : _ ∧ k_ ≠ gb711))) (fun _ hk => hk.2) (.slice Ao108 t703.length co108)) (fun _ hk => hk.2) (.slice Ao113 t706.length co113)) (fun _ h_ => h_.1))) hb); have n2_ := Am_ (Vb_ (by (with_reducible repeat (first | apply Va_ | apply Vn_ | apply Vd_)); exact (Vm_ (Vf_ (p := ⟨gb711, 1, none⟩) (Vf_ (p := ⟨gb711, 0, none⟩) (Vm_ HO705.out (fun k_ hk => (⟨hk, hk.2⟩ : _ ∧ k_ ≠ gb711))) (fun _ hk => hk.2) (.slice Ao108 t703.length co108)) (fun _ hk => hk.2) (.slice Ao113 t706.length co113)) (fun _ h_ => h_.1))) hb); have n3_ := Am_ (Vb_ (by (with_reducible repeat (first | apply Va_ | apply Vn_ | apply Vd_)); exact (Vm_ (Vf_ (p := ⟨gb711, 1, none⟩) (Vf_ (p := ⟨gb711, 0, none⟩) (Vm_ HO708.out (fun k_ hk => (⟨hk, hk.2⟩ : _ ∧ k_ ≠ gb711))) (fun _ hk => hk.2) (.slice Ao108 t703.length co108)) (fun _ hk => hk.2) (.slice Ao113 t706.length co113)) (fun _ h_ => h_.1))) hb); have n4_ := Am_ (Bb_ (g := gb650) (o := .cells #[.slice A0_0 l0_0.length c0_0, .slice A0_1 l0_1.length c0_1] 25 (0, 0)) (by (with_reducible repeat (first | refine Bn_ ?_ _ | refine Bd_ ?_ | refine Ba_ ?_ _)); refine blk_far ?_ NB650_711.out _; (with_reducible repeat (first | refine Bn_ ?_ _ | refine Bd_ ?_ | refine Ba_ ?_ _)); refine blk_far ?_ NB650_711.out _; (with_reducible repeat (first | refine Bn_ ?_ _ | refine Bd_ ?_ | refine Ba_ ?_ _)); exact BK650.out) hb); have n5_ := Am_ (Bb_ (g := gb651) (o := .cells #[.int .i64 a3_0, .int .i64 a3_1, .bool a3_2, .bool a3_3, .int .i64 x652004_21, .int .i64 a3_5] 38 (0, 0)) (by (with_reducible repeat (first | refine Bn_ ?_ _ | refine Bd_ ?_ | refine Ba_ ?_ _)); refine blk_far ?_ NB651_711.out _; (with_reducible repeat (first | refine Bn_ ?_ _ | refine Bd_ ?_ | refine Ba_ ?_ _)); refine blk_far ?_ NB651_711.out _; (with_reducible repeat (first | refine Bn_ ?_ _ | refine Bd_ ?_ | refine Ba_ ?_ _)); exact BK651.out) hb); have n6_ := Am_ (Bb_ (g := gb663) (o := .cells #[.slice Ao28 t655.length co28, .slice Ao32 t658.length co32] 25 (0, 0)) (by (with_reducible repeat (first | refine Bn_ ?_ _ | refine Bd_ ?_ | refine Ba_ ?_ _)); refine blk_far ?_ NB663_711.out _; (with_reducible repeat (first | refine Bn_ ?_ _ | refine Bd_ ?_ | refine Ba_ ?_ _)); refine blk_far ?_ NB663_711.out _; (with_reducible repeat (first | refine Bn_ ?_ _ | refine Bd_ ?_ | refine Ba_ ?_ _)); exact BK663.out) hb); have n7_ := Am_ (Bb_ (g := gb711) (o := .cells #[.slice Ao108 t703.length co108, .slice Ao113 t706.length co113] 25 (0, 0)) (by (with_reducible repeat (first | refine Bn_ ?_ _ | refine Bd_ ?_ | refine Ba_ ?_ _)); refine Bp_ (cs := #[.slice Ao108 t703.length co108, .slice none 0 0]) ?_ 1 _ rfl; (with_reducible repeat (first | refine Bn_ ?_ _ | refine Bd_ ?_ | refine Ba_ ?_ _)); refine Bp_ (cs := #[.slice none 0 0, .slice none 0 0]) ?_ 0 _ rfl; (with_reducible repeat (first | refine Bn_ ?_ _ | refine Bd_ ?_ | refine Ba_ ?_ _)); exact BK711.out) hb); have n8_ := Am_ (Be_ (Pb4_ HB.out GE650.out GE651.out GE663.out GE711.out) hb); clear HO_664000; clear HO_664001; clear HO705; clear HO708; clear BK650; clear BK651; clear BK663; clear BK711; clear HB; have HO_664000 := n0_; have HO_664001 := n1_; have HO705 := n2_; have HO708 := n3_; have BK650 := n4_; have BK651 := n5_; have BK663 := n6_; have BK711 := n7_; have HB := n8_; clear n0_ n1_ n2_ n3_ n4_ n5_ n6_ n7_ n8_; (try clear hb); (try clear hb2); (try clear hk); (try clear hi)) | ((with_reducible refine gate_dst (N := 22) rfl ?_); refine box_event ?hg (N := 22) ?hd (cs := #[.int .i64 0, .int .i64 0, .bool false, .bool false, .int .i64 0, .int .i64 0]) (t := 38) ?hr ?_; (case hd => rfl); (case hg => rfl); (case hr => go_simp; try rfl); intro gb720 hg w115 hbox hb; have n0_ := Am_ (Vb_ (Ke_ (Pv_ HO_664000.out) gb720 (Nat.le_of_eq hg.symm)) hb); have n1_ := Am_ (Vb_ (Ke_ (Pv_ HO_664001.out) gb720 (Nat.le_of_eq hg.symm)) hb); have n2_ := Am_ (Vb_ (Ke_ (Pv_ HO705.out) gb720 (Nat.le_of_eq hg.symm)) hb); have n3_ := Am_ (Vb_ (Ke_ (Pv_ HO708.out) gb720 (Nat.le_of_eq hg.symm)) hb); have n4_ := Am_ (Bb_ (g := gb650) (o := .cells #[.slice A0_0 l0_0.length c0_0, .slice A0_1 l0_1.length c0_1] 25 (0, 0)) (Pk_ BK650.out) hb); have n5_ := Am_ (Bb_ (g := gb651) (o := .cells #[.int .i64 a3_0, .int .i64 a3_1, .bool a3_2, .bool a3_3, .int .i64 x652004_21, .int .i64 a3_5] 38 (0, 0)) (Pk_ BK651.out) hb); have n6_ := Am_ (Bb_ (g := gb663) (o := .cells #[.slice Ao28 t655.length co28, .slice Ao32 t658.length co32] 25 (0, 0)) (Pk_ BK663.out) hb); have n7_ := Am_ (Bb_ (g := gb711) (o := .cells #[.slice Ao108 t703.length co108, .slice Ao113 t706.length co113] 25 (0, 0)) (Pk_ BK711.out) hb); have n8_ := Am_ (Be_ (Pb4_ HB.out GE650.out GE651.out GE663.out GE711.out) hb); have n9_ := Am_ (hbox); have n10_ := Am_ ((by rw [hg]; exact (Bz_ (Pb4_ HB.out GE650.out GE651.out GE663.out GE711.out)) : w.heap.size ≤ gb720)); have n11_ := Am_ ((by rw [hg]; exact (Bz_ (Pb4_ HB.out GE650.out GE651.out GE663.out GE711.out)) : w.heap.size ≤ gb720)); have n12_ := Am_ ((by rw [hg]; exact Nat.ne_of_lt (blk_lt (g := gb650) (o := .cells #[.slice A0_0 l0_0.length c0_0, .slice A0_1 l0_1.length c0_1] 25 (0, 0)) (Pk_ BK650.out)) : gb650 ≠ gb720)); have n13_ := Am_ ((by rw [hg]; exact Nat.ne_of_gt (blk_lt (g := gb650) (o := .cells #[.slice A0_0 l0_0.length c0_0, .slice A0_1 l0_1.length c0_1] 25 (0, 0)) (Pk_ BK650.out)) : gb720 ≠ gb650)); have n14_ := Am_ ((by rw [hg]; exact Nat.ne_of_lt (blk_lt (g := gb651) (o := .cells #[.int .i64 a3_0, .int .i64 a3_1, .bool a3_2, .bool a3_3, .int .i64 x652004_21, .int .i64 a3_5] 38 (0, 0)) (Pk_ BK651.out)) : gb651 ≠ gb720)); have n15_ := Am_ ((by rw [hg]; exact Nat.ne_of_gt (blk_lt (g := gb651) (o := .cells #[.int .i64 a3_0, .int .i64 a3_1, .bool a3_2, .bool a3_3, .int .i64 x652004_21, .int .i64 a3_5] 38 (0, 0)) (Pk_ BK651.out)) : gb720 ≠ gb651)); have n16_ := Am_ ((by rw [hg]; exact Nat.ne_of_lt (blk_lt (g := gb663) (o := .cells #[.slice Ao28 t655.length co28, .slice Ao32 t658.length co32] 25 (0, 0)) (Pk_ BK663.out)) : gb663 ≠ gb720)); have n17_ := Am_ ((by rw [hg]; exact Nat.ne_of_gt (blk_lt (g := gb663) (o := .cells #[.slice Ao28 t655.length co28, .slice Ao32 t658.length co32] 25 (0, 0)) (Pk_ BK663.out)) : gb720 ≠ gb663)); have n18_ := Am_ ((by rw [hg]; exact Nat.ne_of_lt (blk_lt (g := gb711) (o := .cells #[.slice Ao108 t703.length co108, .slice Ao113 t706.length co113] 25 (0, 0)) (Pk_ BK711.out)) : gb711 ≠ gb720)); have n19_ := Am_ ((by rw [hg]; exact Nat.ne_of_gt (blk_lt (g := gb711) (o := .cells #[.slice Ao108 t703.length co108, .slice Ao113 t706.length co113] 25 (0, 0)) (Pk_ BK711.out)) : gb720 ≠ gb711)); clear HO_664000; clear HO_664001; clear HO705; clear HO708; clear BK650; clear BK651; clear BK663; clear BK711; clear HB; have HO_664000 := n0_; have HO_664001 := n1_; have HO705 := n2_; have HO708 := n3_; have BK650 := n4_; have BK651 := n5_; have BK663 := n6_; have BK711 := n7_; have HB := n8_; have BK720 := n9_; have GW720 := n10_; have GE720 := n11_; have NB650_720 := n12_; have NB720_650 := n13_; have NB651_720 := n14_; have NB720_651 := n15_; have NB663_720 := n16_; have NB720_663 := n17_; have NB711_720 := n18_; have NB720_711 := n19_; clear n0_ n1_ n2_ n3_ n4_ n5_ n6_ n7_ n8_ n9_ n10_ n11_ n12_ n13_ n14_ n15_ n16_ n17_ n18_ n19_; clear hb hbox hg; have hnb116 := NB720_650.out; have hnc116 := NB650_720.out; have hnb117 := NB720_651.out; have hnc117 := NB651_720.out; have hnb118 := NB720_663.out; have hnc118 := NB663_720.out; have hnb119 := NB720_711.out; have hnc119 := NB711_720.out; obtain ⟨hcz120_0, hcz120_1, hcz120_2, hcz120_3, hcz120_4, hcz120_5, hfz120_0, hfz120_1, hfz120_2, hfz120_3, hfz120_4, hfz120_5⟩ := Ce6_ BK720.out; obtain ⟨hcz121_0, hcz121_1, hfz121_0, hfz121_1⟩ := Ce2_ BK650.out) | ((with_reducible refine gate_callee (f := 20) rfl ?_); refine goesL_ (some 129) rfl rfl Try.func20 (by kernel_rfl) rfl #[.agg #[.slice A0_0 l0_0.length c0_0, .slice A0_1 l0_1.length c0_1], .int .i64 a1, .int .i64 a2] rfl (by (try simp only [List.map_toArray, List.map_cons, List.map_nil]); first | done | rfl | (simp only [List.length_drop, List.length_take]; rfl)) ?_; (with_reducible refine (handle_Get.calls _ _ l0_0 _ _ l0_1 a1 a2 t721 t722 t723 t724 t725 t726 t727 true _ ?side1 ?side2 ?side3 ?side4 A92.out).mono ?_); (case side1 => exact Kd.C_below HR0_0.out (Pb5_ HB.out GE650.out GE651.out GE663.out GE711.out GE720.out)); (case side2 => exact HC0_0.out); (case side3 => exact Kd.C_below HR0_1.out (Pb5_ HB.out GE650.out GE651.out GE663.out GE711.out GE720.out)); (case side4 => exact HC0_1.out); rintro e w122 ⟨rfl, hb⟩; refine ⟨_, rfl, ?_⟩; have n0_ := Am_ (Vb_ (by (with_reducible repeat (first | apply Va_ | apply Vn_ | apply Vd_)); exact (Vm_ (Vf_ (p := ⟨gb720, 5, none⟩) (Vf_ (p := ⟨gb720, 4, none⟩) (Vf_ (p := ⟨gb720, 3, none⟩) (Vf_ (p := ⟨gb720, 2, none⟩) (Vf_ (p := ⟨gb720, 1, none⟩) (Vf_ (p := ⟨gb720, 0, none⟩) (Vm_ HO_664000.out (fun k_ hk => (⟨hk, hk.2⟩ : _ ∧ k_ ≠ gb720))) (fun _ hk => hk.2) (.int .i64 t713)) (fun _ hk => hk.2) (.int .i64 t714)) (fun _ hk => hk.2) (.bool t715)) (fun _ hk => hk.2) (.bool t716)) (fun _ hk => hk.2) (.int .i64 t717)) (fun _ hk => hk.2) (.int .i64 t718)) (fun _ h_ => h_.1))) hb); have n1_ := Am_ (Vb_ (by (with_reducible repeat (first | apply Va_ | apply Vn_ | apply Vd_)); exact (Vm_ (Vf_ (p := ⟨gb720, 5, none⟩) (Vf_ (p := ⟨gb720, 4, none⟩) (Vf_ (p := ⟨gb720, 3, none⟩) (Vf_ (p := ⟨gb720, 2, none⟩) (Vf_ (p := ⟨gb720, 1, none⟩) (Vf_ (p := ⟨gb720, 0, none⟩) (Vm_ HO_664001.out (fun k_ hk => (⟨hk, hk.2⟩ : _ ∧ k_ ≠ gb720))) (fun _ hk => hk.2) (.int .i64 t713)) (fun _ hk => hk.2) (.int .i64 t714)) (fun _ hk => hk.2) (.bool t715)) (fun _ hk => hk.2) (.bool t716)) (fun _ hk => hk.2) (.int .i64 t717)) (fun _ hk => hk.2) (.int .i64 t718)) (fun _ h_ => h_.1))) hb); have n2_ := Am_ (Vb_ (by (with_reducible repeat (first | apply Va_ | apply Vn_ | apply Vd_)); exact (Vm_ (Vf_ (p := ⟨gb720, 5, none⟩) (Vf_ (p := ⟨gb720, 4, none⟩) (Vf_ (p := ⟨gb720, 3, none⟩) (Vf_ (p := ⟨gb720, 2, none⟩) (Vf_ (p := ⟨gb720, 1, none⟩) (Vf_ (p := ⟨gb720, 0, none⟩) (Vm_ HO705.out (fun k_ hk => (⟨hk, hk.2⟩ : _ ∧ k_ ≠ gb720))) (fun _ hk => hk.2) (.int .i64 t713)) (fun _ hk => hk.2) (.int .i64 t714)) (fun _ hk => hk.2) (.bool t715)) (fun _ hk => hk.2) (.bool t716)) (fun _ hk => hk.2) (.int .i64 t717)) (fun _ hk => hk.2) (.int .i64 t718)) (fun _ h_ => h_.1))) hb); have n3_ := Am_ (Vb_ (by (with_reducible repeat (first | apply Va_ | apply Vn_ | apply Vd_)); exact (Vm_ (Vf_ (p := ⟨gb720, 5, none⟩) (Vf_ (p := ⟨gb720, 4, none⟩) (Vf_ (p := ⟨gb720, 3, none⟩) (Vf_ (p := ⟨gb720, 2, none⟩) (Vf_ (p := ⟨gb720, 1, none⟩) (Vf_ (p := ⟨gb720, 0, none⟩) (Vm_ HO708.out (fun k_ hk => (⟨hk, hk.2⟩ : _ ∧ k_ ≠ gb720))) (fun _ hk => hk.2) (.int .i64 t713)) (fun _ hk => hk.2) (.int .i64 t714)) (fun _ hk => hk.2) (.bool t715)) (fun _ hk => hk.2) (.bool t716)) (fun _ hk => hk.2) (.int .i64 t717)) (fun _ hk => hk.2) (.int .i64 t718)) (fun _ h_ => h_.1))) hb); have n4_ := Am_ (Bb_ (g := gb650) (o := .cells #[.slice A0_0 l0_0.length c0_0, .slice A0_1 l0_1.length c0_1] 25 (0, 0)) (by (with_reducible repeat (first | refine Bn_ ?_ _ | refine Bd_ ?_ | refine Ba_ ?_ _)); refine blk_far ?_ NB650_720.out _; (with_reducible repeat (first | refine Bn_ ?_ _ | refine Bd_ ?_ | refine Ba_ ?_ _)); refine blk_far ?_ NB650_720.out _; (with_reducible repeat (first | refine Bn_ ?_ _ | refine Bd_ ?_ | refine Ba_ ?_ _)); refine blk_far ?_ NB650_720.out _; (with_reducible repeat (first | refine Bn_ ?_ _ | refine Bd_ ?_ | refine Ba_ ?_ _)); refine blk_far ?_ NB650_720.out _; (with_reducible repeat (first | refine Bn_ ?_ _ | refine Bd_ ?_ | refine Ba_ ?_ _)); refine blk_far ?_ NB650_720.out _; (with_reducible repeat (first | refine Bn_ ?_ _ | refine Bd_ ?_ | refine Ba_ ?_ _)); refine blk_far ?_ NB650_720.out _; (with_reducible repeat (first | refine Bn_ ?_ _ | refine Bd_ ?_ | refine Ba_ ?_ _)); exact BK650.out) hb); have n5_ := Am_ (Bb_ (g := gb651) (o := .cells #[.int .i64 a3_0, .int .i64 a3_1, .bool a3_2, .bool a3_3, .int .i64 x652004_21, .int .i64 a3_5] 38 (0, 0)) (by (with_reducible repeat (first | refine Bn_ ?_ _ | refine Bd_ ?_ | refine Ba_ ?_ _)); refine blk_far ?_ NB651_720.out _; (with_reducible repeat (first | refine Bn_ ?_ _ | refine Bd_ ?_ | refine Ba_ ?_ _)); refine blk_far ?_ NB651_720.out _; (with_reducible repeat (first | refine Bn_ ?_ _ | refine Bd_ ?_ | refine Ba_ ?_ _)); refine blk_far ?_ NB651_720.out _; (with_reducible repeat (first | refine Bn_ ?_ _ | refine Bd_ ?_ | refine Ba_ ?_ _)); refine blk_far ?_ NB651_720.out _; (with_reducible repeat (first | refine Bn_ ?_ _ | refine Bd_ ?_ | refine Ba_ ?_ _)); refine blk_far ?_ NB651_720.out _; (with_reducible repeat (first | refine Bn_ ?_ _ | refine Bd_ ?_ | refine Ba_ ?_ _)); refine blk_far ?_ NB651_720.out _; (with_reducible repeat (first | refine Bn_ ?_ _ | refine Bd_ ?_ | refine Ba_ ?_ _)); exact BK651.out) hb); have n6_ := Am_ (Bb_ (g := gb663) (o := .cells #[.slice Ao28 t655.length co28, .slice Ao32 t658.length co32] 25 (0, 0)) (by (with_reducible repeat (first | refine Bn_ ?_ _ | refine Bd_ ?_ | refine Ba_ ?_ _)); refine blk_far ?_ NB663_720.out _; (with_reducible repeat (first | refine Bn_ ?_ _ | refine Bd_ ?_ | refine Ba_ ?_ _)); refine blk_far ?_ NB663_720.out _; (with_reducible repeat (first | refine Bn_ ?_ _ | refine Bd_ ?_ | refine Ba_ ?_ _)); refine blk_far ?_ NB663_720.out _; (with_reducible repeat (first | refine Bn_ ?_ _ | refine Bd_ ?_ | refine Ba_ ?_ _)); refine blk_far ?_ NB663_720.out _; (with_reducible repeat (first | refine Bn_ ?_ _ | refine Bd_ ?_ | refine Ba_ ?_ _)); refine blk_far ?_ NB663_720.out _; (with_reducible repeat (first | refine Bn_ ?_ _ | refine Bd_ ?_ | refine Ba_ ?_ _)); refine blk_far ?_ NB663_720.out _; (with_reducible repeat (first | refine Bn_ ?_ _ | refine Bd_ ?_ | refine Ba_ ?_ _)); exact BK663.out) hb); have n7_ := Am_ (Bb_ (g := gb711) (o := .cells #[.slice Ao108 t703.length co108, .slice Ao113 t706.length co113] 25 (0, 0)) (by (with_reducible repeat (first | refine Bn_ ?_ _ | refine Bd_ ?_ | refine Ba_ ?_ _)); refine blk_far ?_ NB711_720.out _; (with_reducible repeat (first | refine Bn_ ?_ _ | refine Bd_ ?_ | refine Ba_ ?_ _)); refine blk_far ?_ NB711_720.out _; (with_reducible repeat (first | refine Bn_ ?_ _ | refine Bd_ ?_ | refine Ba_ ?_ _)); refine blk_far ?_ NB711_720.out _; (with_reducible repeat (first | refine Bn_ ?_ _ | refine Bd_ ?_ | refine Ba_ ?_ _)); refine blk_far ?_ NB711_720.out _; (with_reducible repeat (first | refine Bn_ ?_ _ | refine Bd_ ?_ | refine Ba_ ?_ _)); refine blk_far ?_ NB711_720.out _; (with_reducible repeat (first | refine Bn_ ?_ _ | refine Bd_ ?_ | refine Ba_ ?_ _)); refine blk_far ?_ NB711_720.out _; (with_reducible repeat (first | refine Bn_ ?_ _ | refine Bd_ ?_ | refine Ba_ ?_ _)); exact BK711.out) hb); have n8_ := Am_ (Bb_ (g := gb720) (o := .cells #[.int .i64 t713, .int .i64 t714, .bool t715, .bool t716, .int .i64 t717, .int .i64 t718] 38 (0, 0)) (by (with_reducible repeat (first | refine Bn_ ?_ _ | refine Bd_ ?_ | refine Ba_ ?_ _)); refine Bp_ (cs := #[.int .i64 t713, .int .i64 t714, .bool t715, .bool t716, .int .i64 t717, .int .i64 0]) ?_ 5 _ rfl; (with_reducible repeat (first | refine Bn_ ?_ _ | refine Bd_ ?_ | refine Ba_ ?_ _)); refine Bp_ (cs := #[.int .i64 t713, .int .i64 t714, .bool t715, .bool t716, .int .i64 0, .int .i64 0]) ?_ 4 _ rfl; (with_reducible repeat (first | refine Bn_ ?_ _ | refine Bd_ ?_ | refine Ba_ ?_ _)); refine Bp_ (cs := #[.int .i64 t713, .int .i64 t714, .bool t715, .bool false, .int .i64 0, .int .i64 0]) ?_ 3 _ rfl; (with_reducible repeat (first | refine Bn_ ?_ _ | refine Bd_ ?_ | refine Ba_ ?_ _)); refine Bp_ (cs := #[.int .i64 t713, .int .i64 t714, .bool false, .bool false, .int .i64 0, .int .i64 0]) ?_ 2 _ rfl; (with_reducible repeat (first | refine Bn_ ?_ _ | refine Bd_ ?_ | refine Ba_ ?_ _)); refine Bp_ (cs := #[.int .i64 t713, .int .i64 0, .bool false, .bool false, .int .i64 0, .int .i64 0]) ?_ 1 _ rfl; (with_reducible repeat (first | refine Bn_ ?_ _ | refine Bd_ ?_ | refine Ba_ ?_ _)); refine Bp_ (cs := #[.int .i64 0, .int .i64 0, .bool false, .bool false, .int .i64 0, .int .i64 0]) ?_ 0 _ rfl; (with_reducible repeat (first | refine Bn_ ?_ _ | refine Bd_ ?_ | refine Ba_ ?_ _)); exact BK720.out) hb); have n9_ := Am_ (Be_ (Pb5_ HB.out GE650.out GE651.out GE663.out GE711.out GE720.out) hb); clear HO_664000; clear HO_664001; clear HO705; clear HO708; clear BK650; clear BK651; clear BK663; clear BK711; clear BK720; clear HB; have HO_664000 := n0_; have HO_664001 := n1_; have HO705 := n2_; have HO708 := n3_; have BK650 := n4_; have BK651 := n5_; have BK663 := n6_; have BK711 := n7_; have BK720 := n8_; have HB := n9_; clear n0_ n1_ n2_ n3_ n4_ n5_ n6_ n7_ n8_ n9_; (try clear hb); (try clear hb2); (try clear hk); (try clear hi)) | ((with_reducible refine gate_dst (N := 25) rfl ?_); refine box_event ?hg (N := 25) ?hd (cs := #[.int .i64 0, .int .i64 0, .bool false, .bool false, .int .i64 0, .int .i64 0]) (t := 38) ?hr ?_; (case hd => rfl); (case hg => rfl); (case hr => go_simp; try rfl); intro gb729 hg w123 hbox hb; have n0_ := Am_ (Vb_ (Ke_ (Pv_ HO_664000.out) gb729 (Nat.le_of_eq hg.symm)) hb); have n1_ := Am_ (Vb_ (Ke_ (Pv_ HO_664001.out) gb729 (Nat.le_of_eq hg.symm)) hb); have n2_ := Am_ (Vb_ (Ke_ (Pv_ HO705.out) gb729 (Nat.le_of_eq hg.symm)) hb); have n3_ := Am_ (Vb_ (Ke_ (Pv_ HO708.out) gb729 (Nat.le_of_eq hg.symm)) hb); have n4_ := Am_ (Bb_ (g := gb650) (o := .cells #[.slice A0_0 l0_0.length c0_0, .slice A0_1 l0_1.length c0_1] 25 (0, 0)) (Pk_ BK650.out) hb); have n5_ := Am_ (Bb_ (g := gb651) (o := .cells #[.int .i64 a3_0, .int .i64 a3_1, .bool a3_2, .bool a3_3, .int .i64 x652004_21, .int .i64 a3_5] 38 (0, 0)) (Pk_ BK651.out) hb); have n6_ := Am_ (Bb_ (g := gb663) (o := .cells #[.slice Ao28 t655.length co28, .slice Ao32 t658.length co32] 25 (0, 0)) (Pk_ BK663.out) hb); have n7_ := Am_ (Bb_ (g := gb711) (o := .cells #[.slice Ao108 t703.length co108, .slice Ao113 t706.length co113] 25 (0, 0)) (Pk_ BK711.out) hb); have n8_ := Am_ (Bb_ (g := gb720) (o := .cells #[.int .i64 t713, .int .i64 t714, .bool t715, .bool t716, .int .i64 t717, .int .i64 t718] 38 (0, 0)) (Pk_ BK720.out) hb); have n9_ := Am_ (Be_ (Pb5_ HB.out GE650.out GE651.out GE663.out GE711.out GE720.out) hb); have n10_ := Am_ (hbox); have n11_ := Am_ ((by rw [hg]; exact (Bz_ (Pb5_ HB.out GE650.out GE651.out GE663.out GE711.out GE720.out)) : w.heap.size ≤ gb729)); have n12_ := Am_ ((by rw [hg]; exact (Bz_ (Pb5_ HB.out GE650.out GE651.out GE663.out GE711.out GE720.out)) : w.heap.size ≤ gb729)); have n13_ := Am_ ((by rw [hg]; exact Nat.ne_of_lt (blk_lt (g := gb650) (o := .cells #[.slice A0_0 l0_0.length c0_0, .slice A0_1 l0_1.length c0_1] 25 (0, 0)) (Pk_ BK650.out)) : gb650 ≠ gb729)); have n14_ := Am_ ((by rw [hg]; exact Nat.ne_of_gt (blk_lt (g := gb650) (o := .cells #[.slice A0_0 l0_0.length c0_0, .slice A0_1 l0_1.length c0_1] 25 (0, 0)) (Pk_ BK650.out)) : gb729 ≠ gb650)); have n15_ := Am_ ((by rw [hg]; exact Nat.ne_of_lt (blk_lt (g := gb651) (o := .cells #[.int .i64 a3_0, .int .i64 a3_1, .bool a3_2, .bool a3_3, .int .i64 x652004_21, .int .i64 a3_5] 38 (0, 0)) (Pk_ BK651.out)) : gb651 ≠ gb729)); have n16_ := Am_ ((by rw [hg]; exact Nat.ne_of_gt (blk_lt (g := gb651) (o := .cells #[.int .i64 a3_0, .int .i64 a3_1, .bool a3_2, .bool a3_3, .int .i64 x652004_21, .int .i64 a3_5] 38 (0, 0)) (Pk_ BK651.out)) : gb729 ≠ gb651)); have n17_ := Am_ ((by rw [hg]; exact Nat.ne_of_lt (blk_lt (g := gb663) (o := .cells #[.slice Ao28 t655.length co28, .slice Ao32 t658.length co32] 25 (0, 0)) (Pk_ BK663.out)) : gb663 ≠ gb729)); have n18_ := Am_ ((by rw [hg]; exact Nat.ne_of_gt (blk_lt (g := gb663) (o := .cells #[.slice Ao28 t655.length co28, .slice Ao32 t658.length co32] 25 (0, 0)) (Pk_ BK663.out)) : gb729 ≠ gb663)); have n19_ := Am_ ((by rw [hg]; exact Nat.ne_of_lt (blk_lt (g := gb711) (o := .cells #[.slice Ao108 t703.length co108, .slice Ao113 t706.length co113] 25 (0, 0)) (Pk_ BK711.out)) : gb711 ≠ gb729)); have n20_ := Am_ ((by rw [hg]; exact Nat.ne_of_gt (blk_lt (g := gb711) (o := .cells #[.slice Ao108 t703.length co108, .slice Ao113 t706.length co113] 25 (0, 0)) (Pk_ BK711.out)) : gb729 ≠ gb711)); have n21_ := Am_ ((by rw [hg]; exact Nat.ne_of_lt (blk_lt (g := gb720) (o := .cells #[.int .i64 t713, .int .i64 t714, .bool t715, .bool t716, .int .i64 t717, .int .i64 t718] 38 (0, 0)) (Pk_ BK720.out)) : gb720 ≠ gb729)); have n22_ := Am_ ((by rw [hg]; exact Nat.ne_of_gt (blk_lt (g := gb720) (o := .cells #[.int .i64 t713, .int .i64 t714, .bool t715, .bool t716, .int .i64 t717, .int .i64 t718] 38 (0, 0)) (Pk_ BK720.out)) : gb729 ≠ gb720)); clear HO_664000; clear HO_664001; clear HO705; clear HO708; clear BK650; clear BK651; clear BK663; clear BK711; clear BK720; clear HB; have HO_664000 := n0_; have HO_664001 := n1_; have HO705 := n2_; have HO708 := n3_; have BK650 := n4_; have BK651 := n5_; have BK663 := n6_; have BK711 := n7_; have BK720 := n8_; have HB := n9_; have BK729 := n10_; have GW729 := n11_; have GE729 := n12_; have NB650_729 := n13_; have NB729_650 := n14_; have NB651_729 := n15_; have NB729_651 := n16_; have NB663_729 := n17_; have NB729_663 := n18_; have NB711_729 := n19_; have NB729_711 := n20_; have NB720_729 := n21_; have NB729_720 := n22_; clear n0_ n1_ n2_ n3_ n4_ n5_ n6_ n7_ n8_ n9_ n10_ n11_ n12_ n13_ n14_ n15_ n16_ n17_ n18_ n19_ n20_ n21_ n22_; clear hb hbox hg; have hnb124 := NB729_650.out; have hnc124 := NB650_729.out; have hnb125 := NB729_651.out; have hnc125 := NB651_729.out; have hnb126 := NB729_663.out; have hnc126 := NB663_729.out; have hnb127 := NB729_711.out; have hnc127 := NB711_729.out; have hnb128 := NB729_720.out; have hnc128 := NB720_729.out; obtain ⟨hcz129_0, hcz129_1, hcz129_2, hcz129_3, hcz129_4, hcz129_5, hfz129_0, hfz129_1, hfz129_2, hfz129_3, hfz129_4, hfz129_5⟩ := Ce6_ BK729.out) | ((with_reducible refine gate_store (t := 38) (p := 25) rfl ?_); refine store_event (t := 38) (p := 25) (v := ?vo_w130) (w1 := ((((((w123.setCell ⟨gb729, 0, none⟩ (.int .i64 t722)).setCell ⟨gb729, 1, none⟩ (.int .i64 t723)).setCell ⟨gb729, 2, none⟩ (.bool t724)).setCell ⟨gb729, 3, none⟩ (.bool t725)).setCell ⟨gb729, 4, none⟩ (.int .i64 t726)).setCell ⟨gb729, 5, none⟩ (.int .i64 t727))) ?hg ?ho ?hn ?hr ?_; (case ho => rfl); (case hg => rfl); (case hn => rfl); (case hr => go_simp; try rfl); intro w130 hw; have n0_ : Aside0 (Kd.V k38 38 w130 w.heap.size (fun k_ => k_ ≠ gb650 ∧ k_ ≠ gb651 ∧ k_ ≠ gb663 ∧ k_ ≠ gb711 ∧ k_ ≠ gb720 ∧ k_ ≠ gb729) (.slice Ao28 t655.length co28) t655) := ⟨(by rw [hw]; exact (by (with_reducible repeat (first | apply Va_ | apply Vn_ | apply Vd_)); exact Vm_ (Vf_ (p := ⟨gb729, 5, none⟩) (Vf_ (p := ⟨gb729, 4, none⟩) (Vf_ (p := ⟨gb729, 3, none⟩) (Vf_ (p := ⟨gb729, 2, none⟩) (Vf_ (p := ⟨gb729, 1, none⟩) (Vf_ (p := ⟨gb729, 0, none⟩) (Vm_ HO_664000.out (fun k_ hk => (⟨hk, hk.2⟩ : _ ∧ k_ ≠ gb729))) (fun _ hk => hk.2) (.int .i64 t722)) (fun _ hk => hk.2) (.int .i64 t723)) (fun _ hk => hk.2) (.bool t724)) (fun _ hk => hk.2) (.bool t725)) (fun _ hk => hk.2) (.int .i64 t726)) (fun _ hk => hk.2) (.int .i64 t727)) (fun _ hk => ⟨hk.1.1.1.1.1, ⟨hk.1.1.1.1.2.1, ⟨hk.1.1.1.1.2.2, ⟨hk.1.1.1.2, ⟨hk.1.1.2, hk.1.2⟩⟩⟩⟩⟩)))⟩; have n1_ : Aside0 (Kd.V (Kd.slice 3 (Kd.int .i64)) 64 w130 w.heap.size (fun k_ => k_ ≠ gb650 ∧ k_ ≠ gb651 ∧ k_ ≠ gb663 ∧ k_ ≠ gb711 ∧ k_ ≠ gb720 ∧ k_ ≠ gb729) (.slice Ao32 t658.length co32) t658) := ⟨(by rw [hw]; exact (by (with_reducible repeat (first | apply Va_ | apply Vn_ | apply Vd_)); exact Vm_ (Vf_ (p := ⟨gb729, 5, none⟩) (Vf_ (p := ⟨gb729, 4, none⟩) (Vf_ (p := ⟨gb729, 3, none⟩) (Vf_ (p := ⟨gb729, 2, none⟩) (Vf_ (p := ⟨gb729, 1, none⟩) (Vf_ (p := ⟨gb729, 0, none⟩) (Vm_ HO_664001.out (fun k_ hk => (⟨hk, hk.2⟩ : _ ∧ k_ ≠ gb729))) (fun _ hk => hk.2) (.int .i64 t722)) (fun _ hk => hk.2) (.int .i64 t723)) (fun _ hk => hk.2) (.bool t724)) (fun _ hk => hk.2) (.bool t725)) (fun _ hk => hk.2) (.int .i64 t726)) (fun _ hk => hk.2) (.int .i64 t727)) (fun _ hk => ⟨hk.1.1.1.1.1, ⟨hk.1.1.1.1.2.1, ⟨hk.1.1.1.1.2.2, ⟨hk.1.1.1.2, ⟨hk.1.1.2, hk.1.2⟩⟩⟩⟩⟩)))⟩; have n2_ : Aside0 (Kd.V k38 38 w130 w.heap.size (fun k_ => k_ ≠ gb650 ∧ k_ ≠ gb651 ∧ k_ ≠ gb663 ∧ k_ ≠ gb711 ∧ k_ ≠ gb720 ∧ k_ ≠ gb729) (.slice Ao108 t703.length co108) t703) := ⟨(by rw [hw]; exact (by (with_reducible repeat (first | apply Va_ | apply Vn_ | apply Vd_)); exact Vm_ (Vf_ (p := ⟨gb729, 5, none⟩) (Vf_ (p := ⟨gb729, 4, none⟩) (Vf_ (p := ⟨gb729, 3, none⟩) (Vf_ (p := ⟨gb729, 2, none⟩) (Vf_ (p := ⟨gb729, 1, none⟩) (Vf_ (p := ⟨gb729, 0, none⟩) (Vm_ HO705.out (fun k_ hk => (⟨hk, hk.2⟩ : _ ∧ k_ ≠ gb729))) (fun _ hk => hk.2) (.int .i64 t722)) (fun _ hk => hk.2) (.int .i64 t723)) (fun _ hk => hk.2) (.bool t724)) (fun _ hk => hk.2) (.bool t725)) (fun _ hk => hk.2) (.int .i64 t726)) (fun _ hk => hk.2) (.int .i64 t727)) (fun _ hk => ⟨hk.1.1.1.1.1, ⟨hk.1.1.1.1.2.1, ⟨hk.1.1.1.1.2.2, ⟨hk.1.1.1.2, ⟨hk.1.1.2, hk.1.2⟩⟩⟩⟩⟩)))⟩; have n3_ : Aside0 (Kd.V (Kd.slice 3 (Kd.int .i64)) 64 w130 w.heap.size (fun k_ => k_ ≠ gb650 ∧ k_ ≠ gb651 ∧ k_ ≠ gb663 ∧ k_ ≠ gb711 ∧ k_ ≠ gb720 ∧ k_ ≠ gb729) (.slice Ao113 t706.length co113) t706) := ⟨(by rw [hw]; exact (by (with_reducible repeat (first | apply Va_ | apply Vn_ | apply Vd_)); exact Vm_ (Vf_ (p := ⟨gb729, 5, none⟩) (Vf_ (p := ⟨gb729, 4, none⟩) (Vf_ (p := ⟨gb729, 3, none⟩) (Vf_ (p := ⟨gb729, 2, none⟩) (Vf_ (p := ⟨gb729, 1, none⟩) (Vf_ (p := ⟨gb729, 0, none⟩) (Vm_ HO708.out (fun k_ hk => (⟨hk, hk.2⟩ : _ ∧ k_ ≠ gb729))) (fun _ hk => hk.2) (.int .i64 t722)) (fun _ hk => hk.2) (.int .i64 t723)) (fun _ hk => hk.2) (.bool t724)) (fun _ hk => hk.2) (.bool t725)) (fun _ hk => hk.2) (.int .i64 t726)) (fun _ hk => hk.2) (.int .i64 t727)) (fun _ hk => ⟨hk.1.1.1.1.1, ⟨hk.1.1.1.1.2.1, ⟨hk.1.1.1.1.2.2, ⟨hk.1.1.1.2, ⟨hk.1.1.2, hk.1.2⟩⟩⟩⟩⟩)))⟩; have n4_ : Aside0 (w130.heap[gb650]? = some (.cells #[.slice A0_0 l0_0.length c0_0, .slice A0_1 l0_1.length c0_1] 25 (0, 0))) := ⟨(by rw [hw]; exact (by (with_reducible repeat (first | refine Bn_ ?_ _ | refine Bd_ ?_ | refine Ba_ ?_ _)); refine blk_far ?_ NB650_729.out _; (with_reducible repeat (first | refine Bn_ ?_ _ | refine Bd_ ?_ | refine Ba_ ?_ _)); refine blk_far ?_ NB650_729.out _; (with_reducible repeat (first | refine Bn_ ?_ _ | refine Bd_ ?_ | refine Ba_ ?_ _)); refine blk_far ?_ NB650_729.out _; (with_reducible repeat (first | refine Bn_ ?_ _ | refine Bd_ ?_ | refine Ba_ ?_ _)); refine blk_far ?_ NB650_729.out _; (with_reducible repeat (first | refine Bn_ ?_ _ | refine Bd_ ?_ | refine Ba_ ?_ _)); refine blk_far ?_ NB650_729.out _; (with_reducible repeat (first | refine Bn_ ?_ _ | refine Bd_ ?_ | refine Ba_ ?_ _)); refine blk_far ?_ NB650_729.out _; (with_reducible repeat (first | refine Bn_ ?_ _ | refine Bd_ ?_ | refine Ba_ ?_ _)); exact BK650.out))⟩; have n5_ : Aside0 (w130.heap[gb651]? = some (.cells #[.int .i64 a3_0, .int .i64 a3_1, .bool a3_2, .bool a3_3, .int .i64 x652004_21, .int .i64 a3_5] 38 (0, 0))) := ⟨(by rw [hw]; exact (by (with_reducible repeat (first | refine Bn_ ?_ _ | refine Bd_ ?_ | refine Ba_ ?_ _)); refine blk_far ?_ NB651_729.out _; (with_reducible repeat (first | refine Bn_ ?_ _ | refine Bd_ ?_ | refine Ba_ ?_ _)); refine blk_far ?_ NB651_729.out _; (with_reducible repeat (first | refine Bn_ ?_ _ | refine Bd_ ?_ | refine Ba_ ?_ _)); refine blk_far ?_ NB651_729.out _; (with_reducible repeat (first | refine Bn_ ?_ _ | refine Bd_ ?_ | refine Ba_ ?_ _)); refine blk_far ?_ NB651_729.out _; (with_reducible repeat (first | refine Bn_ ?_ _ | refine Bd_ ?_ | refine Ba_ ?_ _)); refine blk_far ?_ NB651_729.out _; (with_reducible repeat (first | refine Bn_ ?_ _ | refine Bd_ ?_ | refine Ba_ ?_ _)); refine blk_far ?_ NB651_729.out _; (with_reducible repeat (first | refine Bn_ ?_ _ | refine Bd_ ?_ | refine Ba_ ?_ _)); exact BK651.out))⟩; have n6_ : Aside0 (w130.heap[gb663]? = some (.cells #[.slice Ao28 t655.length co28, .slice Ao32 t658.length co32] 25 (0, 0))) := ⟨(by rw [hw]; exact (by (with_reducible repeat (first | refine Bn_ ?_ _ | refine Bd_ ?_ | refine Ba_ ?_ _)); refine blk_far ?_ NB663_729.out _; (with_reducible repeat (first | refine Bn_ ?_ _ | refine Bd_ ?_ | refine Ba_ ?_ _)); refine blk_far ?_ NB663_729.out _; (with_reducible repeat (first | refine Bn_ ?_ _ | refine Bd_ ?_ | refine Ba_ ?_ _)); refine blk_far ?_ NB663_729.out _; (with_reducible repeat (first | refine Bn_ ?_ _ | refine Bd_ ?_ | refine Ba_ ?_ _)); refine blk_far ?_ NB663_729.out _; (with_reducible repeat (first | refine Bn_ ?_ _ | refine Bd_ ?_ | refine Ba_ ?_ _)); refine blk_far ?_ NB663_729.out _; (with_reducible repeat (first | refine Bn_ ?_ _ | refine Bd_ ?_ | refine Ba_ ?_ _)); refine blk_far ?_ NB663_729.out _; (with_reducible repeat (first | refine Bn_ ?_ _ | refine Bd_ ?_ | refine Ba_ ?_ _)); exact BK663.out))⟩; have n7_ : Aside0 (w130.heap[gb711]? = some (.cells #[.slice Ao108 t703.length co108, .slice Ao113 t706.length co113] 25 (0, 0))) := ⟨(by rw [hw]; exact (by (with_reducible repeat (first | refine Bn_ ?_ _ | refine Bd_ ?_ | refine Ba_ ?_ _)); refine blk_far ?_ NB711_729.out _; (with_reducible repeat (first | refine Bn_ ?_ _ | refine Bd_ ?_ | refine Ba_ ?_ _)); refine blk_far ?_ NB711_729.out _; (with_reducible repeat (first | refine Bn_ ?_ _ | refine Bd_ ?_ | refine Ba_ ?_ _)); refine blk_far ?_ NB711_729.out _; (with_reducible repeat (first | refine Bn_ ?_ _ | refine Bd_ ?_ | refine Ba_ ?_ _)); refine blk_far ?_ NB711_729.out _; (with_reducible repeat (first | refine Bn_ ?_ _ | refine Bd_ ?_ | refine Ba_ ?_ _)); refine blk_far ?_ NB711_729.out _; (with_reducible repeat (first | refine Bn_ ?_ _ | refine Bd_ ?_ | refine Ba_ ?_ _)); refine blk_far ?_ NB711_729.out _; (with_reducible repeat (first | refine Bn_ ?_ _ | refine Bd_ ?_ | refine Ba_ ?_ _)); exact BK711.out))⟩; have n8_ : Aside0 (w130.heap[gb720]? = some (.cells #[.int .i64 t713, .int .i64 t714, .bool t715, .bool t716, .int .i64 t717, .int .i64 t718] 38 (0, 0))) := ⟨(by rw [hw]; exact (by (with_reducible repeat (first | refine Bn_ ?_ _ | refine Bd_ ?_ | refine Ba_ ?_ _)); refine blk_far ?_ NB720_729.out _; (with_reducible repeat (first | refine Bn_ ?_ _ | refine Bd_ ?_ | refine Ba_ ?_ _)); refine blk_far ?_ NB720_729.out _; (with_reducible repeat (first | refine Bn_ ?_ _ | refine Bd_ ?_ | refine Ba_ ?_ _)); refine blk_far ?_ NB720_729.out _; (with_reducible repeat (first | refine Bn_ ?_ _ | refine Bd_ ?_ | refine Ba_ ?_ _)); refine blk_far ?_ NB720_729.out _; (with_reducible repeat (first | refine Bn_ ?_ _ | refine Bd_ ?_ | refine Ba_ ?_ _)); refine blk_far ?_ NB720_729.out _; (with_reducible repeat (first | refine Bn_ ?_ _ | refine Bd_ ?_ | refine Ba_ ?_ _)); refine blk_far ?_ NB720_729.out _; (with_reducible repeat (first | refine Bn_ ?_ _ | refine Bd_ ?_ | refine Ba_ ?_ _)); exact BK720.out))⟩; have n9_ : Aside0 (w130.heap[gb729]? = some (.cells #[.int .i64 t722, .int .i64 t723, .bool t724, .bool t725, .int .i64 t726, .int .i64 t727] 38 (0, 0))) := ⟨(by rw [hw]; exact (by (with_reducible repeat (first | refine Bn_ ?_ _ | refine Bd_ ?_ | refine Ba_ ?_ _)); refine Bp_ (cs := #[.int .i64 t722, .int .i64 t723, .bool t724, .bool t725, .int .i64 t726, .int .i64 0]) ?_ 5 _ rfl; (with_reducible repeat (first | refine Bn_ ?_ _ | refine Bd_ ?_ | refine Ba_ ?_ _)); refine Bp_ (cs := #[.int .i64 t722, .int .i64 t723, .bool t724, .bool t725, .int .i64 0, .int .i64 0]) ?_ 4 _ rfl; (with_reducible repeat (first | refine Bn_ ?_ _ | refine Bd_ ?_ | refine Ba_ ?_ _)); refine Bp_ (cs := #[.int .i64 t722, .int .i64 t723, .bool t724, .bool false, .int .i64 0, .int .i64 0]) ?_ 3 _ rfl; (with_reducible repeat (first | refine Bn_ ?_ _ | refine Bd_ ?_ | refine Ba_ ?_ _)); refine Bp_ (cs := #[.int .i64 t722, .int .i64 t723, .bool false, .bool false, .int .i64 0, .int .i64 0]) ?_ 2 _ rfl; (with_reducible repeat (first | refine Bn_ ?_ _ | refine Bd_ ?_ | refine Ba_ ?_ _)); refine Bp_ (cs := #[.int .i64 t722, .int .i64 0, .bool false, .bool false, .int .i64 0, .int .i64 0]) ?_ 1 _ rfl; (with_reducible repeat (first | refine Bn_ ?_ _ | refine Bd_ ?_ | refine Ba_ ?_ _)); refine Bp_ (cs := #[.int .i64 0, .int .i64 0, .bool false, .bool false, .int .i64 0, .int .i64 0]) ?_ 0 _ rfl; (with_reducible repeat (first | refine Bn_ ?_ _ | refine Bd_ ?_ | refine Ba_ ?_ _)); exact BK729.out))⟩; have n10_ : Aside0 (Below w.heap.size w w130) := ⟨(by rw [hw]; exact (by repeat (first | (with_reducible first | exact HB.out | apply Pa_ | apply Pn_ | apply Pd_ | refine Bs_ ?_ GE650.out | refine Bs_ ?_ GE651.out | refine Bs_ ?_ GE663.out | refine Bs_ ?_ GE711.out | refine Bs_ ?_ GE720.out | refine Bs_ ?_ GE729.out) | exact HB.out)))⟩; clear hw; clear HO_664000; clear HO_664001; clear HO705; clear HO708; clear BK650; clear BK651; clear BK663; clear BK711; clear BK720; clear BK729; clear HB; have HO_664000 := n0_; have HO_664001 := n1_; have HO705 := n2_; have HO708 := n3_; have BK650 := n4_; have BK651 := n5_; have BK663 := n6_; have BK711 := n7_; have BK720 := n8_; have BK729 := n9_; have HB := n10_; clear n0_ n1_ n2_ n3_ n4_ n5_ n6_ n7_ n8_ n9_ n10_; obtain ⟨hcz131_0, hcz131_1, hfz131_0, hfz131_1⟩ := Ce2_ BK711.out) | ((with_reducible refine gate_callee (f := 21) rfl ?_); refine goesL_ (some 137) rfl rfl Try.func21 (by kernel_rfl) rfl #[.agg #[.slice Ao108 t703.length co108, .slice Ao113 t706.length co113], .int .i64 a1, .int .i64 t709] rfl (by (try simp only [List.map_toArray, List.map_cons, List.map_nil]); first | done | rfl | (simp only [List.length_drop, List.length_take]; rfl)) ?_; (with_reducible refine (handle_Close.calls (fun k_ => (k_ ≠ gb650 ∧ (k_ ≠ gb651 ∧ (k_ ≠ gb663 ∧ (k_ ≠ gb711 ∧ (k_ ≠ gb720 ∧ k_ ≠ gb729)))))) _ _ t703 (fun k_ => (k_ ≠ gb650 ∧ (k_ ≠ gb651 ∧ (k_ ≠ gb663 ∧ (k_ ≠ gb711 ∧ (k_ ≠ gb720 ∧ k_ ≠ gb729)))))) _ _ t706 a1 t709 t730 t733 t736 t737 t738 t739 t740 t741 t742 _ ?side1 ?side2 A93.out).mono ?_); (case side1 => exact HO705.out); (case side2 => exact HO708.out); rintro e w132 ⟨v731, v734, rfl, ho0, ho1, hb⟩; refine ⟨_, rfl, ?_⟩; have n0_ := Am_ (Vb_ (Pv_ HO_664000.out) hb); have n1_ := Am_ (Vb_ (Pv_ HO_664001.out) hb); have n2_ := Am_ (Vb_ (Pv_ HO705.out) hb); have n3_ := Am_ (Vb_ (Pv_ HO708.out) hb); have n4_ := Am_ (Vl_ (Vm_ (ok' := fun k_ => k_ ≠ gb650 ∧ k_ ≠ gb651 ∧ k_ ≠ gb663 ∧ k_ ≠ gb711 ∧ k_ ≠ gb720 ∧ k_ ≠ gb729) ho0 (fun k_ hk_ => ⟨Or.elim hk_ (fun hs_ => Or.elim hs_ (fun hs_ => hs_.1) (fun hs_ => hs_.1)) (fun hn_ => (Kd.freshB (g := gb650) (o := .cells #[.slice A0_0 l0_0.length c0_0, .slice A0_1 l0_1.length c0_1] 25 (0, 0)) (Pk_ BK650.out) k_ hn_)), Or.elim hk_ (fun hs_ => Or.elim hs_ (fun hs_ => hs_.2.1) (fun hs_ => hs_.2.1)) (fun hn_ => (Kd.freshB (g := gb651) (o := .cells #[.int .i64 a3_0, .int .i64 a3_1, .bool a3_2, .bool a3_3, .int .i64 x652004_21, .int .i64 a3_5] 38 (0, 0)) (Pk_ BK651.out) k_ hn_)), Or.elim hk_ (fun hs_ => Or.elim hs_ (fun hs_ => hs_.2.2.1) (fun hs_ => hs_.2.2.1)) (fun hn_ => (Kd.freshB (g := gb663) (o := .cells #[.slice Ao28 t655.length co28, .slice Ao32 t658.length co32] 25 (0, 0)) (Pk_ BK663.out) k_ hn_)), Or.elim hk_ (fun hs_ => Or.elim hs_ (fun hs_ => hs_.2.2.2.1) (fun hs_ => hs_.2.2.2.1)) (fun hn_ => (Kd.freshB (g := gb711) (o := .cells #[.slice Ao108 t703.length co108, .slice Ao113 t706.length co113] 25 (0, 0)) (Pk_ BK711.out) k_ hn_)), Or.elim hk_ (fun hs_ => Or.elim hs_ (fun hs_ => hs_.2.2.2.2.1) (fun hs_ => hs_.2.2.2.2.1)) (fun hn_ => (Kd.freshB (g := gb720) (o := .cells #[.int .i64 t713, .int .i64 t714, .bool t715, .bool t716, .int .i64 t717, .int .i64 t718] 38 (0, 0)) (Pk_ BK720.out) k_ hn_)), Or.elim hk_ (fun hs_ => Or.elim hs_ (fun hs_ => hs_.2.2.2.2.2) (fun hs_ => hs_.2.2.2.2.2)) (fun hn_ => (Kd.freshB (g := gb729) (o := .cells #[.int .i64 t722, .int .i64 t723, .bool t724, .bool t725, .int .i64 t726, .int .i64 t727] 38 (0, 0)) (Pk_ BK729.out) k_ hn_))⟩)) (Bz_ (by repeat (first | (with_reducible first | exact HB.out | apply Pa_ | apply Pn_ | apply Pd_ | refine Bs_ ?_ GE650.out | refine Bs_ ?_ GE651.out | refine Bs_ ?_ GE663.out | refine Bs_ ?_ GE711.out | refine Bs_ ?_ GE720.out | refine Bs_ ?_ GE729.out) | exact HB.out)))); have n5_ := Am_ (Vl_ (Vm_ (ok' := fun k_ => k_ ≠ gb650 ∧ k_ ≠ gb651 ∧ k_ ≠ gb663 ∧ k_ ≠ gb711 ∧ k_ ≠ gb720 ∧ k_ ≠ gb729) ho1 (fun k_ hk_ => ⟨Or.elim hk_ (fun hs_ => Or.elim hs_ (fun hs_ => hs_.1) (fun hs_ => hs_.1)) (fun hn_ => (Kd.freshB (g := gb650) (o := .cells #[.slice A0_0 l0_0.length c0_0, .slice A0_1 l0_1.length c0_1] 25 (0, 0)) (Pk_ BK650.out) k_ hn_)), Or.elim hk_ (fun hs_ => Or.elim hs_ (fun hs_ => hs_.2.1) (fun hs_ => hs_.2.1)) (fun hn_ => (Kd.freshB (g := gb651) (o := .cells #[.int .i64 a3_0, .int .i64 a3_1, .bool a3_2, .bool a3_3, .int .i64 x652004_21, .int .i64 a3_5] 38 (0, 0)) (Pk_ BK651.out) k_ hn_)), Or.elim hk_ (fun hs_ => Or.elim hs_ (fun hs_ => hs_.2.2.1) (fun hs_ => hs_.2.2.1)) (fun hn_ => (Kd.freshB (g := gb663) (o := .cells #[.slice Ao28 t655.length co28, .slice Ao32 t658.length co32] 25 (0, 0)) (Pk_ BK663.out) k_ hn_)), Or.elim hk_ (fun hs_ => Or.elim hs_ (fun hs_ => hs_.2.2.2.1) (fun hs_ => hs_.2.2.2.1)) (fun hn_ => (Kd.freshB (g := gb711) (o := .cells #[.slice Ao108 t703.length co108, .slice Ao113 t706.length co113] 25 (0, 0)) (Pk_ BK711.out) k_ hn_)), Or.elim hk_ (fun hs_ => Or.elim hs_ (fun hs_ => hs_.2.2.2.2.1) (fun hs_ => hs_.2.2.2.2.1)) (fun hn_ => (Kd.freshB (g := gb720) (o := .cells #[.int .i64 t713, .int .i64 t714, .bool t715, .bool t716, .int .i64 t717, .int .i64 t718] 38 (0, 0)) (Pk_ BK720.out) k_ hn_)), Or.elim hk_ (fun hs_ => Or.elim hs_ (fun hs_ => hs_.2.2.2.2.2) (fun hs_ => hs_.2.2.2.2.2)) (fun hn_ => (Kd.freshB (g := gb729) (o := .cells #[.int .i64 t722, .int .i64 t723, .bool t724, .bool t725, .int .i64 t726, .int .i64 t727] 38 (0, 0)) (Pk_ BK729.out) k_ hn_))⟩)) (Bz_ (by repeat (first | (with_reducible first | exact HB.out | apply Pa_ | apply Pn_ | apply Pd_ | refine Bs_ ?_ GE650.out | refine Bs_ ?_ GE651.out | refine Bs_ ?_ GE663.out | refine Bs_ ?_ GE711.out | refine Bs_ ?_ GE720.out | refine Bs_ ?_ GE729.out) | exact HB.out)))); have n6_ := Am_ (Bb_ (g := gb650) (o := .cells #[.slice A0_0 l0_0.length c0_0, .slice A0_1 l0_1.length c0_1] 25 (0, 0)) (Pk_ BK650.out) hb); have n7_ := Am_ (Bb_ (g := gb651) (o := .cells #[.int .i64 a3_0, .int .i64 a3_1, .bool a3_2, .bool a3_3, .int .i64 x652004_21, .int .i64 a3_5] 38 (0, 0)) (Pk_ BK651.out) hb); have n8_ := Am_ (Bb_ (g := gb663) (o := .cells #[.slice Ao28 t655.length co28, .slice Ao32 t658.length co32] 25 (0, 0)) (Pk_ BK663.out) hb); have n9_ := Am_ (Bb_ (g := gb711) (o := .cells #[.slice Ao108 t703.length co108, .slice Ao113 t706.length co113] 25 (0, 0)) (Pk_ BK711.out) hb); have n10_ := Am_ (Bb_ (g := gb720) (o := .cells #[.int .i64 t713, .int .i64 t714, .bool t715, .bool t716, .int .i64 t717, .int .i64 t718] 38 (0, 0)) (Pk_ BK720.out) hb); have n11_ := Am_ (Bb_ (g := gb729) (o := .cells #[.int .i64 t722, .int .i64 t723, .bool t724, .bool t725, .int .i64 t726, .int .i64 t727] 38 (0, 0)) (Pk_ BK729.out) hb); have n12_ := Am_ (Be_ (by repeat (first | (with_reducible first | exact HB.out | apply Pa_ | apply Pn_ | apply Pd_ | refine Bs_ ?_ GE650.out | refine Bs_ ?_ GE651.out | refine Bs_ ?_ GE663.out | refine Bs_ ?_ GE711.out | refine Bs_ ?_ GE720.out | refine Bs_ ?_ GE729.out) | exact HB.out)) hb); clear HO_664000; clear HO_664001; clear HO705; clear HO708; clear BK650; clear BK651; clear BK663; clear BK711; clear BK720; clear BK729; clear HB; have HO_664000 := n0_; have HO_664001 := n1_; have HO705 := n2_; have HO708 := n3_; have HO732 := n4_; have HO735 := n5_; have BK650 := n6_; have BK651 := n7_; have BK663 := n8_; have BK711 := n9_; have BK720 := n10_; have BK729 := n11_; have HB := n12_; clear n0_ n1_ n2_ n3_ n4_ n5_ n6_ n7_ n8_ n9_ n10_ n11_ n12_; (try clear hb); (try clear hb2); (try clear hk); (try clear hi); (try clear ho0); (try clear ho1)) | ((with_reducible refine gate_dst (N := 27) rfl ?_); refine box_event ?hg (N := 27) ?hd (cs := #[.slice none 0 0, .slice none 0 0]) (t := 25) ?hr ?_; (case hd => rfl); (case hg => rfl); (case hr => go_simp; try rfl); intro gb743 hg w133 hbox hb; have n0_ := Am_ (Vb_ (Ke_ (Pv_ HO_664000.out) gb743 (Nat.le_of_eq hg.symm)) hb); have n1_ := Am_ (Vb_ (Ke_ (Pv_ HO_664001.out) gb743 (Nat.le_of_eq hg.symm)) hb); have n2_ := Am_ (Vb_ (Ke_ (Pv_ HO705.out) gb743 (Nat.le_of_eq hg.symm)) hb); have n3_ := Am_ (Vb_ (Ke_ (Pv_ HO708.out) gb743 (Nat.le_of_eq hg.symm)) hb); have n4_ := Am_ (Vb_ (Ke_ (Pv_ HO732.out) gb743 (Nat.le_of_eq hg.symm)) hb); have n5_ := Am_ (Vb_ (Ke_ (Pv_ HO735.out) gb743 (Nat.le_of_eq hg.symm)) hb); have n6_ := Am_ (Bb_ (g := gb650) (o := .cells #[.slice A0_0 l0_0.length c0_0, .slice A0_1 l0_1.length c0_1] 25 (0, 0)) (Pk_ BK650.out) hb); have n7_ := Am_ (Bb_ (g := gb651) (o := .cells #[.int .i64 a3_0, .int .i64 a3_1, .bool a3_2, .bool a3_3, .int .i64 x652004_21, .int .i64 a3_5] 38 (0, 0)) (Pk_ BK651.out) hb); have n8_ := Am_ (Bb_ (g := gb663) (o := .cells #[.slice Ao28 t655.length co28, .slice Ao32 t658.length co32] 25 (0, 0)) (Pk_ BK663.out) hb); have n9_ := Am_ (Bb_ (g := gb711) (o := .cells #[.slice Ao108 t703.length co108, .slice Ao113 t706.length co113] 25 (0, 0)) (Pk_ BK711.out) hb); have n10_ := Am_ (Bb_ (g := gb720) (o := .cells #[.int .i64 t713, .int .i64 t714, .bool t715, .bool t716, .int .i64 t717, .int .i64 t718] 38 (0, 0)) (Pk_ BK720.out) hb); have n11_ := Am_ (Bb_ (g := gb729) (o := .cells #[.int .i64 t722, .int .i64 t723, .bool t724, .bool t725, .int .i64 t726, .int .i64 t727] 38 (0, 0)) (Pk_ BK729.out) hb); have n12_ := Am_ (Be_ (by repeat (first | (with_reducible first | exact HB.out | apply Pa_ | apply Pn_ | apply Pd_ | refine Bs_ ?_ GE650.out | refine Bs_ ?_ GE651.out | refine Bs_ ?_ GE663.out | refine Bs_ ?_ GE711.out | refine Bs_ ?_ GE720.out | refine Bs_ ?_ GE729.out) | exact HB.out)) hb); have n13_ := Am_ (hbox); have n14_ := Am_ ((by rw [hg]; exact (Bz_ (by repeat (first | (with_reducible first | exact HB.out | apply Pa_ | apply Pn_ | apply Pd_ | refine Bs_ ?_ GE650.out | refine Bs_ ?_ GE651.out | refine Bs_ ?_ GE663.out | refine Bs_ ?_ GE711.out | refine Bs_ ?_ GE720.out | refine Bs_ ?_ GE729.out) | exact HB.out))) : w.heap.size ≤ gb743)); have n15_ := Am_ ((by rw [hg]; exact (Bz_ (by repeat (first | (with_reducible first | exact HB.out | apply Pa_ | apply Pn_ | apply Pd_ | refine Bs_ ?_ GE650.out | refine Bs_ ?_ GE651.out | refine Bs_ ?_ GE663.out | refine Bs_ ?_ GE711.out | refine Bs_ ?_ GE720.out | refine Bs_ ?_ GE729.out) | exact HB.out))) : w.heap.size ≤ gb743)); have n16_ := Am_ ((by rw [hg]; exact Nat.ne_of_lt (blk_lt (g := gb650) (o := .cells #[.slice A0_0 l0_0.length c0_0, .slice A0_1 l0_1.length c0_1] 25 (0, 0)) (Pk_ BK650.out)) : gb650 ≠ gb743)); have n17_ := Am_ ((by rw [hg]; exact Nat.ne_of_gt (blk_lt (g := gb650) (o := .cells #[.slice A0_0 l0_0.length c0_0, .slice A0_1 l0_1.length c0_1] 25 (0, 0)) (Pk_ BK650.out)) : gb743 ≠ gb650)); have n18_ := Am_ ((by rw [hg]; exact Nat.ne_of_lt (blk_lt (g := gb651) (o := .cells #[.int .i64 a3_0, .int .i64 a3_1, .bool a3_2, .bool a3_3, .int .i64 x652004_21, .int .i64 a3_5] 38 (0, 0)) (Pk_ BK651.out)) : gb651 ≠ gb743)); have n19_ := Am_ ((by rw [hg]; exact Nat.ne_of_gt (blk_lt (g := gb651) (o := .cells #[.int .i64 a3_0, .int .i64 a3_1, .bool a3_2, .bool a3_3, .int .i64 x652004_21, .int .i64 a3_5] 38 (0, 0)) (Pk_ BK651.out)) : gb743 ≠ gb651)); have n20_ := Am_ ((by rw [hg]; exact Nat.ne_of_lt (blk_lt (g := gb663) (o := .cells #[.slice Ao28 t655.length co28, .slice Ao32 t658.length co32] 25 (0, 0)) (Pk_ BK663.out)) : gb663 ≠ gb743)); have n21_ := Am_ ((by rw [hg]; exact Nat.ne_of_gt (blk_lt (g := gb663) (o := .cells #[.slice Ao28 t655.length co28, .slice Ao32 t658.length co32] 25 (0, 0)) (Pk_ BK663.out)) : gb743 ≠ gb663)); have n22_ := Am_ ((by rw [hg]; exact Nat.ne_of_lt (blk_lt (g := gb711) (o := .cells #[.slice Ao108 t703.length co108, .slice Ao113 t706.length co113] 25 (0, 0)) (Pk_ BK711.out)) : gb711 ≠ gb743)); have n23_ := Am_ ((by rw [hg]; exact Nat.ne_of_gt (blk_lt (g := gb711) (o := .cells #[.slice Ao108 t703.length co108, .slice Ao113 t706.length co113] 25 (0, 0)) (Pk_ BK711.out)) : gb743 ≠ gb711)); have n24_ := Am_ ((by rw [hg]; exact Nat.ne_of_lt (blk_lt (g := gb720) (o := .cells #[.int .i64 t713, .int .i64 t714, .bool t715, .bool t716, .int .i64 t717, .int .i64 t718] 38 (0, 0)) (Pk_ BK720.out)) : gb720 ≠ gb743)); have n25_ := Am_ ((by rw [hg]; exact Nat.ne_of_gt (blk_lt (g := gb720) (o := .cells #[.int .i64 t713, .int .i64 t714, .bool t715, .bool t716, .int .i64 t717, .int .i64 t718] 38 (0, 0)) (Pk_ BK720.out)) : gb743 ≠ gb720)); have n26_ := Am_ ((by rw [hg]; exact Nat.ne_of_lt (blk_lt (g := gb729) (o := .cells #[.int .i64 t722, .int .i64 t723, .bool t724, .bool t725, .int .i64 t726, .int .i64 t727] 38 (0, 0)) (Pk_ BK729.out)) : gb729 ≠ gb743)); have n27_ := Am_ ((by rw [hg]; exact Nat.ne_of_gt (blk_lt (g := gb729) (o := .cells #[.int .i64 t722, .int .i64 t723, .bool t724, .bool t725, .int .i64 t726, .int .i64 t727] 38 (0, 0)) (Pk_ BK729.out)) : gb743 ≠ gb729)); clear HO_664000; clear HO_664001; clear HO705; clear HO708; clear HO732; clear HO735; clear BK650; clear BK651; clear BK663; clear BK711; clear BK720; clear BK729; clear HB; have HO_664000 := n0_; have HO_664001 := n1_; have HO705 := n2_; have HO708 := n3_; have HO732 := n4_; have HO735 := n5_; have BK650 := n6_; have BK651 := n7_; have BK663 := n8_; have BK711 := n9_; have BK720 := n10_; have BK729 := n11_; have HB := n12_; have BK743 := n13_; have GW743 := n14_; have GE743 := n15_; have NB650_743 := n16_; have NB743_650 := n17_; have NB651_743 := n18_; have NB743_651 := n19_; have NB663_743 := n20_; have NB743_663 := n21_; have NB711_743 := n22_; have NB743_711 := n23_; have NB720_743 := n24_; have NB743_720 := n25_; have NB729_743 := n26_; have NB743_729 := n27_; clear n0_ n1_ n2_ n3_ n4_ n5_ n6_ n7_ n8_ n9_ n10_ n11_ n12_ n13_ n14_ n15_ n16_ n17_ n18_ n19_ n20_ n21_ n22_ n23_ n24_ n25_ n26_ n27_; clear hb hbox hg) | ((with_reducible refine gate_dst (N := 28) rfl ?_); refine box_event ?hg (N := 28) ?hd (cs := #[.int .i64 0, .int .i64 0, .bool false, .bool false, .int .i64 0, .int .i64 0]) (t := 38) ?hr ?_; (case hd => rfl); (case hg => rfl); (case hr => go_simp; try rfl); intro gb744 hg w134 hbox hb; have n0_ := Am_ (Vb_ (Ke_ (Pv_ HO_664000.out) gb744 (Nat.le_of_eq hg.symm)) hb); have n1_ := Am_ (Vb_ (Ke_ (Pv_ HO_664001.out) gb744 (Nat.le_of_eq hg.symm)) hb); have n2_ := Am_ (Vb_ (Ke_ (Pv_ HO705.out) gb744 (Nat.le_of_eq hg.symm)) hb); have n3_ := Am_ (Vb_ (Ke_ (Pv_ HO708.out) gb744 (Nat.le_of_eq hg.symm)) hb); have n4_ := Am_ (Vb_ (Ke_ (Pv_ HO732.out) gb744 (Nat.le_of_eq hg.symm)) hb); have n5_ := Am_ (Vb_ (Ke_ (Pv_ HO735.out) gb744 (Nat.le_of_eq hg.symm)) hb); have n6_ := Am_ (Bb_ (g := gb650) (o := .cells #[.slice A0_0 l0_0.length c0_0, .slice A0_1 l0_1.length c0_1] 25 (0, 0)) (Pk_ BK650.out) hb); have n7_ := Am_ (Bb_ (g := gb651) (o := .cells #[.int .i64 a3_0, .int .i64 a3_1, .bool a3_2, .bool a3_3, .int .i64 x652004_21, .int .i64 a3_5] 38 (0, 0)) (Pk_ BK651.out) hb); have n8_ := Am_ (Bb_ (g := gb663) (o := .cells #[.slice Ao28 t655.length co28, .slice Ao32 t658.length co32] 25 (0, 0)) (Pk_ BK663.out) hb); have n9_ := Am_ (Bb_ (g := gb711) (o := .cells #[.slice Ao108 t703.length co108, .slice Ao113 t706.length co113] 25 (0, 0)) (Pk_ BK711.out) hb); have n10_ := Am_ (Bb_ (g := gb720) (o := .cells #[.int .i64 t713, .int .i64 t714, .bool t715, .bool t716, .int .i64 t717, .int .i64 t718] 38 (0, 0)) (Pk_ BK720.out) hb); have n11_ := Am_ (Bb_ (g := gb729) (o := .cells #[.int .i64 t722, .int .i64 t723, .bool t724, .bool t725, .int .i64 t726, .int .i64 t727] 38 (0, 0)) (Pk_ BK729.out) hb); have n12_ := Am_ (Bb_ (g := gb743) (o := .cells #[.slice none 0 0, .slice none 0 0] 25 (0, 0)) (Pk_ BK743.out) hb); have n13_ := Am_ (Be_ (by repeat (first | (with_reducible first | exact HB.out | apply Pa_ | apply Pn_ | apply Pd_ | refine Bs_ ?_ GE650.out | refine Bs_ ?_ GE651.out | refine Bs_ ?_ GE663.out | refine Bs_ ?_ GE711.out | refine Bs_ ?_ GE720.out | refine Bs_ ?_ GE729.out | refine Bs_ ?_ GE743.out) | exact HB.out)) hb); have n14_ := Am_ (hbox); have n15_ := Am_ ((by rw [hg]; exact (Bz_ (by repeat (first | (with_reducible first | exact HB.out | apply Pa_ | apply Pn_ | apply Pd_ | refine Bs_ ?_ GE650.out | refine Bs_ ?_ GE651.out | refine Bs_ ?_ GE663.out | refine Bs_ ?_ GE711.out | refine Bs_ ?_ GE720.out | refine Bs_ ?_ GE729.out | refine Bs_ ?_ GE743.out) | exact HB.out))) : w.heap.size ≤ gb744)); have n16_ := Am_ ((by rw [hg]; exact (Bz_ (by repeat (first | (with_reducible first | exact HB.out | apply Pa_ | apply Pn_ | apply Pd_ | refine Bs_ ?_ GE650.out | refine Bs_ ?_ GE651.out | refine Bs_ ?_ GE663.out | refine Bs_ ?_ GE711.out | refine Bs_ ?_ GE720.out | refine Bs_ ?_ GE729.out | refine Bs_ ?_ GE743.out) | exact HB.out))) : w.heap.size ≤ gb744)); have n17_ := Am_ ((by rw [hg]; exact Nat.ne_of_lt (blk_lt (g := gb650) (o := .cells #[.slice A0_0 l0_0.length c0_0, .slice A0_1 l0_1.length c0_1] 25 (0, 0)) (Pk_ BK650.out)) : gb650 ≠ gb744)); have n18_ := Am_ ((by rw [hg]; exact Nat.ne_of_gt (blk_lt (g := gb650) (o := .cells #[.slice A0_0 l0_0.length c0_0, .slice A0_1 l0_1.length c0_1] 25 (0, 0)) (Pk_ BK650.out)) : gb744 ≠ gb650)); have n19_ := Am_ ((by rw [hg]; exact Nat.ne_of_lt (blk_lt (g := gb651) (o := .cells #[.int .i64 a3_0, .int .i64 a3_1, .bool a3_2, .bool a3_3, .int .i64 x652004_21, .int .i64 a3_5] 38 (0, 0)) (Pk_ BK651.out)) : gb651 ≠ gb744)); have n20_ := Am_ ((by rw [hg]; exact Nat.ne_of_gt (blk_lt (g := gb651) (o := .cells #[.int .i64 a3_0, .int .i64 a3_1, .bool a3_2, .bool a3_3, .int .i64 x652004_21, .int .i64 a3_5] 38 (0, 0)) (Pk_ BK651.out)) : gb744 ≠ gb651)); have n21_ := Am_ ((by rw [hg]; exact Nat.ne_of_lt (blk_lt (g := gb663) (o := .cells #[.slice Ao28 t655.length co28, .slice Ao32 t658.length co32] 25 (0, 0)) (Pk_ BK663.out)) : gb663 ≠ gb744)); have n22_ := Am_ ((by rw [hg]; exact Nat.ne_of_gt (blk_lt (g := gb663) (o := .cells #[.slice Ao28 t655.length co28, .slice Ao32 t658.length co32] 25 (0, 0)) (Pk_ BK663.out)) : gb744 ≠ gb663)); have n23_ := Am_ ((by rw [hg]; exact Nat.ne_of_lt (blk_lt (g := gb711) (o := .cells #[.slice Ao108 t703.length co108, .slice Ao113 t706.length co113] 25 (0, 0)) (Pk_ BK711.out)) : gb711 ≠ gb744)); have n24_ := Am_ ((by rw [hg]; exact Nat.ne_of_gt (blk_lt (g := gb711) (o := .cells #[.slice Ao108 t703.length co108, .slice Ao113 t706.length co113] 25 (0, 0)) (Pk_ BK711.out)) : gb744 ≠ gb711)); have n25_ := Am_ ((by rw [hg]; exact Nat.ne_of_lt (blk_lt (g := gb720) (o := .cells #[.int .i64 t713, .int .i64 t714, .bool t715, .bool t716, .int .i64 t717, .int .i64 t718] 38 (0, 0)) (Pk_ BK720.out)) : gb720 ≠ gb744)); have n26_ := Am_ ((by rw [hg]; exact Nat.ne_of_gt (blk_lt (g := gb720) (o := .cells #[.int .i64 t713, .int .i64 t714, .bool t715, .bool t716, .int .i64 t717, .int .i64 t718] 38 (0, 0)) (Pk_ BK720.out)) : gb744 ≠ gb720)); have n27_ := Am_ ((by rw [hg]; exact Nat.ne_of_lt (blk_lt (g := gb729) (o := .cells #[.int .i64 t722, .int .i64 t723, .bool t724, .bool t725, .int .i64 t726, .int .i64 t727] 38 (0, 0)) (Pk_ BK729.out)) : gb729 ≠ gb744)); have n28_ := Am_ ((by rw [hg]; exact Nat.ne_of_gt (blk_lt (g := gb729) (o := .cells #[.int .i64 t722, .int .i64 t723, .bool t724, .bool t725, .int .i64 t726, .int .i64 t727] 38 (0, 0)) (Pk_ BK729.out)) : gb744 ≠ gb729)); have n29_ := Am_ ((by rw [hg]; exact Nat.ne_of_lt (blk_lt (g := gb743) (o := .cells #[.slice none 0 0, .slice none 0 0] 25 (0, 0)) (Pk_ BK743.out)) : gb743 ≠ gb744)); have n30_ := Am_ ((by rw [hg]; exact Nat.ne_of_gt (blk_lt (g := gb743) (o := .cells #[.slice none 0 0, .slice none 0 0] 25 (0, 0)) (Pk_ BK743.out)) : gb744 ≠ gb743)); clear HO_664000; clear HO_664001; clear HO705; clear HO708; clear HO732; clear HO735; clear BK650; clear BK651; clear BK663; clear BK711; clear BK720; clear BK729; clear BK743; clear HB; have HO_664000 := n0_; have HO_664001 := n1_; have HO705 := n2_; have HO708 := n3_; have HO732 := n4_; have HO735 := n5_; have BK650 := n6_; have BK651 := n7_; have BK663 := n8_; have BK711 := n9_; have BK720 := n10_; have BK729 := n11_; have BK743 := n12_; have HB := n13_; have BK744 := n14_; have GW744 := n15_; have GE744 := n16_; have NB650_744 := n17_; have NB744_650 := n18_; have NB651_744 := n19_; have NB744_651 := n20_; have NB663_744 := n21_; have NB744_663 := n22_; have NB711_744 := n23_; have NB744_711 := n24_; have NB720_744 := n25_; have NB744_720 := n26_; have NB729_744 := n27_; have NB744_729 := n28_; have NB743_744 := n29_; have NB744_743 := n30_; clear n0_ n1_ n2_ n3_ n4_ n5_ n6_ n7_ n8_ n9_ n10_ n11_ n12_ n13_ n14_ n15_ n16_ n17_ n18_ n19_ n20_ n21_ n22_ n23_ n24_ n25_ n26_ n27_ n28_ n29_ n30_; clear hb hbox hg; obtain ⟨Ao135, co135, eo135⟩ := Vx_ HO732.out; subst eo135; have hnb136 := NB743_650.out; have hnc136 := NB650_743.out; have hnb137 := NB743_651.out; have hnc137 := NB651_743.out; have hnb138 := NB743_663.out; have hnc138 := NB663_743.out; have hnb139 := NB743_711.out; have hnc139 := NB711_743.out; have hnb140 := NB743_720.out; have hnc140 := NB720_743.out; have hnb141 := NB743_729.out; have hnc141 := NB729_743.out; have hnb142 := NB743_744.out; have hnc142 := NB744_743.out; obtain ⟨hcz143_0, hcz143_1, hfz143_0, hfz143_1⟩ := Ce2_ BK743.out; obtain ⟨Ao144, co144, eo144⟩ := Vx_ HO735.out; subst eo144; have hnb145 := NB744_650.out; have hnc145 := NB650_744.out; have hnb146 := NB744_651.out; have hnc146 := NB651_744.out; have hnb147 := NB744_663.out; have hnc147 := NB663_744.out; have hnb148 := NB744_711.out; have hnc148 := NB711_744.out; have hnb149 := NB744_720.out; have hnc149 := NB720_744.out; have hnb150 := NB744_729.out; have hnc150 := NB729_744.out; obtain ⟨hcz151_0, hcz151_1, hcz151_2, hcz151_3, hcz151_4, hcz151_5, hfz151_0, hfz151_1, hfz151_2, hfz151_3, hfz151_4, hfz151_5⟩ := Ce6_ BK744.out))
             have n0_ : Aside0 (Kd.V k38 38 ((((((((w134.setCell ⟨gb743, 0, none⟩ (.slice Ao135 t730.length co135)).setCell ⟨gb743, 1, none⟩ (.slice Ao144 t733.length co144)).setCell ⟨gb744, 0, none⟩ (.int .i64 t736)).setCell ⟨gb744, 1, none⟩ (.int .i64 t737)).setCell ⟨gb744, 2, none⟩ (.bool t738)).setCell ⟨gb744, 3, none⟩ (.bool t739)).setCell ⟨gb744, 4, none⟩ (.int .i64 t740)).setCell ⟨gb744, 5, none⟩ (.int .i64 t741)) w.heap.size (fun k_ => k_ ≠ gb650 ∧ k_ ≠ gb651 ∧ k_ ≠ gb663 ∧ k_ ≠ gb711 ∧ k_ ≠ gb720 ∧ k_ ≠ gb729 ∧ k_ ≠ gb743 ∧ k_ ≠ gb744) (.slice Ao28 t655.length co28) t655) := ⟨by (with_reducible repeat (first | apply Va_ | apply Vn_ | apply Vd_)); exact Vm_ (Vf_ (p := ⟨gb744, 5, none⟩) (Vf_ (p := ⟨gb744, 4, none⟩) (Vf_ (p := ⟨gb744, 3, none⟩) (Vf_ (p := ⟨gb744, 2, none⟩) (Vf_ (p := ⟨gb744, 1, none⟩) (Vf_ (p := ⟨gb744, 0, none⟩) (Vf_ (p := ⟨gb743, 1, none⟩) (Vf_ (p := ⟨gb743, 0, none⟩) (Vm_ (Vm_ HO_664000.out (fun k_ hk => (⟨hk, hk.1.2⟩ : _ ∧ k_ ≠ gb743))) (fun k_ hk => (⟨hk, hk.1.2⟩ : _ ∧ k_ ≠ gb744))) (fun _ hk => hk.1.2) (.slice Ao135 t730.length co135)) (fun _ hk => hk.1.2) (.slice Ao144 t733.length co144)) (fun _ hk => hk.2) (.int .i64 t736)) (fun _ hk => hk.2) (.int .i64 t737)) (fun _ hk => hk.2) (.bool t738)) (fun _ hk => hk.2) (.bool t739)) (fun _ hk => hk.2) (.int .i64 t740)) (fun _ hk => hk.2) (.int .i64 t741)) (fun _ hk => ⟨hk.1.1.1.1.1, ⟨hk.1.1.1.1.2.1, ⟨hk.1.1.1.1.2.2.1, ⟨hk.1.1.1.1.2.2.2.1, ⟨hk.1.1.1.1.2.2.2.2.1, ⟨hk.1.1.1.1.2.2.2.2.2, ⟨hk.1.1.1.2, hk.1.1.2⟩⟩⟩⟩⟩⟩⟩)⟩
             have n1_ : Aside0 (Kd.V (Kd.slice 3 (Kd.int .i64)) 64 ((((((((w134.setCell ⟨gb743, 0, none⟩ (.slice Ao135 t730.length co135)).setCell ⟨gb743, 1, none⟩ (.slice Ao144 t733.length co144)).setCell ⟨gb744, 0, none⟩ (.int .i64 t736)).setCell ⟨gb744, 1, none⟩ (.int .i64 t737)).setCell ⟨gb744, 2, none⟩ (.bool t738)).setCell ⟨gb744, 3, none⟩ (.bool t739)).setCell ⟨gb744, 4, none⟩ (.int .i64 t740)).setCell ⟨gb744, 5, none⟩ (.int .i64 t741)) w.heap.size (fun k_ => k_ ≠ gb650 ∧ k_ ≠ gb651 ∧ k_ ≠ gb663 ∧ k_ ≠ gb711 ∧ k_ ≠ gb720 ∧ k_ ≠ gb729 ∧ k_ ≠ gb743 ∧ k_ ≠ gb744) (.slice Ao32 t658.length co32) t658) := ⟨by (with_reducible repeat (first | apply Va_ | apply Vn_ | apply Vd_)); exact Vm_ (Vf_ (p := ⟨gb744, 5, none⟩) (Vf_ (p := ⟨gb744, 4, none⟩) (Vf_ (p := ⟨gb744, 3, none⟩) (Vf_ (p := ⟨gb744, 2, none⟩) (Vf_ (p := ⟨gb744, 1, none⟩) (Vf_ (p := ⟨gb744, 0, none⟩) (Vf_ (p := ⟨gb743, 1, none⟩) (Vf_ (p := ⟨gb743, 0, none⟩) (Vm_ (Vm_ HO_664001.out (fun k_ hk => (⟨hk, hk.1.2⟩ : _ ∧ k_ ≠ gb743))) (fun k_ hk => (⟨hk, hk.1.2⟩ : _ ∧ k_ ≠ gb744))) (fun _ hk => hk.1.2) (.slice Ao135 t730.length co135)) (fun _ hk => hk.1.2) (.slice Ao144 t733.length co144)) (fun _ hk => hk.2) (.int .i64 t736)) (fun _ hk => hk.2) (.int .i64 t737)) (fun _ hk => hk.2) (.bool t738)) (fun _ hk => hk.2) (.bool t739)) (fun _ hk => hk.2) (.int .i64 t740)) (fun _ hk => hk.2) (.int .i64 t741)) (fun _ hk => ⟨hk.1.1.1.1.1, ⟨hk.1.1.1.1.2.1, ⟨hk.1.1.1.1.2.2.1, ⟨hk.1.1.1.1.2.2.2.1, ⟨hk.1.1.1.1.2.2.2.2.1, ⟨hk.1.1.1.1.2.2.2.2.2, ⟨hk.1.1.1.2, hk.1.1.2⟩⟩⟩⟩⟩⟩⟩)⟩
             have n2_ : Aside0 (Kd.V k38 38 ((((((((w134.setCell ⟨gb743, 0, none⟩ (.slice Ao135 t730.length co135)).setCell ⟨gb743, 1, none⟩ (.slice Ao144 t733.length co144)).setCell ⟨gb744, 0, none⟩ (.int .i64 t736)).setCell ⟨gb744, 1, none⟩ (.int .i64 t737)).setCell ⟨gb744, 2, none⟩ (.bool t738)).setCell ⟨gb744, 3, none⟩ (.bool t739)).setCell ⟨gb744, 4, none⟩ (.int .i64 t740)).setCell ⟨gb744, 5, none⟩ (.int .i64 t741)) w.heap.size (fun k_ => k_ ≠ gb650 ∧ k_ ≠ gb651 ∧ k_ ≠ gb663 ∧ k_ ≠ gb711 ∧ k_ ≠ gb720 ∧ k_ ≠ gb729 ∧ k_ ≠ gb743 ∧ k_ ≠ gb744) (.slice Ao108 t703.length co108) t703) := ⟨by (with_reducible repeat (first | apply Va_ | apply Vn_ | apply Vd_)); exact Vm_ (Vf_ (p := ⟨gb744, 5, none⟩) (Vf_ (p := ⟨gb744, 4, none⟩) (Vf_ (p := ⟨gb744, 3, none⟩) (Vf_ (p := ⟨gb744, 2, none⟩) (Vf_ (p := ⟨gb744, 1, none⟩) (Vf_ (p := ⟨gb744, 0, none⟩) (Vf_ (p := ⟨gb743, 1, none⟩) (Vf_ (p := ⟨gb743, 0, none⟩) (Vm_ (Vm_ HO705.out (fun k_ hk => (⟨hk, hk.1.2⟩ : _ ∧ k_ ≠ gb743))) (fun k_ hk => (⟨hk, hk.1.2⟩ : _ ∧ k_ ≠ gb744))) (fun _ hk => hk.1.2) (.slice Ao135 t730.length co135)) (fun _ hk => hk.1.2) (.slice Ao144 t733.length co144)) (fun _ hk => hk.2) (.int .i64 t736)) (fun _ hk => hk.2) (.int .i64 t737)) (fun _ hk => hk.2) (.bool t738)) (fun _ hk => hk.2) (.bool t739)) (fun _ hk => hk.2) (.int .i64 t740)) (fun _ hk => hk.2) (.int .i64 t741)) (fun _ hk => ⟨hk.1.1.1.1.1, ⟨hk.1.1.1.1.2.1, ⟨hk.1.1.1.1.2.2.1, ⟨hk.1.1.1.1.2.2.2.1, ⟨hk.1.1.1.1.2.2.2.2.1, ⟨hk.1.1.1.1.2.2.2.2.2, ⟨hk.1.1.1.2, hk.1.1.2⟩⟩⟩⟩⟩⟩⟩)⟩
             have n3_ : Aside0 (Kd.V (Kd.slice 3 (Kd.int .i64)) 64 ((((((((w134.setCell ⟨gb743, 0, none⟩ (.slice Ao135 t730.length co135)).setCell ⟨gb743, 1, none⟩ (.slice Ao144 t733.length co144)).setCell ⟨gb744, 0, none⟩ (.int .i64 t736)).setCell ⟨gb744, 1, none⟩ (.int .i64 t737)).setCell ⟨gb744, 2, none⟩ (.bool t738)).setCell ⟨gb744, 3, none⟩ (.bool t739)).setCell ⟨gb744, 4, none⟩ (.int .i64 t740)).setCell ⟨gb744, 5, none⟩ (.int .i64 t741)) w.heap.size (fun k_ => k_ ≠ gb650 ∧ k_ ≠ gb651 ∧ k_ ≠ gb663 ∧ k_ ≠ gb711 ∧ k_ ≠ gb720 ∧ k_ ≠ gb729 ∧ k_ ≠ gb743 ∧ k_ ≠ gb744) (.slice Ao113 t706.length co113) t706) := ⟨by (with_reducible repeat (first | apply Va_ | apply Vn_ | apply Vd_)); exact Vm_ (Vf_ (p := ⟨gb744, 5, none⟩) (Vf_ (p := ⟨gb744, 4, none⟩) (Vf_ (p := ⟨gb744, 3, none⟩) (Vf_ (p := ⟨gb744, 2, none⟩) (Vf_ (p := ⟨gb744, 1, none⟩) (Vf_ (p := ⟨gb744, 0, none⟩) (Vf_ (p := ⟨gb743, 1, none⟩) (Vf_ (p := ⟨gb743, 0, none⟩) (Vm_ (Vm_ HO708.out (fun k_ hk => (⟨hk, hk.1.2⟩ : _ ∧ k_ ≠ gb743))) (fun k_ hk => (⟨hk, hk.1.2⟩ : _ ∧ k_ ≠ gb744))) (fun _ hk => hk.1.2) (.slice Ao135 t730.length co135)) (fun _ hk => hk.1.2) (.slice Ao144 t733.length co144)) (fun _ hk => hk.2) (.int .i64 t736)) (fun _ hk => hk.2) (.int .i64 t737)) (fun _ hk => hk.2) (.bool t738)) (fun _ hk => hk.2) (.bool t739)) (fun _ hk => hk.2) (.int .i64 t740)) (fun _ hk => hk.2) (.int .i64 t741)) (fun _ hk => ⟨hk.1.1.1.1.1, ⟨hk.1.1.1.1.2.1, ⟨hk.1.1.1.1.2.2.1, ⟨hk.1.1.1.1.2.2.2.1, ⟨hk.1.1.1.1.2.2.2.2.1, ⟨hk.1.1.1.1.2.2.2.2.2, ⟨hk.1.1.1.2, hk.1.1.2⟩⟩⟩⟩⟩⟩⟩)⟩
             have n4_ : Aside0 (Kd.V k38 38 ((((((((w134.setCell ⟨gb743, 0, none⟩ (.slice Ao135 t730.length co135)).setCell ⟨gb743, 1, none⟩ (.slice Ao144 t733.length co144)).setCell ⟨gb744, 0, none⟩ (.int .i64 t736)).setCell ⟨gb744, 1, none⟩ (.int .i64 t737)).setCell ⟨gb744, 2, none⟩ (.bool t738)).setCell ⟨gb744, 3, none⟩ (.bool t739)).setCell ⟨gb744, 4, none⟩ (.int .i64 t740)).setCell ⟨gb744, 5, none⟩ (.int .i64 t741)) w.heap.size (fun k_ => k_ ≠ gb650 ∧ k_ ≠ gb651 ∧ k_ ≠ gb663 ∧ k_ ≠ gb711 ∧ k_ ≠ gb720 ∧ k_ ≠ gb729 ∧ k_ ≠ gb743 ∧ k_ ≠ gb744) (.slice Ao135 t730.length co135) t730) := ⟨by (with_reducible repeat (first | apply Va_ | apply Vn_ | apply Vd_)); exact Vm_ (Vf_ (p := ⟨gb744, 5, none⟩) (Vf_ (p := ⟨gb744, 4, none⟩) (Vf_ (p := ⟨gb744, 3, none⟩) (Vf_ (p := ⟨gb744, 2, none⟩) (Vf_ (p := ⟨gb744, 1, none⟩) (Vf_ (p := ⟨gb744, 0, none⟩) (Vf_ (p := ⟨gb743, 1, none⟩) (Vf_ (p := ⟨gb743, 0, none⟩) (Vm_ (Vm_ HO732.out (fun k_ hk => (⟨hk, hk.1.2⟩ : _ ∧ k_ ≠ gb743))) (fun k_ hk => (⟨hk, hk.1.2⟩ : _ ∧ k_ ≠ gb744))) (fun _ hk => hk.1.2) (.slice Ao135 t730.length co135)) (fun _ hk => hk.1.2) (.slice Ao144 t733.length co144)) (fun _ hk => hk.2) (.int .i64 t736)) (fun _ hk => hk.2) (.int .i64 t737)) (fun _ hk => hk.2) (.bool t738)) (fun _ hk => hk.2) (.bool t739)) (fun _ hk => hk.2) (.int .i64 t740)) (fun _ hk => hk.2) (.int .i64 t741)) (fun _ hk => ⟨hk.1.1.1.1.1, ⟨hk.1.1.1.1.2.1, ⟨hk.1.1.1.1.2.2.1, ⟨hk.1.1.1.1.2.2.2.1, ⟨hk.1.1.1.1.2.2.2.2.1, ⟨hk.1.1.1.1.2.2.2.2.2, ⟨hk.1.1.1.2, hk.1.1.2⟩⟩⟩⟩⟩⟩⟩)⟩
             have n5_ : Aside0 (Kd.V (Kd.slice 3 (Kd.int .i64)) 64 ((((((((w134.setCell ⟨gb743, 0, none⟩ (.slice Ao135 t730.length co135)).setCell ⟨gb743, 1, none⟩ (.slice Ao144 t733.length co144)).setCell ⟨gb744, 0, none⟩ (.int .i64 t736)).setCell ⟨gb744, 1, none⟩ (.int .i64 t737)).setCell ⟨gb744, 2, none⟩ (.bool t738)).setCell ⟨gb744, 3, none⟩ (.bool t739)).setCell ⟨gb744, 4, none⟩ (.int .i64 t740)).setCell ⟨gb744, 5, none⟩ (.int .i64 t741)) w.heap.size (fun k_ => k_ ≠ gb650 ∧ k_ ≠ gb651 ∧ k_ ≠ gb663 ∧ k_ ≠ gb711 ∧ k_ ≠ gb720 ∧ k_ ≠ gb729 ∧ k_ ≠ gb743 ∧ k_ ≠ gb744) (.slice Ao144 t733.length co144) t733) := ⟨by (with_reducible repeat (first | apply Va_ | apply Vn_ | apply Vd_)); exact Vm_ (Vf_ (p := ⟨gb744, 5, none⟩) (Vf_ (p := ⟨gb744, 4, none⟩) (Vf_ (p := ⟨gb744, 3, none⟩) (Vf_ (p := ⟨gb744, 2, none⟩) (Vf_ (p := ⟨gb744, 1, none⟩) (Vf_ (p := ⟨gb744, 0, none⟩) (Vf_ (p := ⟨gb743, 1, none⟩) (Vf_ (p := ⟨gb743, 0, none⟩) (Vm_ (Vm_ HO735.out (fun k_ hk => (⟨hk, hk.1.2⟩ : _ ∧ k_ ≠ gb743))) (fun k_ hk => (⟨hk, hk.1.2⟩ : _ ∧ k_ ≠ gb744))) (fun _ hk => hk.1.2) (.slice Ao135 t730.length co135)) (fun _ hk => hk.1.2) (.slice Ao144 t733.length co144)) (fun _ hk => hk.2) (.int .i64 t736)) (fun _ hk => hk.2) (.int .i64 t737)) (fun _ hk => hk.2) (.bool t738)) (fun _ hk => hk.2) (.bool t739)) (fun _ hk => hk.2) (.int .i64 t740)) (fun _ hk => hk.2) (.int .i64 t741)) (fun _ hk => ⟨hk.1.1.1.1.1, ⟨hk.1.1.1.1.2.1, ⟨hk.1.1.1.1.2.2.1, ⟨hk.1.1.1.1.2.2.2.1, ⟨hk.1.1.1.1.2.2.2.2.1, ⟨hk.1.1.1.1.2.2.2.2.2, ⟨hk.1.1.1.2, hk.1.1.2⟩⟩⟩⟩⟩⟩⟩)⟩
             have n6_ : Aside0 (((((((((w134.setCell ⟨gb743, 0, none⟩ (.slice Ao135 t730.length co135)).setCell ⟨gb743, 1, none⟩ (.slice Ao144 t733.length co144)).setCell ⟨gb744, 0, none⟩ (.int .i64 t736)).setCell ⟨gb744, 1, none⟩ (.int .i64 t737)).setCell ⟨gb744, 2, none⟩ (.bool t738)).setCell ⟨gb744, 3, none⟩ (.bool t739)).setCell ⟨gb744, 4, none⟩ (.int .i64 t740)).setCell ⟨gb744, 5, none⟩ (.int .i64 t741)).heap[gb650]? = some (.cells #[.slice A0_0 l0_0.length c0_0, .slice A0_1 l0_1.length c0_1] 25 (0, 0))) := ⟨by (with_reducible repeat (first | refine Bn_ ?_ _ | refine Bd_ ?_ | refine Ba_ ?_ _)); refine blk_far ?_ NB650_744.out _; (with_reducible repeat (first | refine Bn_ ?_ _ | refine Bd_ ?_ | refine Ba_ ?_ _)); refine blk_far ?_ NB650_744.out _; (with_reducible repeat (first | refine Bn_ ?_ _ | refine Bd_ ?_ | refine Ba_ ?_ _)); refine blk_far ?_ NB650_744.out _; (with_reducible repeat (first | refine Bn_ ?_ _ | refine Bd_ ?_ | refine Ba_ ?_ _)); refine blk_far ?_ NB650_744.out _; (with_reducible repeat (first | refine Bn_ ?_ _ | refine Bd_ ?_ | refine Ba_ ?_ _)); refine blk_far ?_ NB650_744.out _; (with_reducible repeat (first | refine Bn_ ?_ _ | refine Bd_ ?_ | refine Ba_ ?_ _)); refine blk_far ?_ NB650_744.out _; (with_reducible repeat (first | refine Bn_ ?_ _ | refine Bd_ ?_ | refine Ba_ ?_ _)); refine blk_far ?_ NB650_743.out _; (with_reducible repeat (first | refine Bn_ ?_ _ | refine Bd_ ?_ | refine Ba_ ?_ _)); refine blk_far ?_ NB650_743.out _; (with_reducible repeat (first | refine Bn_ ?_ _ | refine Bd_ ?_ | refine Ba_ ?_ _)); exact BK650.out⟩
             have n7_ : Aside0 (((((((((w134.setCell ⟨gb743, 0, none⟩ (.slice Ao135 t730.length co135)).setCell ⟨gb743, 1, none⟩ (.slice Ao144 t733.length co144)).setCell ⟨gb744, 0, none⟩ (.int .i64 t736)).setCell ⟨gb744, 1, none⟩ (.int .i64 t737)).setCell ⟨gb744, 2, none⟩ (.bool t738)).setCell ⟨gb744, 3, none⟩ (.bool t739)).setCell ⟨gb744, 4, none⟩ (.int .i64 t740)).setCell ⟨gb744, 5, none⟩ (.int .i64 t741)).heap[gb651]? = some (.cells #[.int .i64 a3_0, .int .i64 a3_1, .bool a3_2, .bool a3_3, .int .i64 x652004_21, .int .i64 a3_5] 38 (0, 0))) := ⟨by (with_reducible repeat (first | refine Bn_ ?_ _ | refine Bd_ ?_ | refine Ba_ ?_ _)); refine blk_far ?_ NB651_744.out _; (with_reducible repeat (first | refine Bn_ ?_ _ | refine Bd_ ?_ | refine Ba_ ?_ _)); refine blk_far ?_ NB651_744.out _; (with_reducible repeat (first | refine Bn_ ?_ _ | refine Bd_ ?_ | refine Ba_ ?_ _)); refine blk_far ?_ NB651_744.out _; (with_reducible repeat (first | refine Bn_ ?_ _ | refine Bd_ ?_ | refine Ba_ ?_ _)); refine blk_far ?_ NB651_744.out _; (with_reducible repeat (first | refine Bn_ ?_ _ | refine Bd_ ?_ | refine Ba_ ?_ _)); refine blk_far ?_ NB651_744.out _; (with_reducible repeat (first | refine Bn_ ?_ _ | refine Bd_ ?_ | refine Ba_ ?_ _)); refine blk_far ?_ NB651_744.out _; (with_reducible repeat (first | refine Bn_ ?_ _ | refine Bd_ ?_ | refine Ba_ ?_ _)); refine blk_far ?_ NB651_743.out _; (with_reducible repeat (first | refine Bn_ ?_ _ | refine Bd_ ?_ | refine Ba_ ?_ _)); refine blk_far ?_ NB651_743.out _; (with_reducible repeat (first | refine Bn_ ?_ _ | refine Bd_ ?_ | refine Ba_ ?_ _)); exact BK651.out⟩
             have n8_ : Aside0 (((((((((w134.setCell ⟨gb743, 0, none⟩ (.slice Ao135 t730.length co135)).setCell ⟨gb743, 1, none⟩ (.slice Ao144 t733.length co144)).setCell ⟨gb744, 0, none⟩ (.int .i64 t736)).setCell ⟨gb744, 1, none⟩ (.int .i64 t737)).setCell ⟨gb744, 2, none⟩ (.bool t738)).setCell ⟨gb744, 3, none⟩ (.bool t739)).setCell ⟨gb744, 4, none⟩ (.int .i64 t740)).setCell ⟨gb744, 5, none⟩ (.int .i64 t741)).heap[gb663]? = some (.cells #[.slice Ao28 t655.length co28, .slice Ao32 t658.length co32] 25 (0, 0))) := ⟨by (with_reducible repeat (first | refine Bn_ ?_ _ | refine Bd_ ?_ | refine Ba_ ?_ _)); refine blk_far ?_ NB663_744.out _; (with_reducible repeat (first | refine Bn_ ?_ _ | refine Bd_ ?_ | refine Ba_ ?_ _)); refine blk_far ?_ NB663_744.out _; (with_reducible repeat (first | refine Bn_ ?_ _ | refine Bd_ ?_ | refine Ba_ ?_ _)); refine blk_far ?_ NB663_744.out _; (with_reducible repeat (first | refine Bn_ ?_ _ | refine Bd_ ?_ | refine Ba_ ?_ _)); refine blk_far ?_ NB663_744.out _; (with_reducible repeat (first | refine Bn_ ?_ _ | refine Bd_ ?_ | refine Ba_ ?_ _)); refine blk_far ?_ NB663_744.out _; (with_reducible repeat (first | refine Bn_ ?_ _ | refine Bd_ ?_ | refine Ba_ ?_ _)); refine blk_far ?_ NB663_744.out _; (with_reducible repeat (first | refine Bn_ ?_ _ | refine Bd_ ?_ | refine Ba_ ?_ _)); refine blk_far ?_ NB663_743.out _; (with_reducible repeat (first | refine Bn_ ?_ _ | refine Bd_ ?_ | refine Ba_ ?_ _)); refine blk_far ?_ NB663_743.out _; (with_reducible repeat (first | refine Bn_ ?_ _ | refine Bd_ ?_ | refine Ba_ ?_ _)); exact BK663.out⟩
             have n9_ : Aside0 (((((((((w134.setCell ⟨gb743, 0, none⟩ (.slice Ao135 t730.length co135)).setCell ⟨gb743, 1, none⟩ (.slice Ao144 t733.length co144)).setCell ⟨gb744, 0, none⟩ (.int .i64 t736)).setCell ⟨gb744, 1, none⟩ (.int .i64 t737)).setCell ⟨gb744, 2, none⟩ (.bool t738)).setCell ⟨gb744, 3, none⟩ (.bool t739)).setCell ⟨gb744, 4, none⟩ (.int .i64 t740)).setCell ⟨gb744, 5, none⟩ (.int .i64 t741)).heap[gb711]? = some (.cells #[.slice Ao108 t703.length co108, .slice Ao113 t706.length co113] 25 (0, 0))) := ⟨by (with_reducible repeat (first | refine Bn_ ?_ _ | refine Bd_ ?_ | refine Ba_ ?_ _)); refine blk_far ?_ NB711_744.out _; (with_reducible repeat (first | refine Bn_ ?_ _ | refine Bd_ ?_ | refine Ba_ ?_ _)); refine blk_far ?_ NB711_744.out _; (with_reducible repeat (first | refine Bn_ ?_ _ | refine Bd_ ?_ | refine Ba_ ?_ _)); refine blk_far ?_ NB711_744.out _; (with_reducible repeat (first | refine Bn_ ?_ _ | refine Bd_ ?_ | refine Ba_ ?_ _)); refine blk_far ?_ NB711_744.out _; (with_reducible repeat (first | refine Bn_ ?_ _ | refine Bd_ ?_ | refine Ba_ ?_ _)); refine blk_far ?_ NB711_744.out _; (with_reducible repeat (first | refine Bn_ ?_ _ | refine Bd_ ?_ | refine Ba_ ?_ _)); refine blk_far ?_ NB711_744.out _; (with_reducible repeat (first | refine Bn_ ?_ _ | refine Bd_ ?_ | refine Ba_ ?_ _)); refine blk_far ?_ NB711_743.out _; (with_reducible repeat (first | refine Bn_ ?_ _ | refine Bd_ ?_ | refine Ba_ ?_ _)); refine blk_far ?_ NB711_743.out _; (with_reducible repeat (first | refine Bn_ ?_ _ | refine Bd_ ?_ | refine Ba_ ?_ _)); exact BK711.out⟩
             have n10_ : Aside0 (((((((((w134.setCell ⟨gb743, 0, none⟩ (.slice Ao135 t730.length co135)).setCell ⟨gb743, 1, none⟩ (.slice Ao144 t733.length co144)).setCell ⟨gb744, 0, none⟩ (.int .i64 t736)).setCell ⟨gb744, 1, none⟩ (.int .i64 t737)).setCell ⟨gb744, 2, none⟩ (.bool t738)).setCell ⟨gb744, 3, none⟩ (.bool t739)).setCell ⟨gb744, 4, none⟩ (.int .i64 t740)).setCell ⟨gb744, 5, none⟩ (.int .i64 t741)).heap[gb720]? = some (.cells #[.int .i64 t713, .int .i64 t714, .bool t715, .bool t716, .int .i64 t717, .int .i64 t718] 38 (0, 0))) := ⟨by (with_reducible repeat (first | refine Bn_ ?_ _ | refine Bd_ ?_ | refine Ba_ ?_ _)); refine blk_far ?_ NB720_744.out _; (with_reducible repeat (first | refine Bn_ ?_ _ | refine Bd_ ?_ | refine Ba_ ?_ _)); refine blk_far ?_ NB720_744.out _; (with_reducible repeat (first | refine Bn_ ?_ _ | refine Bd_ ?_ | refine Ba_ ?_ _)); refine blk_far ?_ NB720_744.out _; (with_reducible repeat (first | refine Bn_ ?_ _ | refine Bd_ ?_ | refine Ba_ ?_ _)); refine blk_far ?_ NB720_744.out _; (with_reducible repeat (first | refine Bn_ ?_ _ | refine Bd_ ?_ | refine Ba_ ?_ _)); refine blk_far ?_ NB720_744.out _; (with_reducible repeat (first | refine Bn_ ?_ _ | refine Bd_ ?_ | refine Ba_ ?_ _)); refine blk_far ?_ NB720_744.out _; (with_reducible repeat (first | refine Bn_ ?_ _ | refine Bd_ ?_ | refine Ba_ ?_ _)); refine blk_far ?_ NB720_743.out _; (with_reducible repeat (first | refine Bn_ ?_ _ | refine Bd_ ?_ | refine Ba_ ?_ _)); refine blk_far ?_ NB720_743.out _; (with_reducible repeat (first | refine Bn_ ?_ _ | refine Bd_ ?_ | refine Ba_ ?_ _)); exact BK720.out⟩
             have n11_ : Aside0 (((((((((w134.setCell ⟨gb743, 0, none⟩ (.slice Ao135 t730.length co135)).setCell ⟨gb743, 1, none⟩ (.slice Ao144 t733.length co144)).setCell ⟨gb744, 0, none⟩ (.int .i64 t736)).setCell ⟨gb744, 1, none⟩ (.int .i64 t737)).setCell ⟨gb744, 2, none⟩ (.bool t738)).setCell ⟨gb744, 3, none⟩ (.bool t739)).setCell ⟨gb744, 4, none⟩ (.int .i64 t740)).setCell ⟨gb744, 5, none⟩ (.int .i64 t741)).heap[gb729]? = some (.cells #[.int .i64 t722, .int .i64 t723, .bool t724, .bool t725, .int .i64 t726, .int .i64 t727] 38 (0, 0))) := ⟨by (with_reducible repeat (first | refine Bn_ ?_ _ | refine Bd_ ?_ | refine Ba_ ?_ _)); refine blk_far ?_ NB729_744.out _; (with_reducible repeat (first | refine Bn_ ?_ _ | refine Bd_ ?_ | refine Ba_ ?_ _)); refine blk_far ?_ NB729_744.out _; (with_reducible repeat (first | refine Bn_ ?_ _ | refine Bd_ ?_ | refine Ba_ ?_ _)); refine blk_far ?_ NB729_744.out _; (with_reducible repeat (first | refine Bn_ ?_ _ | refine Bd_ ?_ | refine Ba_ ?_ _)); refine blk_far ?_ NB729_744.out _; (with_reducible repeat (first | refine Bn_ ?_ _ | refine Bd_ ?_ | refine Ba_ ?_ _)); refine blk_far ?_ NB729_744.out _; (with_reducible repeat (first | refine Bn_ ?_ _ | refine Bd_ ?_ | refine Ba_ ?_ _)); refine blk_far ?_ NB729_744.out _; (with_reducible repeat (first | refine Bn_ ?_ _ | refine Bd_ ?_ | refine Ba_ ?_ _)); refine blk_far ?_ NB729_743.out _; (with_reducible repeat (first | refine Bn_ ?_ _ | refine Bd_ ?_ | refine Ba_ ?_ _)); refine blk_far ?_ NB729_743.out _; (with_reducible repeat (first | refine Bn_ ?_ _ | refine Bd_ ?_ | refine Ba_ ?_ _)); exact BK729.out⟩
             have n12_ : Aside0 (((((((((w134.setCell ⟨gb743, 0, none⟩ (.slice Ao135 t730.length co135)).setCell ⟨gb743, 1, none⟩ (.slice Ao144 t733.length co144)).setCell ⟨gb744, 0, none⟩ (.int .i64 t736)).setCell ⟨gb744, 1, none⟩ (.int .i64 t737)).setCell ⟨gb744, 2, none⟩ (.bool t738)).setCell ⟨gb744, 3, none⟩ (.bool t739)).setCell ⟨gb744, 4, none⟩ (.int .i64 t740)).setCell ⟨gb744, 5, none⟩ (.int .i64 t741)).heap[gb743]? = some (.cells #[.slice Ao135 t730.length co135, .slice Ao144 t733.length co144] 25 (0, 0))) := ⟨by (with_reducible repeat (first | refine Bn_ ?_ _ | refine Bd_ ?_ | refine Ba_ ?_ _)); refine blk_far ?_ NB743_744.out _; (with_reducible repeat (first | refine Bn_ ?_ _ | refine Bd_ ?_ | refine Ba_ ?_ _)); refine blk_far ?_ NB743_744.out _; (with_reducible repeat (first | refine Bn_ ?_ _ | refine Bd_ ?_ | refine Ba_ ?_ _)); refine blk_far ?_ NB743_744.out _; (with_reducible repeat (first | refine Bn_ ?_ _ | refine Bd_ ?_ | refine Ba_ ?_ _)); refine blk_far ?_ NB743_744.out _; (with_reducible repeat (first | refine Bn_ ?_ _ | refine Bd_ ?_ | refine Ba_ ?_ _)); refine blk_far ?_ NB743_744.out _; (with_reducible repeat (first | refine Bn_ ?_ _ | refine Bd_ ?_ | refine Ba_ ?_ _)); refine blk_far ?_ NB743_744.out _; (with_reducible repeat (first | refine Bn_ ?_ _ | refine Bd_ ?_ | refine Ba_ ?_ _)); refine Bp_ (cs := #[.slice Ao135 t730.length co135, .slice none 0 0]) ?_ 1 _ rfl; (with_reducible repeat (first | refine Bn_ ?_ _ | refine Bd_ ?_ | refine Ba_ ?_ _)); refine Bp_ (cs := #[.slice none 0 0, .slice none 0 0]) ?_ 0 _ rfl; (with_reducible repeat (first | refine Bn_ ?_ _ | refine Bd_ ?_ | refine Ba_ ?_ _)); exact BK743.out⟩
             have n13_ : Aside0 (((((((((w134.setCell ⟨gb743, 0, none⟩ (.slice Ao135 t730.length co135)).setCell ⟨gb743, 1, none⟩ (.slice Ao144 t733.length co144)).setCell ⟨gb744, 0, none⟩ (.int .i64 t736)).setCell ⟨gb744, 1, none⟩ (.int .i64 t737)).setCell ⟨gb744, 2, none⟩ (.bool t738)).setCell ⟨gb744, 3, none⟩ (.bool t739)).setCell ⟨gb744, 4, none⟩ (.int .i64 t740)).setCell ⟨gb744, 5, none⟩ (.int .i64 t741)).heap[gb744]? = some (.cells #[.int .i64 t736, .int .i64 t737, .bool t738, .bool t739, .int .i64 t740, .int .i64 t741] 38 (0, 0))) := ⟨by (with_reducible repeat (first | refine Bn_ ?_ _ | refine Bd_ ?_ | refine Ba_ ?_ _)); refine Bp_ (cs := #[.int .i64 t736, .int .i64 t737, .bool t738, .bool t739, .int .i64 t740, .int .i64 0]) ?_ 5 _ rfl; (with_reducible repeat (first | refine Bn_ ?_ _ | refine Bd_ ?_ | refine Ba_ ?_ _)); refine Bp_ (cs := #[.int .i64 t736, .int .i64 t737, .bool t738, .bool t739, .int .i64 0, .int .i64 0]) ?_ 4 _ rfl; (with_reducible repeat (first | refine Bn_ ?_ _ | refine Bd_ ?_ | refine Ba_ ?_ _)); refine Bp_ (cs := #[.int .i64 t736, .int .i64 t737, .bool t738, .bool false, .int .i64 0, .int .i64 0]) ?_ 3 _ rfl; (with_reducible repeat (first | refine Bn_ ?_ _ | refine Bd_ ?_ | refine Ba_ ?_ _)); refine Bp_ (cs := #[.int .i64 t736, .int .i64 t737, .bool false, .bool false, .int .i64 0, .int .i64 0]) ?_ 2 _ rfl; (with_reducible repeat (first | refine Bn_ ?_ _ | refine Bd_ ?_ | refine Ba_ ?_ _)); refine Bp_ (cs := #[.int .i64 t736, .int .i64 0, .bool false, .bool false, .int .i64 0, .int .i64 0]) ?_ 1 _ rfl; (with_reducible repeat (first | refine Bn_ ?_ _ | refine Bd_ ?_ | refine Ba_ ?_ _)); refine Bp_ (cs := #[.int .i64 0, .int .i64 0, .bool false, .bool false, .int .i64 0, .int .i64 0]) ?_ 0 _ rfl; (with_reducible repeat (first | refine Bn_ ?_ _ | refine Bd_ ?_ | refine Ba_ ?_ _)); refine blk_far ?_ NB744_743.out _; (with_reducible repeat (first | refine Bn_ ?_ _ | refine Bd_ ?_ | refine Ba_ ?_ _)); refine blk_far ?_ NB744_743.out _; (with_reducible repeat (first | refine Bn_ ?_ _ | refine Bd_ ?_ | refine Ba_ ?_ _)); exact BK744.out⟩
             have n14_ : Aside0 (Below w.heap.size w ((((((((w134.setCell ⟨gb743, 0, none⟩ (.slice Ao135 t730.length co135)).setCell ⟨gb743, 1, none⟩ (.slice Ao144 t733.length co144)).setCell ⟨gb744, 0, none⟩ (.int .i64 t736)).setCell ⟨gb744, 1, none⟩ (.int .i64 t737)).setCell ⟨gb744, 2, none⟩ (.bool t738)).setCell ⟨gb744, 3, none⟩ (.bool t739)).setCell ⟨gb744, 4, none⟩ (.int .i64 t740)).setCell ⟨gb744, 5, none⟩ (.int .i64 t741))) := ⟨by repeat (first | (with_reducible first | exact HB.out | apply Pa_ | apply Pn_ | apply Pd_ | refine Bs_ ?_ GE650.out | refine Bs_ ?_ GE651.out | refine Bs_ ?_ GE663.out | refine Bs_ ?_ GE711.out | refine Bs_ ?_ GE720.out | refine Bs_ ?_ GE729.out | refine Bs_ ?_ GE743.out | refine Bs_ ?_ GE744.out) | exact HB.out)⟩
             (try clear HO_664000)
             (try clear HO_664001)
             (try clear HO705)
             (try clear HO708)
             (try clear HO732)
             (try clear HO735)
             (try clear BK650)
             (try clear BK651)
             (try clear BK663)
             (try clear BK711)
             (try clear BK720)
             (try clear BK729)
             (try clear BK743)
             (try clear BK744)
             (try clear HB)
             generalize ((((((((w134.setCell ⟨gb743, 0, none⟩ (.slice Ao135 t730.length co135)).setCell ⟨gb743, 1, none⟩ (.slice Ao144 t733.length co144)).setCell ⟨gb744, 0, none⟩ (.int .i64 t736)).setCell ⟨gb744, 1, none⟩ (.int .i64 t737)).setCell ⟨gb744, 2, none⟩ (.bool t738)).setCell ⟨gb744, 3, none⟩ (.bool t739)).setCell ⟨gb744, 4, none⟩ (.int .i64 t740)).setCell ⟨gb744, 5, none⟩ (.int .i64 t741)) = w152 at n0_ n1_ n2_ n3_ n4_ n5_ n6_ n7_ n8_ n9_ n10_ n11_ n12_ n13_ n14_ ⊢
             have HO_664000 := n0_
             have HO_664001 := n1_
             have HO705 := n2_
             have HO708 := n3_
             have HO732 := n4_
             have HO735 := n5_
             have BK650 := n6_
             have BK651 := n7_
             have BK663 := n8_
             have BK711 := n9_
             have BK720 := n10_
             have BK729 := n11_
             have BK743 := n12_
             have BK744 := n13_
             have HB := n14_
             clear n0_ n1_ n2_ n3_ n4_ n5_ n6_ n7_ n8_ n9_ n10_ n11_ n12_ n13_ n14_
             have n0_ := Am_ (Vd_ HO_664000.out)
             have n1_ := Am_ (Vd_ HO_664001.out)
             have n2_ := Am_ (Vd_ HO705.out)
             have n3_ := Am_ (Vd_ HO708.out)
             have n4_ := Am_ (Vd_ HO732.out)
             have n5_ := Am_ (Vd_ HO735.out)
             have n6_ := Am_ (Bd_ BK650.out)
             have n7_ := Am_ (Bd_ BK651.out)
             have n8_ := Am_ (Bd_ BK663.out)
             have n9_ := Am_ (Bd_ BK711.out)
             have n10_ := Am_ (Bd_ BK720.out)
             have n11_ := Am_ (Bd_ BK729.out)
             have n12_ := Am_ (Bd_ BK743.out)
             have n13_ := Am_ (Bd_ BK744.out)
             have n14_ := Am_ (Pd_ HB.out)
             clear HO_664000
             clear HO_664001
             clear HO705
             clear HO708
             clear HO732
             clear HO735
             clear BK650
             clear BK651
             clear BK663
             clear BK711
             clear BK720
             clear BK729
             clear BK743
             clear BK744
             clear HB
             have HO_664000 := n0_
             have HO_664001 := n1_
             have HO705 := n2_
             have HO708 := n3_
             have HO732 := n4_
             have HO735 := n5_
             have BK650 := n6_
             have BK651 := n7_
             have BK663 := n8_
             have BK711 := n9_
             have BK720 := n10_
             have BK729 := n11_
             have BK743 := n12_
             have BK744 := n13_
             have HB := n14_
             clear n0_ n1_ n2_ n3_ n4_ n5_ n6_ n7_ n8_ n9_ n10_ n11_ n12_ n13_ n14_
             refine start_ (n := 31) (S := fun w' => w'.cell? ⟨gb720, 0, none⟩ = some (.int .i64 t713) ∧ w'.cell? ⟨gb720, 1, none⟩ = some (.int .i64 t714) ∧ w'.cell? ⟨gb720, 2, none⟩ = some (.bool t715) ∧ w'.cell? ⟨gb720, 3, none⟩ = some (.bool t716) ∧ w'.cell? ⟨gb720, 4, none⟩ = some (.int .i64 t717) ∧ w'.cell? ⟨gb720, 5, none⟩ = some (.int .i64 t718) ∧ w'.cell? ⟨gb729, 0, none⟩ = some (.int .i64 t722) ∧ w'.cell? ⟨gb729, 1, none⟩ = some (.int .i64 t723) ∧ w'.cell? ⟨gb729, 2, none⟩ = some (.bool t724) ∧ w'.cell? ⟨gb729, 3, none⟩ = some (.bool t725) ∧ w'.cell? ⟨gb729, 4, none⟩ = some (.int .i64 t726) ∧ w'.cell? ⟨gb729, 5, none⟩ = some (.int .i64 t727) ∧ w'.cell? ⟨gb743, 0, none⟩ = some (.slice Ao135 t730.length co135) ∧ w'.cell? ⟨gb743, 1, none⟩ = some (.slice Ao144 t733.length co144) ∧ w'.cell? ⟨gb650, 0, none⟩ = some (.slice A0_0 l0_0.length c0_0) ∧ w'.cell? ⟨gb650, 1, none⟩ = some (.slice A0_1 l0_1.length c0_1)) (ds := []) #[f_,f_,f_,f_,f_,f_,f_,f_,f_,f_,f_,f_,f_,f_,f_,f_,f_,f_,f_,f_,f_,f_,f_,f_,f_,f_,f_,f_,f_,f_,f_] (by kernel_rfl) rfl rfl ⟨(Bc_ BK720.out 0).trans rfl, (Bc_ BK720.out 1).trans rfl, (Bc_ BK720.out 2).trans rfl, (Bc_ BK720.out 3).trans rfl, (Bc_ BK720.out 4).trans rfl, (Bc_ BK720.out 5).trans rfl, (Bc_ BK729.out 0).trans rfl, (Bc_ BK729.out 1).trans rfl, (Bc_ BK729.out 2).trans rfl, (Bc_ BK729.out 3).trans rfl, (Bc_ BK729.out 4).trans rfl, (Bc_ BK729.out 5).trans rfl, (Bc_ BK743.out 0).trans rfl, (Bc_ BK743.out 1).trans rfl, (Bc_ BK650.out 0).trans rfl, (Bc_ BK650.out 1).trans rfl⟩ (fun hHeld => ?_); refine with_tabW flagstonelaw10_HandleBack.tab15 flagstonelaw10_HandleBack.bits15 (fun HT_ HW_ => ?_)
             generalize w152.drew = w153 at HO_664000 HO_664001 HO705 HO708 HO732 HO735 BK650 BK651 BK663 BK711 BK720 BK729 BK743 BK744 HB hHeld ⊢
             refine pure_ (i := 0) (N := some 141) (v := ?_) (a' := ?_) #[t_,f_,f_,f_,f_,f_,f_,f_,f_,f_,f_,f_,f_,f_,f_,f_,f_,f_,f_,f_,f_,f_,f_,f_,f_,f_,f_,f_,f_,f_,f_] rfl rfl (any_of HT_.out (by kernel_rfl)) (fun _ _ _ h => h) (Or.inl ⟨by rfl, ?_⟩) ?_ ?_
             rotate_left
             ·intro w'
              go_simp
              with_reducible rfl
             rotate_left
             ·simp only [Act.put, La_, Lb_, Lc_, i64_w, i32_w]
              rfl
             refine pure_ (i := 1) (N := some 142) (v := ?_) (a' := ?_) #[t_,t_,f_,f_,f_,f_,f_,f_,f_,f_,f_,f_,f_,f_,f_,f_,f_,f_,f_,f_,f_,f_,f_,f_,f_,f_,f_,f_,f_,f_,f_] rfl rfl (any_of HT_.out (by kernel_rfl)) (fun _ _ _ h => h) (Or.inl ⟨by rfl, ?_⟩) ?_ ?_
             rotate_left
             ·intro w'
              go_simp
              with_reducible rfl
             rotate_left
             ·simp only [Act.put, La_, Lb_, Lc_, i64_w, i32_w]
              rfl
             refine pure_ (i := 2) (N := some 143) (v := ?_) (a' := ?_) #[t_,t_,t_,f_,f_,f_,f_,f_,f_,f_,f_,f_,f_,f_,f_,f_,f_,f_,f_,f_,f_,f_,f_,f_,f_,f_,f_,f_,f_,f_,f_] rfl rfl (any_of HT_.out (by kernel_rfl)) (fun _ _ _ h => h) (Or.inl ⟨by rfl, ?_⟩) ?_ ?_
             rotate_left
             ·intro w'
              go_simp
              with_reducible rfl
             rotate_left
             ·simp only [Act.put, La_, Lb_, Lc_, i64_w, i32_w]
              rfl
             refine pure_ (i := 3) (N := some 144) (v := ?_) (a' := ?_) #[t_,t_,t_,t_,f_,f_,f_,f_,f_,f_,f_,f_,f_,f_,f_,f_,f_,f_,f_,f_,f_,f_,f_,f_,f_,f_,f_,f_,f_,f_,f_] rfl rfl (any_of HT_.out (by kernel_rfl)) (fun _ _ _ h => h) (Or.inl ⟨by rfl, ?_⟩) ?_ ?_
             rotate_left
             ·intro w'
              go_simp
              with_reducible rfl
             rotate_left
             ·simp only [Act.put, La_, Lb_, Lc_, i64_w, i32_w]
              rfl
             refine pure_ (i := 4) (N := some 145) (v := ?_) (a' := ?_) #[t_,t_,t_,t_,t_,f_,f_,f_,f_,f_,f_,f_,f_,f_,f_,f_,f_,f_,f_,f_,f_,f_,f_,f_,f_,f_,f_,f_,f_,f_,f_] rfl rfl (any_of HT_.out (by kernel_rfl)) (fun _ _ _ h => h) (Or.inl ⟨by rfl, ?_⟩) ?_ ?_
             rotate_left
             ·intro w'
              go_simp
              with_reducible rfl
             rotate_left
             ·simp only [Act.put, La_, Lb_, Lc_, i64_w, i32_w]
              rfl
             refine pure_ (i := 5) (N := some 146) (v := ?_) (a' := ?_) #[t_,t_,t_,t_,t_,t_,f_,f_,f_,f_,f_,f_,f_,f_,f_,f_,f_,f_,f_,f_,f_,f_,f_,f_,f_,f_,f_,f_,f_,f_,f_] rfl rfl (any_of HT_.out (by kernel_rfl)) (fun _ _ _ h => h) (Or.inl ⟨by rfl, ?_⟩) ?_ ?_
             rotate_left
             ·intro w'
              go_simp
              with_reducible rfl
             rotate_left
             ·simp only [Act.put, La_, Lb_, Lc_, i64_w, i32_w]
              rfl
             refine pure_ (i := 6) (N := some 147) (v := ?_) (a' := ?_) #[t_,t_,t_,t_,t_,t_,t_,f_,f_,f_,f_,f_,f_,f_,f_,f_,f_,f_,f_,f_,f_,f_,f_,f_,f_,f_,f_,f_,f_,f_,f_] rfl rfl (any_of HT_.out (by kernel_rfl)) (fun _ _ _ h => h) (Or.inl ⟨by rfl, ?_⟩) ?_ ?_
             rotate_left
             ·intro w'
              go_simp
              with_reducible rfl
             rotate_left
             ·simp only [Act.put, La_, Lb_, Lc_, i64_w, i32_w]
              rfl
             refine pure_ (i := 7) (N := some 148) (v := ?_) (a' := ?_) #[t_,t_,t_,t_,t_,t_,t_,t_,f_,f_,f_,f_,f_,f_,f_,f_,f_,f_,f_,f_,f_,f_,f_,f_,f_,f_,f_,f_,f_,f_,f_] rfl rfl (any_of HT_.out (by kernel_rfl)) (fun _ _ _ h => h) (Or.inl ⟨by rfl, ?_⟩) ?_ ?_
             rotate_left
             ·intro w'
              go_simp
              with_reducible rfl
             rotate_left
             ·simp only [Act.put, La_, Lb_, Lc_, i64_w, i32_w]
              rfl
             refine pure_ (i := 8) (N := some 149) (v := ?_) (a' := ?_) #[t_,t_,t_,t_,t_,t_,t_,t_,t_,f_,f_,f_,f_,f_,f_,f_,f_,f_,f_,f_,f_,f_,f_,f_,f_,f_,f_,f_,f_,f_,f_] rfl rfl (any_of HT_.out (by kernel_rfl)) (fun _ _ _ h => h) (Or.inl ⟨by rfl, ?_⟩) ?_ ?_
             rotate_left
             ·intro w'
              go_simp
              with_reducible rfl
             rotate_left
             ·simp only [Act.put, La_, Lb_, Lc_, i64_w, i32_w]
              rfl
             refine pure_ (i := 9) (N := some 150) (v := ?_) (a' := ?_) #[t_,t_,t_,t_,t_,t_,t_,t_,t_,t_,f_,f_,f_,f_,f_,f_,f_,f_,f_,f_,f_,f_,f_,f_,f_,f_,f_,f_,f_,f_,f_] rfl rfl (any_of HT_.out (by kernel_rfl)) (fun _ _ _ h => h) (Or.inl ⟨by rfl, ?_⟩) ?_ ?_
             rotate_left
             ·intro w'
              go_simp
              with_reducible rfl
             rotate_left
             ·simp only [Act.put, La_, Lb_, Lc_, i64_w, i32_w]
              rfl
             refine pure_ (i := 10) (N := some 151) (v := ?_) (a' := ?_) #[t_,t_,t_,t_,t_,t_,t_,t_,t_,t_,t_,f_,f_,f_,f_,f_,f_,f_,f_,f_,f_,f_,f_,f_,f_,f_,f_,f_,f_,f_,f_] rfl rfl (any_of HT_.out (by kernel_rfl)) (fun _ _ _ h => h) (Or.inl ⟨by rfl, ?_⟩) ?_ ?_
             rotate_left
             ·intro w'
              go_simp
              with_reducible rfl
             rotate_left
             ·simp only [Act.put, La_, Lb_, Lc_, i64_w, i32_w]
              rfl
             refine pure_ (i := 11) (N := some 152) (v := ?_) (a' := ?_) #[t_,t_,t_,t_,t_,t_,t_,t_,t_,t_,t_,t_,f_,f_,f_,f_,f_,f_,f_,f_,f_,f_,f_,f_,f_,f_,f_,f_,f_,f_,f_] rfl rfl (any_of HT_.out (by kernel_rfl)) (fun _ _ _ h => h) (Or.inl ⟨by rfl, ?_⟩) ?_ ?_
             rotate_left
             ·intro w'
              go_simp
              with_reducible rfl
             rotate_left
             ·simp only [Act.put, La_, Lb_, Lc_, i64_w, i32_w]
              rfl
             refine pure_ (i := 12) (N := some 153) (v := ?_) (a' := ?_) #[t_,t_,t_,t_,t_,t_,t_,t_,t_,t_,t_,t_,t_,f_,f_,f_,f_,f_,f_,f_,f_,f_,f_,f_,f_,f_,f_,f_,f_,f_,f_] rfl rfl (any_of HT_.out (by kernel_rfl)) (fun _ _ _ h => h) (Or.inl ⟨by rfl, ?_⟩) ?_ ?_
             rotate_left
             ·intro w'
              go_simp
              with_reducible rfl
             rotate_left
             ·simp only [Act.put, La_, Lb_, Lc_, i64_w, i32_w]
              rfl
             refine pure_ (i := 14) (N := some 155) (v := ?_) (a' := ?_) #[t_,t_,t_,t_,t_,t_,t_,t_,t_,t_,t_,t_,t_,f_,t_,f_,f_,f_,f_,f_,f_,f_,f_,f_,f_,f_,f_,f_,f_,f_,f_] rfl rfl (any_of HT_.out (by kernel_rfl)) (fun _ _ _ h => h) (Or.inl ⟨by rfl, ?_⟩) ?_ ?_
             rotate_left
             ·intro w'
              go_simp
              with_reducible rfl
             rotate_left
             ·simp only [Act.put, La_, Lb_, Lc_, i64_w, i32_w]
              rfl
             refine take_ (i := 13) (N := some 154) (v := ?_) (a' := ?_) #[t_,t_,t_,t_,t_,t_,t_,t_,t_,t_,t_,t_,t_,t_,t_,f_,f_,f_,f_,f_,f_,f_,f_,f_,f_,f_,f_,f_,f_,f_,f_] rfl rfl (take_ofW HT_.out HW_.out (by kernel_rfl)) (fun _ _ _ h => h) (Or.inl ⟨by rfl, ?_⟩) hHeld ?_ ?_
             rotate_left
             ·rintro w' ⟨s0, s1, s2, s3, s4, s5, s6, s7, s8, s9, s10, s11, s12, s13, s14, s15⟩
              go_simp
              with_reducible rfl
             rotate_left
             ·simp only [Act.put, La_, Lb_, Lc_, i64_w, i32_w]
              rfl
             refine take_ (i := 15) (N := some 156) (v := ?_) (a' := ?_) #[t_,t_,t_,t_,t_,t_,t_,t_,t_,t_,t_,t_,t_,t_,t_,t_,f_,f_,f_,f_,f_,f_,f_,f_,f_,f_,f_,f_,f_,f_,f_] rfl rfl (take_ofW HT_.out HW_.out (by kernel_rfl)) (fun _ _ _ h => h) (Or.inl ⟨by rfl, ?_⟩) hHeld ?_ ?_
             rotate_left
             ·rintro w' ⟨s0, s1, s2, s3, s4, s5, s6, s7, s8, s9, s10, s11, s12, s13, s14, s15⟩
              go_simp
              with_reducible rfl
             rotate_left
             ·simp only [Act.put, La_, Lb_, Lc_, i64_w, i32_w]
              rfl
             refine pure_ (i := 16) (N := some 157) (v := ?_) (a' := ?_) #[t_,t_,t_,t_,t_,t_,t_,t_,t_,t_,t_,t_,t_,t_,t_,t_,t_,f_,f_,f_,f_,f_,f_,f_,f_,f_,f_,f_,f_,f_,f_] rfl rfl (any_of HT_.out (by kernel_rfl)) (fun _ _ _ h => h) (Or.inl ⟨by rfl, ?_⟩) ?_ ?_
             rotate_left
             ·intro w'
              go_simp
              with_reducible rfl
             rotate_left
             ·simp only [Act.put, La_, Lb_, Lc_, i64_w, i32_w]
              rfl
             refine pure_ (i := 17) (N := some 158) (v := ?_) (a' := ?_) #[t_,t_,t_,t_,t_,t_,t_,t_,t_,t_,t_,t_,t_,t_,t_,t_,t_,t_,f_,f_,f_,f_,f_,f_,f_,f_,f_,f_,f_,f_,f_] rfl rfl (any_of HT_.out (by kernel_rfl)) (fun _ _ _ h => h) (Or.inl ⟨by rfl, ?_⟩) ?_ ?_
             rotate_left
             ·intro w'
              go_simp
              with_reducible rfl
             rotate_left
             ·simp only [Act.put, La_, Lb_, Lc_, i64_w, i32_w]
              rfl
             refine pure_ (i := 18) (N := some 159) (v := ?_) (a' := ?_) #[t_,t_,t_,t_,t_,t_,t_,t_,t_,t_,t_,t_,t_,t_,t_,t_,t_,t_,t_,f_,f_,f_,f_,f_,f_,f_,f_,f_,f_,f_,f_] rfl rfl (any_of HT_.out (by kernel_rfl)) (fun _ _ _ h => h) (Or.inl ⟨by rfl, ?_⟩) ?_ ?_
             rotate_left
             ·intro w'
              go_simp
              with_reducible rfl
             rotate_left
             ·simp only [Act.put, La_, Lb_, Lc_, i64_w, i32_w]
              rfl
             refine pure_ (i := 19) (N := some 160) (v := ?_) (a' := ?_) #[t_,t_,t_,t_,t_,t_,t_,t_,t_,t_,t_,t_,t_,t_,t_,t_,t_,t_,t_,t_,f_,f_,f_,f_,f_,f_,f_,f_,f_,f_,f_] rfl rfl (any_of HT_.out (by kernel_rfl)) (fun _ _ _ h => h) (Or.inl ⟨by rfl, ?_⟩) ?_ ?_
             rotate_left
             ·intro w'
              go_simp
              with_reducible rfl
             rotate_left
             ·simp only [Act.put, La_, Lb_, Lc_, i64_w, i32_w]
              rfl
             refine pure_ (i := 20) (N := some 161) (v := ?_) (a' := ?_) #[t_,t_,t_,t_,t_,t_,t_,t_,t_,t_,t_,t_,t_,t_,t_,t_,t_,t_,t_,t_,t_,f_,f_,f_,f_,f_,f_,f_,f_,f_,f_] rfl rfl (any_of HT_.out (by kernel_rfl)) (fun _ _ _ h => h) (Or.inl ⟨by rfl, ?_⟩) ?_ ?_
             rotate_left
             ·intro w'
              go_simp
              with_reducible rfl
             rotate_left
             ·simp only [Act.put, La_, Lb_, Lc_, i64_w, i32_w]
              rfl
             refine pure_ (i := 21) (N := some 162) (v := ?_) (a' := ?_) #[t_,t_,t_,t_,t_,t_,t_,t_,t_,t_,t_,t_,t_,t_,t_,t_,t_,t_,t_,t_,t_,t_,f_,f_,f_,f_,f_,f_,f_,f_,f_] rfl rfl (any_of HT_.out (by kernel_rfl)) (fun _ _ _ h => h) (Or.inl ⟨by rfl, ?_⟩) ?_ ?_
             rotate_left
             ·intro w'
              go_simp
              with_reducible rfl
             rotate_left
             ·simp only [Act.put, La_, Lb_, Lc_, i64_w, i32_w]
              rfl
             refine pure_ (i := 22) (N := some 163) (v := ?_) (a' := ?_) #[t_,t_,t_,t_,t_,t_,t_,t_,t_,t_,t_,t_,t_,t_,t_,t_,t_,t_,t_,t_,t_,t_,t_,f_,f_,f_,f_,f_,f_,f_,f_] rfl rfl (any_of HT_.out (by kernel_rfl)) (fun _ _ _ h => h) (Or.inl ⟨by rfl, ?_⟩) ?_ ?_
             rotate_left
             ·intro w'
              go_simp
              with_reducible rfl
             rotate_left
             ·simp only [Act.put, La_, Lb_, Lc_, i64_w, i32_w]
              rfl
             refine pure_ (i := 23) (N := some 164) (v := ?_) (a' := ?_) #[t_,t_,t_,t_,t_,t_,t_,t_,t_,t_,t_,t_,t_,t_,t_,t_,t_,t_,t_,t_,t_,t_,t_,t_,f_,f_,f_,f_,f_,f_,f_] rfl rfl (any_of HT_.out (by kernel_rfl)) (fun _ _ _ h => h) (Or.inl ⟨by rfl, ?_⟩) ?_ ?_
             rotate_left
             ·intro w'
              go_simp
              with_reducible rfl
             rotate_left
             ·simp only [Act.put, La_, Lb_, Lc_, i64_w, i32_w]
              rfl
             refine take_ (i := 24) (N := some 165) (v := ?_) (a' := ?_) #[t_,t_,t_,t_,t_,t_,t_,t_,t_,t_,t_,t_,t_,t_,t_,t_,t_,t_,t_,t_,t_,t_,t_,t_,t_,f_,f_,f_,f_,f_,f_] rfl rfl (take_ofW HT_.out HW_.out (by kernel_rfl)) (fun _ _ _ h => h) (Or.inl ⟨by rfl, ?_⟩) hHeld ?_ ?_
             rotate_left
             ·rintro w' ⟨s0, s1, s2, s3, s4, s5, s6, s7, s8, s9, s10, s11, s12, s13, s14, s15⟩
              go_simp
              with_reducible rfl
             rotate_left
             ·simp only [Act.put, La_, Lb_, Lc_, i64_w, i32_w]
              rfl
             refine take_ (i := 26) (N := some 167) (v := ?_) (a' := ?_) #[t_,t_,t_,t_,t_,t_,t_,t_,t_,t_,t_,t_,t_,t_,t_,t_,t_,t_,t_,t_,t_,t_,t_,t_,t_,f_,t_,f_,f_,f_,f_] rfl rfl (take_ofW HT_.out HW_.out (by kernel_rfl)) (fun _ _ _ h => h) (Or.inl ⟨by rfl, ?_⟩) hHeld ?_ ?_
             rotate_left
             ·rintro w' ⟨s0, s1, s2, s3, s4, s5, s6, s7, s8, s9, s10, s11, s12, s13, s14, s15⟩
              go_simp
              with_reducible rfl
             rotate_left
             ·simp only [Act.put, La_, Lb_, Lc_, i64_w, i32_w]
              rfl
             refine one_ (i := 25) (N := some 166) #[t_,t_,t_,t_,t_,t_,t_,t_,t_,t_,t_,t_,t_,t_,t_,t_,t_,t_,t_,t_,t_,t_,t_,t_,t_,t_,t_,f_,f_,f_,f_] rfl rfl (one_of HT_.out (by kernel_rfl)) (by decide) (fun K hK => ?_)
             refine goes_ Try.func14 (by kernel_rfl) rfl #[.agg #[.slice Ao135 t730.length co135, .slice Ao144 t733.length co144]] (by rfl) rfl rfl (by (try simp only [List.map_toArray, List.map_cons, List.map_nil]); first | done | rfl | (simp only [List.length_drop, List.length_take]; rfl)) ?_
             with_reducible refine (flagstonelaw10_its.calls kj21 _ _ t730 (fun k_ => (k_ ≠ gb650 ∧ (k_ ≠ gb651 ∧ (k_ ≠ gb663 ∧ (k_ ≠ gb711 ∧ (k_ ≠ gb720 ∧ (k_ ≠ gb729 ∧ (k_ ≠ gb743 ∧ k_ ≠ gb744)))))))) _ _ t733 t745 t748 _ ?side1 ?side2 ?side3 A99.out).mono ?_
             (case side1 => repeat (first | exact (Vr_ HO732.out).2.2 | (with_reducible refine Kd.C_alloc ?_ _) | (with_reducible refine Kd.C_drewN ?_ _) | (with_reducible refine Kd.C_drew ?_)))
             (case side2 => exact (Vr_ HO732.out).2.1)
             (case side3 => exact HO735.out)
             rintro e w154 ⟨v746, v749, rfl, ho0, ho1, hb⟩
             refine ⟨_, rfl, ?_⟩
             have n0_ := Am_ (Kd.V_elder' (Pv_ HO_664000.out) (Kd.R_base ho0) hb)
             have n1_ := Am_ (Kd.V_elder' (Pv_ HO_664001.out) (Kd.R_base ho0) hb)
             have n2_ := Am_ (Kd.V_elder' (Pv_ HO705.out) (Kd.R_base ho0) hb)
             have n3_ := Am_ (Kd.V_elder' (Pv_ HO708.out) (Kd.R_base ho0) hb)
             have n4_ := Am_ (Kd.V_elder' (Pv_ HO732.out) (Kd.R_base ho0) hb)
             have n5_ := Am_ (Kd.V_elder' (Pv_ HO735.out) (Kd.R_base ho0) hb)
             have n6_ := Am_ (Kd.R_lower (Kd.R_mono (ok' := fun k_ => True) ho0 (fun _ hk_ => trivial)) (Bz_ (by repeat (first | (with_reducible first | exact HB.out | apply Pa_ | apply Pn_ | apply Pd_ | refine Bs_ ?_ GE650.out | refine Bs_ ?_ GE651.out | refine Bs_ ?_ GE663.out | refine Bs_ ?_ GE711.out | refine Bs_ ?_ GE720.out | refine Bs_ ?_ GE729.out | refine Bs_ ?_ GE743.out | refine Bs_ ?_ GE744.out) | exact HB.out))))
             have n7_ := Am_ (Vl_ (Vm_ (ok' := fun k_ => some k_ ≠ (v746 : Value).ownBlock ∧ k_ ≠ gb650 ∧ k_ ≠ gb651 ∧ k_ ≠ gb663 ∧ k_ ≠ gb711 ∧ k_ ≠ gb720 ∧ k_ ≠ gb729 ∧ k_ ≠ gb743 ∧ k_ ≠ gb744) ho1 (fun k_ hk_ => ⟨hk_.2, Or.elim hk_.1 (fun hs_ => hs_.1) (fun hn_ => (Kd.freshB (g := gb650) (o := .cells #[.slice A0_0 l0_0.length c0_0, .slice A0_1 l0_1.length c0_1] 25 (0, 0)) (Pk_ BK650.out) k_ hn_)), Or.elim hk_.1 (fun hs_ => hs_.2.1) (fun hn_ => (Kd.freshB (g := gb651) (o := .cells #[.int .i64 a3_0, .int .i64 a3_1, .bool a3_2, .bool a3_3, .int .i64 x652004_21, .int .i64 a3_5] 38 (0, 0)) (Pk_ BK651.out) k_ hn_)), Or.elim hk_.1 (fun hs_ => hs_.2.2.1) (fun hn_ => (Kd.freshB (g := gb663) (o := .cells #[.slice Ao28 t655.length co28, .slice Ao32 t658.length co32] 25 (0, 0)) (Pk_ BK663.out) k_ hn_)), Or.elim hk_.1 (fun hs_ => hs_.2.2.2.1) (fun hn_ => (Kd.freshB (g := gb711) (o := .cells #[.slice Ao108 t703.length co108, .slice Ao113 t706.length co113] 25 (0, 0)) (Pk_ BK711.out) k_ hn_)), Or.elim hk_.1 (fun hs_ => hs_.2.2.2.2.1) (fun hn_ => (Kd.freshB (g := gb720) (o := .cells #[.int .i64 t713, .int .i64 t714, .bool t715, .bool t716, .int .i64 t717, .int .i64 t718] 38 (0, 0)) (Pk_ BK720.out) k_ hn_)), Or.elim hk_.1 (fun hs_ => hs_.2.2.2.2.2.1) (fun hn_ => (Kd.freshB (g := gb729) (o := .cells #[.int .i64 t722, .int .i64 t723, .bool t724, .bool t725, .int .i64 t726, .int .i64 t727] 38 (0, 0)) (Pk_ BK729.out) k_ hn_)), Or.elim hk_.1 (fun hs_ => hs_.2.2.2.2.2.2.1) (fun hn_ => (Kd.freshB (g := gb743) (o := .cells #[.slice Ao135 t730.length co135, .slice Ao144 t733.length co144] 25 (0, 0)) (Pk_ BK743.out) k_ hn_)), Or.elim hk_.1 (fun hs_ => hs_.2.2.2.2.2.2.2) (fun hn_ => (Kd.freshB (g := gb744) (o := .cells #[.int .i64 t736, .int .i64 t737, .bool t738, .bool t739, .int .i64 t740, .int .i64 t741] 38 (0, 0)) (Pk_ BK744.out) k_ hn_))⟩)) (Bz_ (by repeat (first | (with_reducible first | exact HB.out | apply Pa_ | apply Pn_ | apply Pd_ | refine Bs_ ?_ GE650.out | refine Bs_ ?_ GE651.out | refine Bs_ ?_ GE663.out | refine Bs_ ?_ GE711.out | refine Bs_ ?_ GE720.out | refine Bs_ ?_ GE729.out | refine Bs_ ?_ GE743.out | refine Bs_ ?_ GE744.out) | exact HB.out))))
             have n8_ := Am_ (Bb_ (g := gb650) (o := .cells #[.slice A0_0 l0_0.length c0_0, .slice A0_1 l0_1.length c0_1] 25 (0, 0)) (Pk_ BK650.out) hb)
             have n9_ := Am_ (Bb_ (g := gb651) (o := .cells #[.int .i64 a3_0, .int .i64 a3_1, .bool a3_2, .bool a3_3, .int .i64 x652004_21, .int .i64 a3_5] 38 (0, 0)) (Pk_ BK651.out) hb)
             have n10_ := Am_ (Bb_ (g := gb663) (o := .cells #[.slice Ao28 t655.length co28, .slice Ao32 t658.length co32] 25 (0, 0)) (Pk_ BK663.out) hb)
             have n11_ := Am_ (Bb_ (g := gb711) (o := .cells #[.slice Ao108 t703.length co108, .slice Ao113 t706.length co113] 25 (0, 0)) (Pk_ BK711.out) hb)
             have n12_ := Am_ (Bb_ (g := gb720) (o := .cells #[.int .i64 t713, .int .i64 t714, .bool t715, .bool t716, .int .i64 t717, .int .i64 t718] 38 (0, 0)) (Pk_ BK720.out) hb)
             have n13_ := Am_ (Bb_ (g := gb729) (o := .cells #[.int .i64 t722, .int .i64 t723, .bool t724, .bool t725, .int .i64 t726, .int .i64 t727] 38 (0, 0)) (Pk_ BK729.out) hb)
             have n14_ := Am_ (Bb_ (g := gb743) (o := .cells #[.slice Ao135 t730.length co135, .slice Ao144 t733.length co144] 25 (0, 0)) (Pk_ BK743.out) hb)
             have n15_ := Am_ (Bb_ (g := gb744) (o := .cells #[.int .i64 t736, .int .i64 t737, .bool t738, .bool t739, .int .i64 t740, .int .i64 t741] 38 (0, 0)) (Pk_ BK744.out) hb)
             have n16_ := Am_ (Be_ (by repeat (first | (with_reducible first | exact HB.out | apply Pa_ | apply Pn_ | apply Pd_ | refine Bs_ ?_ GE650.out | refine Bs_ ?_ GE651.out | refine Bs_ ?_ GE663.out | refine Bs_ ?_ GE711.out | refine Bs_ ?_ GE720.out | refine Bs_ ?_ GE729.out | refine Bs_ ?_ GE743.out | refine Bs_ ?_ GE744.out) | exact HB.out)) hb)
             clear HO_664000
             clear HO_664001
             clear HO705
             clear HO708
             clear HO732
             clear HO735
             clear BK650
             clear BK651
             clear BK663
             clear BK711
             clear BK720
             clear BK729
             clear BK743
             clear BK744
             clear HB
             have HO_664000 := n0_
             have HO_664001 := n1_
             have HO705 := n2_
             have HO708 := n3_
             have HO732 := n4_
             have HO735 := n5_
             have HO747 := n6_
             have HO750 := n7_
             have BK650 := n8_
             have BK651 := n9_
             have BK663 := n10_
             have BK711 := n11_
             have BK720 := n12_
             have BK729 := n13_
             have BK743 := n14_
             have BK744 := n15_
             have HB := n16_
             clear n0_ n1_ n2_ n3_ n4_ n5_ n6_ n7_ n8_ n9_ n10_ n11_ n12_ n13_ n14_ n15_ n16_
             (try clear hb)
             (try clear hb2)
             (try clear hk)
             (try clear hi)
             (try clear ho0)
             (try clear ho1)
             refine hK.out _ _ ⟨(Bc_ BK720.out 0).trans rfl, (Bc_ BK720.out 1).trans rfl, (Bc_ BK720.out 2).trans rfl, (Bc_ BK720.out 3).trans rfl, (Bc_ BK720.out 4).trans rfl, (Bc_ BK720.out 5).trans rfl, (Bc_ BK729.out 0).trans rfl, (Bc_ BK729.out 1).trans rfl, (Bc_ BK729.out 2).trans rfl, (Bc_ BK729.out 3).trans rfl, (Bc_ BK729.out 4).trans rfl, (Bc_ BK729.out 5).trans rfl, (Bc_ BK743.out 0).trans rfl, (Bc_ BK743.out 1).trans rfl, (Bc_ BK650.out 0).trans rfl, (Bc_ BK650.out 1).trans rfl⟩ (fun hHeld => ?_)
             clear hK K
             refine norm_ (a' := ?_) ?_ ?_
             rotate_left
             ·show Act.put _ (some 166) _ = _
              simp only [Act.put, La_, Lb_, Lc_, i64_w, i32_w]
              rfl
             refine one_ (i := 27) (N := some 168) #[t_,t_,t_,t_,t_,t_,t_,t_,t_,t_,t_,t_,t_,t_,t_,t_,t_,t_,t_,t_,t_,t_,t_,t_,t_,t_,t_,t_,f_,f_,f_] rfl rfl (one_of HT_.out (by kernel_rfl)) (by decide) (fun K hK => ?_)
             refine goes_ Try.func14 (by kernel_rfl) rfl #[.agg #[.slice A0_0 l0_0.length c0_0, .slice A0_1 l0_1.length c0_1]] (by rfl) rfl rfl (by (try simp only [List.map_toArray, List.map_cons, List.map_nil]); first | done | rfl | (simp only [List.length_drop, List.length_take]; rfl)) ?_
             with_reducible refine (flagstonelaw10_its.calls kj21 _ _ l0_0 (fun k_ => k_ < w.heap.size) _ _ l0_1 t751 t754 _ ?side1 ?side2 ?side3 A100.out).mono ?_
             (case side1 => repeat (first | exact (Kd.C_below HR0_0.out HB.out) | (with_reducible refine Kd.C_alloc ?_ _) | (with_reducible refine Kd.C_drewN ?_ _) | (with_reducible refine Kd.C_drew ?_)))
             (case side2 => exact HC0_0.out)
             (case side3 => exact Kd.V_mk HC0_1.out (Kd.F_below (Kd.C_F (Kd.heap_slice 3 (Kd.heap_int .i64)) HR0_1.out) (by repeat (first | (with_reducible first | exact HB.out | apply Pa_ | apply Pn_ | apply Pd_ | refine Bs_ ?_ GE650.out | refine Bs_ ?_ GE651.out | refine Bs_ ?_ GE663.out | refine Bs_ ?_ GE711.out | refine Bs_ ?_ GE720.out | refine Bs_ ?_ GE729.out | refine Bs_ ?_ GE743.out | refine Bs_ ?_ GE744.out) | exact HB.out))))
             rintro e w155 ⟨v752, v755, rfl, ho0, ho1, hb⟩
             refine ⟨_, rfl, ?_⟩
             have n0_ := Am_ (Kd.V_elder' (Pv_ HO_664000.out) (Kd.R_base ho0) hb)
             have n1_ := Am_ (Kd.V_elder' (Pv_ HO_664001.out) (Kd.R_base ho0) hb)
             have n2_ := Am_ (Kd.V_elder' (Pv_ HO705.out) (Kd.R_base ho0) hb)
             have n3_ := Am_ (Kd.V_elder' (Pv_ HO708.out) (Kd.R_base ho0) hb)
             have n4_ := Am_ (Kd.V_elder' (Pv_ HO732.out) (Kd.R_base ho0) hb)
             have n5_ := Am_ (Kd.V_elder' (Pv_ HO735.out) (Kd.R_base ho0) hb)
             have n6_ := Am_ (Kd.R_elder' (Px_ HO747.out) (Kd.R_base ho0) hb)
             have n7_ := Am_ (Kd.V_elder' (Pv_ HO750.out) (Kd.R_base ho0) hb)
             have n8_ := Am_ (Kd.R_lower (Kd.R_new' (Kd.R_mono (ok' := fun k_ => True) ho0 (fun _ hk_ => trivial)) (Kd.R_lt (Px_ HO747.out))) (Bz_ (by repeat (first | (with_reducible first | exact HB.out | apply Pa_ | apply Pn_ | apply Pd_ | refine Bs_ ?_ GE650.out | refine Bs_ ?_ GE651.out | refine Bs_ ?_ GE663.out | refine Bs_ ?_ GE711.out | refine Bs_ ?_ GE720.out | refine Bs_ ?_ GE729.out | refine Bs_ ?_ GE743.out | refine Bs_ ?_ GE744.out) | exact HB.out))))
             have n9_ := Am_ (Vl_ (Vm_ (ok' := fun k_ => some k_ ≠ (v752 : Value).ownBlock ∧ some k_ ≠ (v746 : Value).ownBlock ∧ k_ ≠ gb650 ∧ k_ ≠ gb651 ∧ k_ ≠ gb663 ∧ k_ ≠ gb711 ∧ k_ ≠ gb720 ∧ k_ ≠ gb729 ∧ k_ ≠ gb743 ∧ k_ ≠ gb744) ho1 (fun k_ hk_ => ⟨hk_.2, Or.elim hk_.1 (fun hs_ => fun e_ => Nat.not_le.2 hs_ (Kd.R_base HO747.out k_ e_.symm)) (fun hn_ => (Kd.fresh' (Kd.R_lt (Px_ HO747.out)) k_ hn_)), Or.elim hk_.1 (fun hs_ => fun e_ => Nat.not_le.2 hs_ (by rw [e_]; exact GW650.out)) (fun hn_ => (Kd.freshB (g := gb650) (o := .cells #[.slice A0_0 l0_0.length c0_0, .slice A0_1 l0_1.length c0_1] 25 (0, 0)) (Pk_ BK650.out) k_ hn_)), Or.elim hk_.1 (fun hs_ => fun e_ => Nat.not_le.2 hs_ (by rw [e_]; exact GW651.out)) (fun hn_ => (Kd.freshB (g := gb651) (o := .cells #[.int .i64 a3_0, .int .i64 a3_1, .bool a3_2, .bool a3_3, .int .i64 x652004_21, .int .i64 a3_5] 38 (0, 0)) (Pk_ BK651.out) k_ hn_)), Or.elim hk_.1 (fun hs_ => fun e_ => Nat.not_le.2 hs_ (by rw [e_]; exact GW663.out)) (fun hn_ => (Kd.freshB (g := gb663) (o := .cells #[.slice Ao28 t655.length co28, .slice Ao32 t658.length co32] 25 (0, 0)) (Pk_ BK663.out) k_ hn_)), Or.elim hk_.1 (fun hs_ => fun e_ => Nat.not_le.2 hs_ (by rw [e_]; exact GW711.out)) (fun hn_ => (Kd.freshB (g := gb711) (o := .cells #[.slice Ao108 t703.length co108, .slice Ao113 t706.length co113] 25 (0, 0)) (Pk_ BK711.out) k_ hn_)), Or.elim hk_.1 (fun hs_ => fun e_ => Nat.not_le.2 hs_ (by rw [e_]; exact GW720.out)) (fun hn_ => (Kd.freshB (g := gb720) (o := .cells #[.int .i64 t713, .int .i64 t714, .bool t715, .bool t716, .int .i64 t717, .int .i64 t718] 38 (0, 0)) (Pk_ BK720.out) k_ hn_)), Or.elim hk_.1 (fun hs_ => fun e_ => Nat.not_le.2 hs_ (by rw [e_]; exact GW729.out)) (fun hn_ => (Kd.freshB (g := gb729) (o := .cells #[.int .i64 t722, .int .i64 t723, .bool t724, .bool t725, .int .i64 t726, .int .i64 t727] 38 (0, 0)) (Pk_ BK729.out) k_ hn_)), Or.elim hk_.1 (fun hs_ => fun e_ => Nat.not_le.2 hs_ (by rw [e_]; exact GW743.out)) (fun hn_ => (Kd.freshB (g := gb743) (o := .cells #[.slice Ao135 t730.length co135, .slice Ao144 t733.length co144] 25 (0, 0)) (Pk_ BK743.out) k_ hn_)), Or.elim hk_.1 (fun hs_ => fun e_ => Nat.not_le.2 hs_ (by rw [e_]; exact GW744.out)) (fun hn_ => (Kd.freshB (g := gb744) (o := .cells #[.int .i64 t736, .int .i64 t737, .bool t738, .bool t739, .int .i64 t740, .int .i64 t741] 38 (0, 0)) (Pk_ BK744.out) k_ hn_))⟩)) (Bz_ (by repeat (first | (with_reducible first | exact HB.out | apply Pa_ | apply Pn_ | apply Pd_ | refine Bs_ ?_ GE650.out | refine Bs_ ?_ GE651.out | refine Bs_ ?_ GE663.out | refine Bs_ ?_ GE711.out | refine Bs_ ?_ GE720.out | refine Bs_ ?_ GE729.out | refine Bs_ ?_ GE743.out | refine Bs_ ?_ GE744.out) | exact HB.out))))
             have n10_ := Am_ (Bb_ (g := gb650) (o := .cells #[.slice A0_0 l0_0.length c0_0, .slice A0_1 l0_1.length c0_1] 25 (0, 0)) (Pk_ BK650.out) hb)
             have n11_ := Am_ (Bb_ (g := gb651) (o := .cells #[.int .i64 a3_0, .int .i64 a3_1, .bool a3_2, .bool a3_3, .int .i64 x652004_21, .int .i64 a3_5] 38 (0, 0)) (Pk_ BK651.out) hb)
             have n12_ := Am_ (Bb_ (g := gb663) (o := .cells #[.slice Ao28 t655.length co28, .slice Ao32 t658.length co32] 25 (0, 0)) (Pk_ BK663.out) hb)
             have n13_ := Am_ (Bb_ (g := gb711) (o := .cells #[.slice Ao108 t703.length co108, .slice Ao113 t706.length co113] 25 (0, 0)) (Pk_ BK711.out) hb)
             have n14_ := Am_ (Bb_ (g := gb720) (o := .cells #[.int .i64 t713, .int .i64 t714, .bool t715, .bool t716, .int .i64 t717, .int .i64 t718] 38 (0, 0)) (Pk_ BK720.out) hb)
             have n15_ := Am_ (Bb_ (g := gb729) (o := .cells #[.int .i64 t722, .int .i64 t723, .bool t724, .bool t725, .int .i64 t726, .int .i64 t727] 38 (0, 0)) (Pk_ BK729.out) hb)
             have n16_ := Am_ (Bb_ (g := gb743) (o := .cells #[.slice Ao135 t730.length co135, .slice Ao144 t733.length co144] 25 (0, 0)) (Pk_ BK743.out) hb)
             have n17_ := Am_ (Bb_ (g := gb744) (o := .cells #[.int .i64 t736, .int .i64 t737, .bool t738, .bool t739, .int .i64 t740, .int .i64 t741] 38 (0, 0)) (Pk_ BK744.out) hb)
             have n18_ := Am_ (Be_ (by repeat (first | (with_reducible first | exact HB.out | apply Pa_ | apply Pn_ | apply Pd_ | refine Bs_ ?_ GE650.out | refine Bs_ ?_ GE651.out | refine Bs_ ?_ GE663.out | refine Bs_ ?_ GE711.out | refine Bs_ ?_ GE720.out | refine Bs_ ?_ GE729.out | refine Bs_ ?_ GE743.out | refine Bs_ ?_ GE744.out) | exact HB.out)) hb)
             clear HO_664000
             clear HO_664001
             clear HO705
             clear HO708
             clear HO732
             clear HO735
             clear HO747
             clear HO750
             clear BK650
             clear BK651
             clear BK663
             clear BK711
             clear BK720
             clear BK729
             clear BK743
             clear BK744
             clear HB
             have HO_664000 := n0_
             have HO_664001 := n1_
             have HO705 := n2_
             have HO708 := n3_
             have HO732 := n4_
             have HO735 := n5_
             have HO747 := n6_
             have HO750 := n7_
             have HO753 := n8_
             have HO756 := n9_
             have BK650 := n10_
             have BK651 := n11_
             have BK663 := n12_
             have BK711 := n13_
             have BK720 := n14_
             have BK729 := n15_
             have BK743 := n16_
             have BK744 := n17_
             have HB := n18_
             clear n0_ n1_ n2_ n3_ n4_ n5_ n6_ n7_ n8_ n9_ n10_ n11_ n12_ n13_ n14_ n15_ n16_ n17_ n18_
             (try clear hb)
             (try clear hb2)
             (try clear hk)
             (try clear hi)
             (try clear ho0)
             (try clear ho1)
             obtain ⟨Ao156, co156, eo156⟩ := Kd.R_slice HO747.out
             (first | subst eo156 | (injection eo156 with f1_ f2_ f3_; have f4_ := f1_.symm; have f5_ := f3_.symm; clear f1_ f2_ f3_; subst f4_; subst f5_))
             obtain ⟨Ao157, co157, eo157⟩ := Vx_ HO750.out
             (first | subst eo157 | (injection eo157 with f1_ f2_ f3_; have f4_ := f1_.symm; have f5_ := f3_.symm; clear f1_ f2_ f3_; subst f4_; subst f5_))
             obtain ⟨Ao158, co158, eo158⟩ := Kd.R_slice HO753.out
             (first | subst eo158 | (injection eo158 with f1_ f2_ f3_; have f4_ := f1_.symm; have f5_ := f3_.symm; clear f1_ f2_ f3_; subst f4_; subst f5_))
             obtain ⟨Ao159, co159, eo159⟩ := Vx_ HO756.out
             (first | subst eo159 | (injection eo159 with f1_ f2_ f3_; have f4_ := f1_.symm; have f5_ := f3_.symm; clear f1_ f2_ f3_; subst f4_; subst f5_))
             refine hK.out _ _ ⟨(Bc_ BK720.out 0).trans rfl, (Bc_ BK720.out 1).trans rfl, (Bc_ BK720.out 2).trans rfl, (Bc_ BK720.out 3).trans rfl, (Bc_ BK720.out 4).trans rfl, (Bc_ BK720.out 5).trans rfl, (Bc_ BK729.out 0).trans rfl, (Bc_ BK729.out 1).trans rfl, (Bc_ BK729.out 2).trans rfl, (Bc_ BK729.out 3).trans rfl, (Bc_ BK729.out 4).trans rfl, (Bc_ BK729.out 5).trans rfl, (Bc_ BK743.out 0).trans rfl, (Bc_ BK743.out 1).trans rfl, (Bc_ BK650.out 0).trans rfl, (Bc_ BK650.out 1).trans rfl⟩ (fun hHeld => ?_)
             clear hK K
             refine norm_ (a' := ?_) ?_ ?_
             rotate_left
             ·show Act.put _ (some 168) _ = _
              simp only [Act.put, La_, Lb_, Lc_, i64_w, i32_w]
              rfl
             refine one_ (i := 28) (N := some 169) #[t_,t_,t_,t_,t_,t_,t_,t_,t_,t_,t_,t_,t_,t_,t_,t_,t_,t_,t_,t_,t_,t_,t_,t_,t_,t_,t_,t_,t_,f_,f_] rfl rfl (one_of HT_.out (by kernel_rfl)) (by decide) (fun K hK => ?_)
             refine goes_ Try.func15 (by kernel_rfl) rfl #[.agg #[.slice Ao156 t745.length co156, .slice Ao157 t748.length co157], .agg #[.slice Ao158 t751.length co158, .slice Ao159 t754.length co159]] (by rfl) rfl rfl (by (try simp only [List.map_toArray, List.map_cons, List.map_nil]); first | done | rfl | (simp only [List.length_drop, List.length_take]; rfl)) ?_
             with_reducible refine (flagstoneref10_Same.calls kj21 _ _ t745 _ _ t748 _ _ t751 _ _ t754 true _ ?side1 ?side2 ?side3 ?side4 ?side5 ?side6 ?side7 ?side8 A101.out).mono ?_
             (case side1 => repeat (first | exact (Kd.R_reads' HO747.out).2.2 | (with_reducible refine Kd.C_alloc ?_ _) | (with_reducible refine Kd.C_drewN ?_ _) | (with_reducible refine Kd.C_drew ?_)))
             (case side2 => exact (Kd.R_reads' HO747.out).2.1)
             (case side3 => repeat (first | exact (Vr_ HO750.out).2.2 | (with_reducible refine Kd.C_alloc ?_ _) | (with_reducible refine Kd.C_drewN ?_ _) | (with_reducible refine Kd.C_drew ?_)))
             (case side4 => exact (Vr_ HO750.out).2.1)
             (case side5 => repeat (first | exact (Kd.R_reads' HO753.out).2.2 | (with_reducible refine Kd.C_alloc ?_ _) | (with_reducible refine Kd.C_drewN ?_ _) | (with_reducible refine Kd.C_drew ?_)))
             (case side6 => exact (Kd.R_reads' HO753.out).2.1)
             (case side7 => repeat (first | exact (Vr_ HO756.out).2.2 | (with_reducible refine Kd.C_alloc ?_ _) | (with_reducible refine Kd.C_drewN ?_ _) | (with_reducible refine Kd.C_drew ?_)))
             (case side8 => exact (Vr_ HO756.out).2.1)
             rintro e w160 ⟨rfl, hb⟩
             refine ⟨_, rfl, ?_⟩
             have n0_ := Am_ (Vb_ (Pv_ HO_664000.out) hb)
             have n1_ := Am_ (Vb_ (Pv_ HO_664001.out) hb)
             have n2_ := Am_ (Vb_ (Pv_ HO705.out) hb)
             have n3_ := Am_ (Vb_ (Pv_ HO708.out) hb)
             have n4_ := Am_ (Vb_ (Pv_ HO732.out) hb)
             have n5_ := Am_ (Vb_ (Pv_ HO735.out) hb)
             have n6_ := Am_ (Rb_ (Px_ HO747.out) hb)
             have n7_ := Am_ (Vb_ (Pv_ HO750.out) hb)
             have n8_ := Am_ (Rb_ (Px_ HO753.out) hb)
             have n9_ := Am_ (Vb_ (Pv_ HO756.out) hb)
             have n10_ := Am_ (Bb_ (g := gb650) (o := .cells #[.slice A0_0 l0_0.length c0_0, .slice A0_1 l0_1.length c0_1] 25 (0, 0)) (Pk_ BK650.out) hb)
             have n11_ := Am_ (Bb_ (g := gb651) (o := .cells #[.int .i64 a3_0, .int .i64 a3_1, .bool a3_2, .bool a3_3, .int .i64 x652004_21, .int .i64 a3_5] 38 (0, 0)) (Pk_ BK651.out) hb)
             have n12_ := Am_ (Bb_ (g := gb663) (o := .cells #[.slice Ao28 t655.length co28, .slice Ao32 t658.length co32] 25 (0, 0)) (Pk_ BK663.out) hb)
             have n13_ := Am_ (Bb_ (g := gb711) (o := .cells #[.slice Ao108 t703.length co108, .slice Ao113 t706.length co113] 25 (0, 0)) (Pk_ BK711.out) hb)
             have n14_ := Am_ (Bb_ (g := gb720) (o := .cells #[.int .i64 t713, .int .i64 t714, .bool t715, .bool t716, .int .i64 t717, .int .i64 t718] 38 (0, 0)) (Pk_ BK720.out) hb)
             have n15_ := Am_ (Bb_ (g := gb729) (o := .cells #[.int .i64 t722, .int .i64 t723, .bool t724, .bool t725, .int .i64 t726, .int .i64 t727] 38 (0, 0)) (Pk_ BK729.out) hb)
             have n16_ := Am_ (Bb_ (g := gb743) (o := .cells #[.slice Ao135 t730.length co135, .slice Ao144 t733.length co144] 25 (0, 0)) (Pk_ BK743.out) hb)
             have n17_ := Am_ (Bb_ (g := gb744) (o := .cells #[.int .i64 t736, .int .i64 t737, .bool t738, .bool t739, .int .i64 t740, .int .i64 t741] 38 (0, 0)) (Pk_ BK744.out) hb)
             have n18_ := Am_ (Be_ (by repeat (first | (with_reducible first | exact HB.out | apply Pa_ | apply Pn_ | apply Pd_ | refine Bs_ ?_ GE650.out | refine Bs_ ?_ GE651.out | refine Bs_ ?_ GE663.out | refine Bs_ ?_ GE711.out | refine Bs_ ?_ GE720.out | refine Bs_ ?_ GE729.out | refine Bs_ ?_ GE743.out | refine Bs_ ?_ GE744.out) | exact HB.out)) hb)
             clear HO_664000
             clear HO_664001
             clear HO705
             clear HO708
             clear HO732
             clear HO735
             clear HO747
             clear HO750
             clear HO753
             clear HO756
             clear BK650
             clear BK651
             clear BK663
             clear BK711
             clear BK720
             clear BK729
             clear BK743
             clear BK744
             clear HB
             have HO_664000 := n0_
             have HO_664001 := n1_
             have HO705 := n2_
             have HO708 := n3_
             have HO732 := n4_
             have HO735 := n5_
             have HO747 := n6_
             have HO750 := n7_
             have HO753 := n8_
             have HO756 := n9_
             have BK650 := n10_
             have BK651 := n11_
             have BK663 := n12_
             have BK711 := n13_
             have BK720 := n14_
             have BK729 := n15_
             have BK743 := n16_
             have BK744 := n17_
             have HB := n18_
             clear n0_ n1_ n2_ n3_ n4_ n5_ n6_ n7_ n8_ n9_ n10_ n11_ n12_ n13_ n14_ n15_ n16_ n17_ n18_
             (try clear hb)
             (try clear hb2)
             (try clear hk)
             (try clear hi)
             refine hK.out _ _ ⟨(Bc_ BK720.out 0).trans rfl, (Bc_ BK720.out 1).trans rfl, (Bc_ BK720.out 2).trans rfl, (Bc_ BK720.out 3).trans rfl, (Bc_ BK720.out 4).trans rfl, (Bc_ BK720.out 5).trans rfl, (Bc_ BK729.out 0).trans rfl, (Bc_ BK729.out 1).trans rfl, (Bc_ BK729.out 2).trans rfl, (Bc_ BK729.out 3).trans rfl, (Bc_ BK729.out 4).trans rfl, (Bc_ BK729.out 5).trans rfl, (Bc_ BK743.out 0).trans rfl, (Bc_ BK743.out 1).trans rfl, (Bc_ BK650.out 0).trans rfl, (Bc_ BK650.out 1).trans rfl⟩ (fun hHeld => ?_)
             clear hK K
             refine norm_ (a' := ?_) ?_ ?_
             rotate_left
             ·show Act.put _ (some 169) _ = _
              simp only [Act.put, La_, Lb_, Lc_, i64_w, i32_w]
              rfl
             refine pure_ (i := 29) (N := some 170) (v := ?_) (a' := ?_) #[t_,t_,t_,t_,t_,t_,t_,t_,t_,t_,t_,t_,t_,t_,t_,t_,t_,t_,t_,t_,t_,t_,t_,t_,t_,t_,t_,t_,t_,t_,f_] rfl rfl (any_of HT_.out (by kernel_rfl)) (fun _ _ _ h => h) (Or.inl ⟨by rfl, ?_⟩) ?_ ?_
             rotate_left
             ·intro w'
              go_simp
              with_reducible rfl
             rotate_left
             ·simp only [Act.put, La_, Lb_, Lc_, i64_w, i32_w]
              rfl
             refine pure_ (i := 30) (N := some 171) (v := ?_) (a' := ?_) #[t_,t_,t_,t_,t_,t_,t_,t_,t_,t_,t_,t_,t_,t_,t_,t_,t_,t_,t_,t_,t_,t_,t_,t_,t_,t_,t_,t_,t_,t_,t_] rfl rfl (any_of HT_.out (by kernel_rfl)) (fun _ _ _ h => h) (Or.inl ⟨by rfl, ?_⟩) ?_ ?_
             rotate_left
             ·intro w'
              go_simp
              with_reducible rfl
             rotate_left
             ·simp only [Act.put, La_, Lb_, Lc_, i64_w, i32_w]
              rfl
             refine done_ (done_of HT_.out (by kernel_rfl)) ?_
             try go_wp2
             go_ret
             exact ⟨by first | rfl | (simp [errW_none, errW_some] <;> rfl) | (simp [*, errW_none, errW_some] <;> rfl), by repeat (first | (with_reducible first | exact HB.out | apply Pa_ | apply Pn_ | apply Pd_ | refine Bs_ ?_ GE650.out | refine Bs_ ?_ GE651.out | refine Bs_ ?_ GE663.out | refine Bs_ ?_ GE711.out | refine Bs_ ?_ GE720.out | refine Bs_ ?_ GE729.out | refine Bs_ ?_ GE743.out | refine Bs_ ?_ GE744.out) | exact HB.out)⟩
            ·replace c102 := Bool.eq_false_iff.mpr c102
             subst c102
             have H1 : (none) = some r := by rw [if_neg (show ¬ (false = true) by decide)] at H; exact H
             clear H
             have H := H1
             clear H1
             exact absurd H (by simp)
           ·rw [if_neg c98] at H
            have c98b0 : (t742 == 0) = false := beq_eq_false_iff_ne.mpr c98
            have c98b1 : (t742 != 0) = true := bne_iff_ne.mpr c98
            exact absurd H (by simp)
          ·rw [if_neg c97] at H
           have c97b0 : (t717 == (wrap64 (t726 + 1))) = false := beq_eq_false_iff_ne.mpr c97
           have c97b1 : (t717 != (wrap64 (t726 + 1))) = true := bne_iff_ne.mpr c97
           exact absurd H (by simp)
         ·rw [if_neg c96] at H
          have c96b0 : (t712 == t721) = false := beq_eq_false_iff_ne.mpr c96
          have c96b1 : (t712 != t721) = true := bne_iff_ne.mpr c96
          exact absurd H (by simp)
        ·replace c95 := Bool.eq_false_iff.mpr c95
         subst c95
         have H1 : (none) = some r := by rw [if_neg (show ¬ (false = true) by decide)] at H; exact H
         clear H
         have H := H1
         clear H1
         exact absurd H (by simp)
       ·replace c94 := Bool.eq_false_iff.mpr c94
        subst c94
        have H1 : (none) = some r := by rw [if_neg (show ¬ (false = true) by decide)] at H; exact H
        clear H
        have H := H1
        clear H1
        exact absurd H (by simp)
      ·rw [if_neg c90] at H
       have c90b0 : (t710 == 0) = false := beq_eq_false_iff_ne.mpr c90
       have c90b1 : (t710 != 0) = true := bne_iff_ne.mpr c90
       obtain rfl := Option.some.inj H
       have hnb161 := NB650_651.out
       have hnc161 := NB651_650.out
       have hnb162 := NB650_663.out
       have hnc162 := NB663_650.out
       obtain ⟨hcz163_0, hcz163_1, hfz163_0, hfz163_1⟩ := Ce2_ BK650.out
       go_wp2_with (first | ((with_reducible refine gate_callee (f := 24) rfl ?_); refine goesL_ (some 111) rfl rfl Try.func24 (by kernel_rfl) rfl #[.agg #[.slice A0_0 l0_0.length c0_0, .slice A0_1 l0_1.length c0_1], .int .i64 a1, .int .i64 a2] rfl (by (try simp only [List.map_toArray, List.map_cons, List.map_nil]); first | done | rfl | (simp only [List.length_drop, List.length_take]; rfl)) ?_; (with_reducible refine (handle_Dup.calls (fun k_ => k_ < w.heap.size) _ _ l0_0 (fun k_ => k_ < w.heap.size) _ _ l0_1 a1 a2 t703 t706 t709 t710 _ ?side1 ?side2 A89.out).mono ?_); (case side1 => exact Kd.V_mk HC0_0.out (Kd.F_below (Kd.C_F k38_heap HR0_0.out) (Pb3_ HB.out GE650.out GE651.out GE663.out))); (case side2 => exact Kd.V_mk HC0_1.out (Kd.F_below (Kd.C_F (Kd.heap_slice 3 (Kd.heap_int .i64)) HR0_1.out) (Pb3_ HB.out GE650.out GE651.out GE663.out))); rintro e w164 ⟨v704, v707, rfl, ho0, ho1, hb⟩; refine ⟨_, rfl, ?_⟩; have n0_ := Am_ (Vb_ (Pv_ HO_664000.out) hb); have n1_ := Am_ (Vb_ (Pv_ HO_664001.out) hb); have n2_ := Am_ (Vl_ (Vm_ (ok' := fun k_ => k_ ≠ gb650 ∧ k_ ≠ gb651 ∧ k_ ≠ gb663) ho0 (fun k_ hk_ => ⟨Or.elim hk_ (fun hs_ => Or.elim hs_ (fun hs_ => fun e_ => Nat.not_le.2 hs_ (by rw [e_]; exact GW650.out)) (fun hs_ => fun e_ => Nat.not_le.2 hs_ (by rw [e_]; exact GW650.out))) (fun hn_ => (Kd.freshB (g := gb650) (o := .cells #[.slice A0_0 l0_0.length c0_0, .slice A0_1 l0_1.length c0_1] 25 (0, 0)) (Pk_ BK650.out) k_ hn_)), Or.elim hk_ (fun hs_ => Or.elim hs_ (fun hs_ => fun e_ => Nat.not_le.2 hs_ (by rw [e_]; exact GW651.out)) (fun hs_ => fun e_ => Nat.not_le.2 hs_ (by rw [e_]; exact GW651.out))) (fun hn_ => (Kd.freshB (g := gb651) (o := .cells #[.int .i64 a3_0, .int .i64 a3_1, .bool a3_2, .bool a3_3, .int .i64 x652004_21, .int .i64 a3_5] 38 (0, 0)) (Pk_ BK651.out) k_ hn_)), Or.elim hk_ (fun hs_ => Or.elim hs_ (fun hs_ => fun e_ => Nat.not_le.2 hs_ (by rw [e_]; exact GW663.out)) (fun hs_ => fun e_ => Nat.not_le.2 hs_ (by rw [e_]; exact GW663.out))) (fun hn_ => (Kd.freshB (g := gb663) (o := .cells #[.slice Ao28 t655.length co28, .slice Ao32 t658.length co32] 25 (0, 0)) (Pk_ BK663.out) k_ hn_))⟩)) (Bz_ (Pb3_ HB.out GE650.out GE651.out GE663.out))); have n3_ := Am_ (Vl_ (Vm_ (ok' := fun k_ => k_ ≠ gb650 ∧ k_ ≠ gb651 ∧ k_ ≠ gb663) ho1 (fun k_ hk_ => ⟨Or.elim hk_ (fun hs_ => Or.elim hs_ (fun hs_ => fun e_ => Nat.not_le.2 hs_ (by rw [e_]; exact GW650.out)) (fun hs_ => fun e_ => Nat.not_le.2 hs_ (by rw [e_]; exact GW650.out))) (fun hn_ => (Kd.freshB (g := gb650) (o := .cells #[.slice A0_0 l0_0.length c0_0, .slice A0_1 l0_1.length c0_1] 25 (0, 0)) (Pk_ BK650.out) k_ hn_)), Or.elim hk_ (fun hs_ => Or.elim hs_ (fun hs_ => fun e_ => Nat.not_le.2 hs_ (by rw [e_]; exact GW651.out)) (fun hs_ => fun e_ => Nat.not_le.2 hs_ (by rw [e_]; exact GW651.out))) (fun hn_ => (Kd.freshB (g := gb651) (o := .cells #[.int .i64 a3_0, .int .i64 a3_1, .bool a3_2, .bool a3_3, .int .i64 x652004_21, .int .i64 a3_5] 38 (0, 0)) (Pk_ BK651.out) k_ hn_)), Or.elim hk_ (fun hs_ => Or.elim hs_ (fun hs_ => fun e_ => Nat.not_le.2 hs_ (by rw [e_]; exact GW663.out)) (fun hs_ => fun e_ => Nat.not_le.2 hs_ (by rw [e_]; exact GW663.out))) (fun hn_ => (Kd.freshB (g := gb663) (o := .cells #[.slice Ao28 t655.length co28, .slice Ao32 t658.length co32] 25 (0, 0)) (Pk_ BK663.out) k_ hn_))⟩)) (Bz_ (Pb3_ HB.out GE650.out GE651.out GE663.out))); have n4_ := Am_ (Bb_ (g := gb650) (o := .cells #[.slice A0_0 l0_0.length c0_0, .slice A0_1 l0_1.length c0_1] 25 (0, 0)) (Pk_ BK650.out) hb); have n5_ := Am_ (Bb_ (g := gb651) (o := .cells #[.int .i64 a3_0, .int .i64 a3_1, .bool a3_2, .bool a3_3, .int .i64 x652004_21, .int .i64 a3_5] 38 (0, 0)) (Pk_ BK651.out) hb); have n6_ := Am_ (Bb_ (g := gb663) (o := .cells #[.slice Ao28 t655.length co28, .slice Ao32 t658.length co32] 25 (0, 0)) (Pk_ BK663.out) hb); have n7_ := Am_ (Be_ (Pb3_ HB.out GE650.out GE651.out GE663.out) hb); clear HO_664000; clear HO_664001; clear BK650; clear BK651; clear BK663; clear HB; have HO_664000 := n0_; have HO_664001 := n1_; have HO705 := n2_; have HO708 := n3_; have BK650 := n4_; have BK651 := n5_; have BK663 := n6_; have HB := n7_; clear n0_ n1_ n2_ n3_ n4_ n5_ n6_ n7_; (try clear hb); (try clear hb2); (try clear hk); (try clear hi); (try clear ho0); (try clear ho1)) | ((with_reducible refine gate_dst (N := 18) rfl ?_); refine box_event ?hg (N := 18) ?hd (cs := #[.slice none 0 0, .slice none 0 0]) (t := 25) ?hr ?_; (case hd => rfl); (case hg => rfl); (case hr => go_simp; try rfl); intro gb711 hg w165 hbox hb; have n0_ := Am_ (Vb_ (Ke_ (Pv_ HO_664000.out) gb711 (Nat.le_of_eq hg.symm)) hb); have n1_ := Am_ (Vb_ (Ke_ (Pv_ HO_664001.out) gb711 (Nat.le_of_eq hg.symm)) hb); have n2_ := Am_ (Vb_ (Ke_ (Pv_ HO705.out) gb711 (Nat.le_of_eq hg.symm)) hb); have n3_ := Am_ (Vb_ (Ke_ (Pv_ HO708.out) gb711 (Nat.le_of_eq hg.symm)) hb); have n4_ := Am_ (Bb_ (g := gb650) (o := .cells #[.slice A0_0 l0_0.length c0_0, .slice A0_1 l0_1.length c0_1] 25 (0, 0)) (Pk_ BK650.out) hb); have n5_ := Am_ (Bb_ (g := gb651) (o := .cells #[.int .i64 a3_0, .int .i64 a3_1, .bool a3_2, .bool a3_3, .int .i64 x652004_21, .int .i64 a3_5] 38 (0, 0)) (Pk_ BK651.out) hb); have n6_ := Am_ (Bb_ (g := gb663) (o := .cells #[.slice Ao28 t655.length co28, .slice Ao32 t658.length co32] 25 (0, 0)) (Pk_ BK663.out) hb); have n7_ := Am_ (Be_ (Pb3_ HB.out GE650.out GE651.out GE663.out) hb); have n8_ := Am_ (hbox); have n9_ := Am_ ((by rw [hg]; exact (Bz_ (Pb3_ HB.out GE650.out GE651.out GE663.out)) : w.heap.size ≤ gb711)); have n10_ := Am_ ((by rw [hg]; exact (Bz_ (Pb3_ HB.out GE650.out GE651.out GE663.out)) : w.heap.size ≤ gb711)); have n11_ := Am_ ((by rw [hg]; exact Nat.ne_of_lt (blk_lt (g := gb650) (o := .cells #[.slice A0_0 l0_0.length c0_0, .slice A0_1 l0_1.length c0_1] 25 (0, 0)) (Pk_ BK650.out)) : gb650 ≠ gb711)); have n12_ := Am_ ((by rw [hg]; exact Nat.ne_of_gt (blk_lt (g := gb650) (o := .cells #[.slice A0_0 l0_0.length c0_0, .slice A0_1 l0_1.length c0_1] 25 (0, 0)) (Pk_ BK650.out)) : gb711 ≠ gb650)); have n13_ := Am_ ((by rw [hg]; exact Nat.ne_of_lt (blk_lt (g := gb651) (o := .cells #[.int .i64 a3_0, .int .i64 a3_1, .bool a3_2, .bool a3_3, .int .i64 x652004_21, .int .i64 a3_5] 38 (0, 0)) (Pk_ BK651.out)) : gb651 ≠ gb711)); have n14_ := Am_ ((by rw [hg]; exact Nat.ne_of_gt (blk_lt (g := gb651) (o := .cells #[.int .i64 a3_0, .int .i64 a3_1, .bool a3_2, .bool a3_3, .int .i64 x652004_21, .int .i64 a3_5] 38 (0, 0)) (Pk_ BK651.out)) : gb711 ≠ gb651)); have n15_ := Am_ ((by rw [hg]; exact Nat.ne_of_lt (blk_lt (g := gb663) (o := .cells #[.slice Ao28 t655.length co28, .slice Ao32 t658.length co32] 25 (0, 0)) (Pk_ BK663.out)) : gb663 ≠ gb711)); have n16_ := Am_ ((by rw [hg]; exact Nat.ne_of_gt (blk_lt (g := gb663) (o := .cells #[.slice Ao28 t655.length co28, .slice Ao32 t658.length co32] 25 (0, 0)) (Pk_ BK663.out)) : gb711 ≠ gb663)); clear HO_664000; clear HO_664001; clear HO705; clear HO708; clear BK650; clear BK651; clear BK663; clear HB; have HO_664000 := n0_; have HO_664001 := n1_; have HO705 := n2_; have HO708 := n3_; have BK650 := n4_; have BK651 := n5_; have BK663 := n6_; have HB := n7_; have BK711 := n8_; have GW711 := n9_; have GE711 := n10_; have NB650_711 := n11_; have NB711_650 := n12_; have NB651_711 := n13_; have NB711_651 := n14_; have NB663_711 := n15_; have NB711_663 := n16_; clear n0_ n1_ n2_ n3_ n4_ n5_ n6_ n7_ n8_ n9_ n10_ n11_ n12_ n13_ n14_ n15_ n16_; clear hb hbox hg; obtain ⟨Ao166, co166, eo166⟩ := Vx_ HO705.out; subst eo166; have hnb167 := NB711_650.out; have hnc167 := NB650_711.out; have hnb168 := NB711_651.out; have hnc168 := NB651_711.out; have hnb169 := NB711_663.out; have hnc169 := NB663_711.out; obtain ⟨hcz170_0, hcz170_1, hfz170_0, hfz170_1⟩ := Ce2_ BK711.out; obtain ⟨Ao171, co171, eo171⟩ := Vx_ HO708.out; subst eo171))
       go_ret
       exact ⟨by first | rfl | (simp [errW_none, errW_some] <;> rfl) | (simp [*, errW_none, errW_some] <;> rfl), by repeat (first | (with_reducible first | exact HB.out | apply Pa_ | apply Pn_ | apply Pd_ | refine Bs_ ?_ GE650.out | refine Bs_ ?_ GE651.out | refine Bs_ ?_ GE663.out | refine Bs_ ?_ GE711.out) | exact HB.out)⟩

end Go.Proofs.Ytkecfdljodiifaa.P
