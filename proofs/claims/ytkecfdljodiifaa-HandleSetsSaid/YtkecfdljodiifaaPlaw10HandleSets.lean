-- Printed by a program of this session (inject.py) over the kit's print, with functions that were proved by hand in their places.
import Derived.Test.YtkecfdljodiifaaPK
import Derived.Test.YtkecfdljodiifaaPEq38
import Derived.Test.YtkecfdljodiifaaPhandleGet
import Derived.Test.YtkecfdljodiifaaPlaw10shown
import Derived.Test.YtkecfdljodiifaaPlaw10fine
import Derived.Test.YtkecfdljodiifaaPhandleSet
namespace Go.Proofs.Ytkecfdljodiifaa.P
open Go.RowKit Go.Proofs.YtkecfdljodiifaaW.PrintWords Go.Proofs.YtkecfdljodiifaaW.PrintLast Go.Proofs.YtkecfdljodiifaaW.PrintMore
attribute [local go_sem] max2_int min2_int max_two min_two max_three min_three max_four min_four   -- for this text's walks alone
set_option linter.unusedVariables false
set_option linter.unusedSimpArgs false

attribute [local go_sem high] eqA38
/-! ### flagstonelaw10_HandleSets: function 9 -/
mutual
def flagstonelaw10_HandleSets.j0 : Nat → Int → Bool → List (S38) → List (List Int) → Int → Int → Bool → Bool → Int → Int → Option (Bool)
  | 0, _, _, _, _, _, _, _, _, _, _ => none
  | k + 1, x1, x23, x848000, x848001, x849000, x849001, x849002, x849003, x849004, x849005 => if x23 = true then ((flagstonelaw10_shown.f k).bind fun t851 => (some t851)) else ((handle_Set.f x848000 x848001 x1 x849000 x849001 x849002 x849003 x849004 x849005).bind fun bt852 => (flagstonelaw10_HandleSets.l0 k x1 0 x848000 x848001 x849000 x849001 x849002 x849003 x849004 x849005 bt852.1 bt852.2))
def flagstonelaw10_HandleSets.l0 : Nat → Int → Int → List (S38) → List (List Int) → Int → Int → Bool → Bool → Int → Int → List (S38) → List (List Int) → Option (Bool)
  | 0, _, _, _, _, _, _, _, _, _, _, _, _ => none
  | k + 1, x1, x8, x848000, x848001, x849000, x849001, x849002, x849003, x849004, x849005, x859000, x859001 => if x8 < (x848001.length : Int) then (flagstonelaw10_HandleSets.l1 k x1 x8 0 x848000 x848001 x849000 x849001 x849002 x849003 x849004 x849005 x859000 x859001) else (some ((x859000.length : Int) == (x848000.length : Int)))
def flagstonelaw10_HandleSets.l1 : Nat → Int → Int → Int → List (S38) → List (List Int) → Int → Int → Bool → Bool → Int → Int → List (S38) → List (List Int) → Option (Bool)
  | 0, _, _, _, _, _, _, _, _, _, _, _, _, _ => none
  | k + 1, x1, x8, x9, x848000, x848001, x849000, x849001, x849002, x849003, x849004, x849005, x859000, x859001 => if x9 < 8 then ((handle_Get.f x848000 x848001 x8 x9).bind fun bt859 => ((handle_Get.f x859000 x859001 x8 x9).bind fun bt868 => (if bt859.2.2.2.2.2.2.2 = true then (flagstonelaw10_HandleSets.j3 k x1 x8 x9 bt859.1 bt859.2.2.2.2.2.2.2 bt868.1 bt868.2.2.2.2.2.2.2 (bt859.1 == x1) x848000 x848001 x849000 x849001 x849002 x849003 x849004 x849005 x859000 x859001 bt859.2.1 bt859.2.2.1 bt859.2.2.2.1 bt859.2.2.2.2.1 bt859.2.2.2.2.2.1 bt859.2.2.2.2.2.2.1 bt868.2.1 bt868.2.2.1 bt868.2.2.2.1 bt868.2.2.2.2.1 bt868.2.2.2.2.2.1 bt868.2.2.2.2.2.2.1 bt859.2.1 bt859.2.2.1 bt859.2.2.2.1 bt859.2.2.2.2.1 bt859.2.2.2.2.2.1 bt859.2.2.2.2.2.2.1) else (flagstonelaw10_HandleSets.j3 k x1 x8 x9 bt859.1 bt859.2.2.2.2.2.2.2 bt868.1 bt868.2.2.2.2.2.2.2 false x848000 x848001 x849000 x849001 x849002 x849003 x849004 x849005 x859000 x859001 bt859.2.1 bt859.2.2.1 bt859.2.2.2.1 bt859.2.2.2.2.1 bt859.2.2.2.2.2.1 bt859.2.2.2.2.2.2.1 bt868.2.1 bt868.2.2.1 bt868.2.2.2.1 bt868.2.2.2.2.1 bt868.2.2.2.2.2.1 bt868.2.2.2.2.2.2.1 bt859.2.1 bt859.2.2.1 bt859.2.2.2.1 bt859.2.2.2.2.1 bt859.2.2.2.2.2.1 bt859.2.2.2.2.2.2.1)))) else (flagstonelaw10_HandleSets.l0 k x1 (wrap64 (x8 + 1)) x848000 x848001 x849000 x849001 x849002 x849003 x849004 x849005 x859000 x859001)
def flagstonelaw10_HandleSets.j3 : Nat → Int → Int → Int → Int → Bool → Int → Bool → Bool → List (S38) → List (List Int) → Int → Int → Bool → Bool → Int → Int → List (S38) → List (List Int) → Int → Int → Bool → Bool → Int → Int → Int → Int → Bool → Bool → Int → Int → Int → Int → Bool → Bool → Int → Int → Option (Bool)
  | 0, _, _, _, _, _, _, _, _, _, _, _, _, _, _, _, _, _, _, _, _, _, _, _, _, _, _, _, _, _, _, _, _, _, _, _, _ => none
  | k + 1, x1, x8, x9, x10, x12, x13, x15, x62, x848000, x848001, x849000, x849001, x849002, x849003, x849004, x849005, x859000, x859001, x868000, x868001, x868002, x868003, x868004, x868005, x877000, x877001, x877002, x877003, x877004, x877005, x878000, x878001, x878002, x878003, x878004, x878005 => if x62 = true then (if x10 = x13 then (if (x12 != x15) = true then (none) else (if (!(x877000 == x849000) || (!(x877001 == x849001) || (!(x877002 == x849002) || (!(x877003 == x849003) || (!(x877004 == x868004) || (!(x877005 == x849005))))))) = true then (none) else (flagstonelaw10_HandleSets.l1 k x1 x8 (wrap64 (x9 + 1)) x848000 x848001 x849000 x849001 x849002 x849003 x849004 x849005 x859000 x859001))) else (none)) else (if x10 = x13 then (if (x12 != x15) = true then (none) else (if (!(x877000 == x878000) || (!(x877001 == x878001) || (!(x877002 == x878002) || (!(x877003 == x878003) || (!(x877004 == x878004) || (!(x877005 == x878005))))))) = true then (none) else (flagstonelaw10_HandleSets.l1 k x1 x8 (wrap64 (x9 + 1)) x848000 x848001 x849000 x849001 x849002 x849003 x849004 x849005 x859000 x859001))) else (none))
end
def flagstonelaw10_HandleSets.f (k : Nat) (l0_0 : List (S38)) (l0_1 : List (List Int)) (a1 : Int) (a2_0 : Int) (a2_1 : Int) (a2_2 : Bool) (a2_3 : Bool) (a2_4 : Int) (a2_5 : Int) : Option (Bool) := (flagstonelaw10_fine.f k l0_0 l0_1).bind fun t849 => (if t849 = true then ((flagstonelaw10_shown.f k).bind fun t850 => (flagstonelaw10_HandleSets.j0 k a1 (!t850) l0_0 l0_1 a2_0 a2_1 a2_2 a2_3 a2_4 a2_5)) else (flagstonelaw10_HandleSets.j0 k a1 true l0_0 l0_1 a2_0 a2_1 a2_2 a2_3 a2_4 a2_5))
theorem flagstonelaw10_HandleSets.mono_l : ∀ k, (∀ y0 y1 y2 y3 y4 y5 y6 y7 y8 y9, LeO (flagstonelaw10_HandleSets.j0 k y0 y1 y2 y3 y4 y5 y6 y7 y8 y9) (flagstonelaw10_HandleSets.j0 (k + 1) y0 y1 y2 y3 y4 y5 y6 y7 y8 y9)) ∧ (∀ y0 y1 y2 y3 y4 y5 y6 y7 y8 y9 y10 y11, LeO (flagstonelaw10_HandleSets.l0 k y0 y1 y2 y3 y4 y5 y6 y7 y8 y9 y10 y11) (flagstonelaw10_HandleSets.l0 (k + 1) y0 y1 y2 y3 y4 y5 y6 y7 y8 y9 y10 y11)) ∧ (∀ y0 y1 y2 y3 y4 y5 y6 y7 y8 y9 y10 y11 y12, LeO (flagstonelaw10_HandleSets.l1 k y0 y1 y2 y3 y4 y5 y6 y7 y8 y9 y10 y11 y12) (flagstonelaw10_HandleSets.l1 (k + 1) y0 y1 y2 y3 y4 y5 y6 y7 y8 y9 y10 y11 y12)) ∧ (∀ y0 y1 y2 y3 y4 y5 y6 y7 y8 y9 y10 y11 y12 y13 y14 y15 y16 y17 y18 y19 y20 y21 y22 y23 y24 y25 y26 y27 y28 y29 y30 y31 y32 y33 y34 y35, LeO (flagstonelaw10_HandleSets.j3 k y0 y1 y2 y3 y4 y5 y6 y7 y8 y9 y10 y11 y12 y13 y14 y15 y16 y17 y18 y19 y20 y21 y22 y23 y24 y25 y26 y27 y28 y29 y30 y31 y32 y33 y34 y35) (flagstonelaw10_HandleSets.j3 (k + 1) y0 y1 y2 y3 y4 y5 y6 y7 y8 y9 y10 y11 y12 y13 y14 y15 y16 y17 y18 y19 y20 y21 y22 y23 y24 y25 y26 y27 y28 y29 y30 y31 y32 y33 y34 y35))
  | 0 => ⟨fun _ _ _ _ _ _ _ _ _ _ r h => by simp [flagstonelaw10_HandleSets.j0] at h, fun _ _ _ _ _ _ _ _ _ _ _ _ r h => by simp [flagstonelaw10_HandleSets.l0] at h, fun _ _ _ _ _ _ _ _ _ _ _ _ _ r h => by simp [flagstonelaw10_HandleSets.l1] at h, fun _ _ _ _ _ _ _ _ _ _ _ _ _ _ _ _ _ _ _ _ _ _ _ _ _ _ _ _ _ _ _ _ _ _ _ _ r h => by simp [flagstonelaw10_HandleSets.j3] at h⟩
  | k + 1 => by
    obtain ⟨ih0, ih1, ih2, ih3⟩ := flagstonelaw10_HandleSets.mono_l k
    refine ⟨?_, ?_, ?_, ?_⟩
    · intro y0 y1 y2 y3 y4 y5 y6 y7 y8 y9
      unfold flagstonelaw10_HandleSets.j0
      repeat' first
      | (with_reducible exact ih0 _ _ _ _ _ _ _ _ _ _)
      | (with_reducible exact ih1 _ _ _ _ _ _ _ _ _ _ _ _)
      | (with_reducible exact ih2 _ _ _ _ _ _ _ _ _ _ _ _ _)
      | (with_reducible exact ih3 _ _ _ _ _ _ _ _ _ _ _ _ _ _ _ _ _ _ _ _ _ _ _ _ _ _ _ _ _ _ _ _ _ _ _ _)
      | (with_reducible exact flagstonelaw10_fine.mono _ _ _)
      | (with_reducible exact flagstonelaw10_shown.mono _)
      | (with_reducible exact LeO.refl _)
      | (with_reducible exact LeO.none _)
      | (with_reducible refine LeO.ite ?_ ?_)
      | (with_reducible refine LeO.bind ?_ (fun _ => ?_))
      | exact ih0 _ _ _ _ _ _ _ _ _ _
      | exact ih1 _ _ _ _ _ _ _ _ _ _ _ _
      | exact ih2 _ _ _ _ _ _ _ _ _ _ _ _ _
      | exact ih3 _ _ _ _ _ _ _ _ _ _ _ _ _ _ _ _ _ _ _ _ _ _ _ _ _ _ _ _ _ _ _ _ _ _ _ _
      | exact flagstonelaw10_fine.mono _ _ _
      | exact flagstonelaw10_shown.mono _
      | exact LeO.none _
      | refine LeO.ite ?_ ?_
      | refine LeO.bind ?_ (fun _ => ?_)
    · intro y0 y1 y2 y3 y4 y5 y6 y7 y8 y9 y10 y11
      unfold flagstonelaw10_HandleSets.l0
      repeat' first
      | (with_reducible exact ih0 _ _ _ _ _ _ _ _ _ _)
      | (with_reducible exact ih1 _ _ _ _ _ _ _ _ _ _ _ _)
      | (with_reducible exact ih2 _ _ _ _ _ _ _ _ _ _ _ _ _)
      | (with_reducible exact ih3 _ _ _ _ _ _ _ _ _ _ _ _ _ _ _ _ _ _ _ _ _ _ _ _ _ _ _ _ _ _ _ _ _ _ _ _)
      | (with_reducible exact flagstonelaw10_fine.mono _ _ _)
      | (with_reducible exact flagstonelaw10_shown.mono _)
      | (with_reducible exact LeO.refl _)
      | (with_reducible exact LeO.none _)
      | (with_reducible refine LeO.ite ?_ ?_)
      | (with_reducible refine LeO.bind ?_ (fun _ => ?_))
      | exact ih0 _ _ _ _ _ _ _ _ _ _
      | exact ih1 _ _ _ _ _ _ _ _ _ _ _ _
      | exact ih2 _ _ _ _ _ _ _ _ _ _ _ _ _
      | exact ih3 _ _ _ _ _ _ _ _ _ _ _ _ _ _ _ _ _ _ _ _ _ _ _ _ _ _ _ _ _ _ _ _ _ _ _ _
      | exact flagstonelaw10_fine.mono _ _ _
      | exact flagstonelaw10_shown.mono _
      | exact LeO.none _
      | refine LeO.ite ?_ ?_
      | refine LeO.bind ?_ (fun _ => ?_)
    · intro y0 y1 y2 y3 y4 y5 y6 y7 y8 y9 y10 y11 y12
      unfold flagstonelaw10_HandleSets.l1
      repeat' first
      | (with_reducible exact ih0 _ _ _ _ _ _ _ _ _ _)
      | (with_reducible exact ih1 _ _ _ _ _ _ _ _ _ _ _ _)
      | (with_reducible exact ih2 _ _ _ _ _ _ _ _ _ _ _ _ _)
      | (with_reducible exact ih3 _ _ _ _ _ _ _ _ _ _ _ _ _ _ _ _ _ _ _ _ _ _ _ _ _ _ _ _ _ _ _ _ _ _ _ _)
      | (with_reducible exact flagstonelaw10_fine.mono _ _ _)
      | (with_reducible exact flagstonelaw10_shown.mono _)
      | (with_reducible exact LeO.refl _)
      | (with_reducible exact LeO.none _)
      | (with_reducible refine LeO.ite ?_ ?_)
      | (with_reducible refine LeO.bind ?_ (fun _ => ?_))
      | exact ih0 _ _ _ _ _ _ _ _ _ _
      | exact ih1 _ _ _ _ _ _ _ _ _ _ _ _
      | exact ih2 _ _ _ _ _ _ _ _ _ _ _ _ _
      | exact ih3 _ _ _ _ _ _ _ _ _ _ _ _ _ _ _ _ _ _ _ _ _ _ _ _ _ _ _ _ _ _ _ _ _ _ _ _
      | exact flagstonelaw10_fine.mono _ _ _
      | exact flagstonelaw10_shown.mono _
      | exact LeO.none _
      | refine LeO.ite ?_ ?_
      | refine LeO.bind ?_ (fun _ => ?_)
    · intro y0 y1 y2 y3 y4 y5 y6 y7 y8 y9 y10 y11 y12 y13 y14 y15 y16 y17 y18 y19 y20 y21 y22 y23 y24 y25 y26 y27 y28 y29 y30 y31 y32 y33 y34 y35
      unfold flagstonelaw10_HandleSets.j3
      repeat' first
      | (with_reducible exact ih0 _ _ _ _ _ _ _ _ _ _)
      | (with_reducible exact ih1 _ _ _ _ _ _ _ _ _ _ _ _)
      | (with_reducible exact ih2 _ _ _ _ _ _ _ _ _ _ _ _ _)
      | (with_reducible exact ih3 _ _ _ _ _ _ _ _ _ _ _ _ _ _ _ _ _ _ _ _ _ _ _ _ _ _ _ _ _ _ _ _ _ _ _ _)
      | (with_reducible exact flagstonelaw10_fine.mono _ _ _)
      | (with_reducible exact flagstonelaw10_shown.mono _)
      | (with_reducible exact LeO.refl _)
      | (with_reducible exact LeO.none _)
      | (with_reducible refine LeO.ite ?_ ?_)
      | (with_reducible refine LeO.bind ?_ (fun _ => ?_))
      | exact ih0 _ _ _ _ _ _ _ _ _ _
      | exact ih1 _ _ _ _ _ _ _ _ _ _ _ _
      | exact ih2 _ _ _ _ _ _ _ _ _ _ _ _ _
      | exact ih3 _ _ _ _ _ _ _ _ _ _ _ _ _ _ _ _ _ _ _ _ _ _ _ _ _ _ _ _ _ _ _ _ _ _ _ _
      | exact flagstonelaw10_fine.mono _ _ _
      | exact flagstonelaw10_shown.mono _
      | exact LeO.none _
      | refine LeO.ite ?_ ?_
      | refine LeO.bind ?_ (fun _ => ?_)
theorem flagstonelaw10_HandleSets.mono : ∀ a0 a1 a2 a3 a4 a5 a6 a7 a8 k, LeO (flagstonelaw10_HandleSets.f k a0 a1 a2 a3 a4 a5 a6 a7 a8) (flagstonelaw10_HandleSets.f (k + 1) a0 a1 a2 a3 a4 a5 a6 a7 a8) := by
  intro a0 a1 a2 a3 a4 a5 a6 a7 a8 k
  obtain ⟨ih0, ih1, ih2, ih3⟩ := flagstonelaw10_HandleSets.mono_l k
  unfold flagstonelaw10_HandleSets.f
  repeat' first
      | (with_reducible exact ih0 _ _ _ _ _ _ _ _ _ _)
      | (with_reducible exact ih1 _ _ _ _ _ _ _ _ _ _ _ _)
      | (with_reducible exact ih2 _ _ _ _ _ _ _ _ _ _ _ _ _)
      | (with_reducible exact ih3 _ _ _ _ _ _ _ _ _ _ _ _ _ _ _ _ _ _ _ _ _ _ _ _ _ _ _ _ _ _ _ _ _ _ _ _)
      | (with_reducible exact flagstonelaw10_fine.mono _ _ _)
      | (with_reducible exact flagstonelaw10_shown.mono _)
      | (with_reducible exact LeO.refl _)
      | (with_reducible exact LeO.none _)
      | (with_reducible refine LeO.ite ?_ ?_)
      | (with_reducible refine LeO.bind ?_ (fun _ => ?_))
      | exact ih0 _ _ _ _ _ _ _ _ _ _
      | exact ih1 _ _ _ _ _ _ _ _ _ _ _ _
      | exact ih2 _ _ _ _ _ _ _ _ _ _ _ _ _
      | exact ih3 _ _ _ _ _ _ _ _ _ _ _ _ _ _ _ _ _ _ _ _ _ _ _ _ _ _ _ _ _ _ _ _ _ _ _ _
      | exact flagstonelaw10_fine.mono _ _ _
      | exact flagstonelaw10_shown.mono _
      | exact LeO.none _
      | refine LeO.ite ?_ ?_
      | refine LeO.bind ?_ (fun _ => ?_)
set_option maxHeartbeats 8000000 in
set_option maxRecDepth 100000 in
theorem flagstonelaw10_HandleSets.calls (k : Nat) (A0_0 : Option Addr) (c0_0 : Nat) (l0_0 : List (S38)) (A0_1 : Option Addr) (c0_1 : Nat) (l0_1 : List (List Int)) (a1 : Int) (a2_0 : Int) (a2_1 : Int) (a2_2 : Bool) (a2_3 : Bool) (a2_4 : Int) (a2_5 : Int) (r : Bool) (w : World) (hr0_0 : Kd.C k38 w A0_0 l0_0.length l0_0) (hc0_0 : l0_0.length ≤ c0_0) (hr0_1 : Kd.C (Kd.slice 3 (Kd.int .i64)) w A0_1 l0_1.length l0_1) (hc0_1 : l0_1.length ≤ c0_1) (h : flagstonelaw10_HandleSets.f k l0_0 l0_1 a1 a2_0 a2_1 a2_2 a2_3 a2_4 a2_5 = some r) :
    Calls Try.prog 9 #[.agg #[.slice A0_0 l0_0.length c0_0, .slice A0_1 l0_1.length c0_1], .int .i64 a1, .agg #[.int .i64 a2_0, .int .i64 a2_1, .bool a2_2, .bool a2_3, .int .i64 a2_4, .int .i64 a2_5]] w fun e w' => e = .returned (.bool r) ∧ Below w.heap.size w w' := by
  have hu25 := Try.underlying25
  have hu38 := Try.underlying38
  have HR0_0 := Aside0.mk hr0_0
  have HC0_0 := Aside0.mk hc0_0
  clear hr0_0 hc0_0
  have HR0_1 := Aside0.mk hr0_1
  have HC0_1 := Aside0.mk hc0_1
  clear hr0_1 hc0_1
  have HB := Aside0.mk (Below.refl w.heap.size w)
  have H : ((flagstonelaw10_fine.f k l0_0 l0_1).bind fun t849 => (if t849 = true then ((flagstonelaw10_shown.f k).bind fun t850 => (flagstonelaw10_HandleSets.j0 k a1 (!t850) l0_0 l0_1 a2_0 a2_1 a2_2 a2_3 a2_4 a2_5)) else (flagstonelaw10_HandleSets.j0 k a1 true l0_0 l0_1 a2_0 a2_1 a2_2 a2_3 a2_4 a2_5))) = some r := h
  clear h
  have HC4 := Aside0.mk H
  clear H
  go_enter Try.func9, Try.ntmps9
  go_upto_region 1 with (first | ((with_reducible refine gate_dst (N := 3) rfl ?_); refine box_event ?hg (N := 3) ?hd (cs := #[.slice A0_0 l0_0.length c0_0, .slice A0_1 l0_1.length c0_1]) (t := 25) ?hr ?_; (case hd => rfl); (case hg => rfl); (case hr => first | (go_simp; done) | (go_simp; rfl)); intro gb847 hg w5 hbox hb; have n0_ := Aside0.mk (below_step (by repeat (first | (with_reducible first | exact HB.out | apply below_alloc | apply pw_below_drewN | apply below_drew1) | exact HB.out)) hb); have n1_ := Aside0.mk (hbox); have n2_ := Aside0.mk ((by rw [hg]; exact (below_size (by repeat (first | (with_reducible first | exact HB.out | apply below_alloc | apply pw_below_drewN | apply below_drew1) | exact HB.out))) : w.heap.size ≤ gb847)); have n3_ := Aside0.mk ((by rw [hg]; exact (below_size (by repeat (first | (with_reducible first | exact HB.out | apply below_alloc | apply pw_below_drewN | apply below_drew1) | exact HB.out))) : w.heap.size ≤ gb847)); clear HB; have HB := n0_; have BK847 := n1_; have GW847 := n2_; have GE847 := n3_; clear n0_ n1_ n2_ n3_; clear hb hbox hg) | ((with_reducible refine gate_dst (N := 5) rfl ?_); refine box_event ?hg (N := 5) ?hd (cs := #[.int .i64 a2_0, .int .i64 a2_1, .bool a2_2, .bool a2_3, .int .i64 a2_4, .int .i64 a2_5]) (t := 38) ?hr ?_; (case hd => rfl); (case hg => rfl); (case hr => first | (go_simp; done) | (go_simp; rfl)); intro gb848 hg w6 hbox hb; have n0_ := Aside0.mk (blk_below (g := gb847) (o := .cells #[.slice A0_0 l0_0.length c0_0, .slice A0_1 l0_1.length c0_1] 25 (0, 0)) (by (with_reducible repeat (first | refine blk_drewN ?_ _ | refine blk_drew ?_ | refine blk_alloc ?_ _)); exact BK847.out) hb); have n1_ := Aside0.mk (below_step (by repeat (first | (with_reducible first | exact HB.out | apply below_alloc | apply pw_below_drewN | apply below_drew1 | refine below_set ?_ GE847.out) | exact HB.out)) hb); have n2_ := Aside0.mk (hbox); have n3_ := Aside0.mk ((by rw [hg]; exact (below_size (by repeat (first | (with_reducible first | exact HB.out | apply below_alloc | apply pw_below_drewN | apply below_drew1 | refine below_set ?_ GE847.out) | exact HB.out))) : w.heap.size ≤ gb848)); have n4_ := Aside0.mk ((by rw [hg]; exact (below_size (by repeat (first | (with_reducible first | exact HB.out | apply below_alloc | apply pw_below_drewN | apply below_drew1 | refine below_set ?_ GE847.out) | exact HB.out))) : w.heap.size ≤ gb848)); have n5_ := Aside0.mk ((by rw [hg]; exact Nat.ne_of_lt (blk_lt (g := gb847) (o := .cells #[.slice A0_0 l0_0.length c0_0, .slice A0_1 l0_1.length c0_1] 25 (0, 0)) (by (with_reducible repeat (first | refine blk_drewN ?_ _ | refine blk_drew ?_ | refine blk_alloc ?_ _)); exact BK847.out)) : gb847 ≠ gb848)); have n6_ := Aside0.mk ((by rw [hg]; exact Nat.ne_of_gt (blk_lt (g := gb847) (o := .cells #[.slice A0_0 l0_0.length c0_0, .slice A0_1 l0_1.length c0_1] 25 (0, 0)) (by (with_reducible repeat (first | refine blk_drewN ?_ _ | refine blk_drew ?_ | refine blk_alloc ?_ _)); exact BK847.out)) : gb848 ≠ gb847)); clear BK847; clear HB; have BK847 := n0_; have HB := n1_; have BK848 := n2_; have GW848 := n3_; have GE848 := n4_; have NB847_848 := n5_; have NB848_847 := n6_; clear n0_ n1_ n2_ n3_ n4_ n5_ n6_; clear hb hbox hg))
  (try simp only [Act.put, List.setIfInBounds_toArray, List.set_cons_zero, List.set_cons_succ])
  go_cut [23] (fun v23 wc => ∃ (kq : Nat) (x23_3 : Bool), v23 = .bool x23_3 ∧ Aside0 (flagstonelaw10_HandleSets.j0 kq a1 x23_3 l0_0 l0_1 a2_0 a2_1 a2_2 a2_3 a2_4 a2_5 = some r) ∧ Aside0 (kq ≤ k) ∧ Aside0 (wc.heap[gb847]? = some (.cells #[(.slice A0_0 l0_0.length c0_0), (.slice A0_1 l0_1.length c0_1)] 25 (0, 0))) ∧ Aside0 (wc.heap[gb848]? = some (.cells #[.int .i64 a2_0, .int .i64 a2_1, .bool a2_2, .bool a2_3, .int .i64 a2_4, .int .i64 a2_5] 38 (0, 0))) ∧ Aside0 (Below w.heap.size w wc))
  case first =>
    have H := HC4.out
    clear HC4
    replace H := Option.bind_eq_some_iff.mp H
    obtain ⟨t849, A70, H⟩ := H
    replace H : (if t849 = true then ((flagstonelaw10_shown.f k).bind fun t850 => (flagstonelaw10_HandleSets.j0 k a1 (!t850) l0_0 l0_1 a2_0 a2_1 a2_2 a2_3 a2_4 a2_5)) else (flagstonelaw10_HandleSets.j0 k a1 true l0_0 l0_1 a2_0 a2_1 a2_2 a2_3 a2_4 a2_5)) = some r := H
    have A7 := Aside0.mk A70
    clear A70
    by_cases c8 : t849 = true
    · subst c8
      have H1 : ((flagstonelaw10_shown.f k).bind fun t850 => (flagstonelaw10_HandleSets.j0 k a1 (!t850) l0_0 l0_1 a2_0 a2_1 a2_2 a2_3 a2_4 a2_5)) = some r := by rw [if_pos rfl] at H; exact H
      clear H
      have H := H1
      clear H1
      replace H := Option.bind_eq_some_iff.mp H
      obtain ⟨t850, A90, H⟩ := H
      replace H : (flagstonelaw10_HandleSets.j0 k a1 (!t850) l0_0 l0_1 a2_0 a2_1 a2_2 a2_3 a2_4 a2_5) = some r := H
      have A9 := Aside0.mk A90
      clear A90
      have H' := Aside0.mk H
      clear H
      have hnb10 := NB847_848.out
      have hnc10 := NB848_847.out
      have hcz11_0 : w6.cell? ⟨gb847, 0, none⟩ = some (.slice A0_0 l0_0.length c0_0) := (blk_cell BK847.out 0).trans rfl
      have hcz11_1 : w6.cell? ⟨gb847, 1, none⟩ = some (.slice A0_1 l0_1.length c0_1) := (blk_cell BK847.out 1).trans rfl
      have hfz11_0 := blk_frozen BK847.out 0
      have hfz11_1 := blk_frozen BK847.out 1
      go_wp2_with (first | ((with_reducible refine gate_callee (f := 18) rfl ?_); refine goesL_ (some 18) rfl rfl Try.func18 (by kernel_rfl) rfl #[.agg #[.slice A0_0 l0_0.length c0_0, .slice A0_1 l0_1.length c0_1]] rfl (by (try simp only [List.map_toArray, List.map_cons, List.map_nil]); first | done | rfl | (simp only [List.length_drop, List.length_take]; rfl)) ?_; (with_reducible refine (flagstonelaw10_fine.calls k _ _ l0_0 _ _ l0_1 true _ ?side1 ?side2 ?side3 ?side4 A7.out).mono ?_); (case side1 => repeat (first | exact (Kd.C_below HR0_0.out HB.out) | (with_reducible refine Kd.C_alloc ?_ _) | (with_reducible refine Kd.C_drewN ?_ _) | (with_reducible refine Kd.C_drew ?_))); (case side2 => exact HC0_0.out); (case side3 => repeat (first | exact (Kd.C_below HR0_1.out HB.out) | (with_reducible refine Kd.C_alloc ?_ _) | (with_reducible refine Kd.C_drewN ?_ _) | (with_reducible refine Kd.C_drew ?_))); (case side4 => exact HC0_1.out); rintro e w12 ⟨rfl, hb⟩; refine ⟨_, rfl, ?_⟩; have n0_ := Aside0.mk (blk_below (g := gb847) (o := .cells #[.slice A0_0 l0_0.length c0_0, .slice A0_1 l0_1.length c0_1] 25 (0, 0)) (by (with_reducible repeat (first | refine blk_drewN ?_ _ | refine blk_drew ?_ | refine blk_alloc ?_ _)); exact BK847.out) hb); have n1_ := Aside0.mk (blk_below (g := gb848) (o := .cells #[.int .i64 a2_0, .int .i64 a2_1, .bool a2_2, .bool a2_3, .int .i64 a2_4, .int .i64 a2_5] 38 (0, 0)) (by (with_reducible repeat (first | refine blk_drewN ?_ _ | refine blk_drew ?_ | refine blk_alloc ?_ _)); exact BK848.out) hb); have n2_ := Aside0.mk (below_step (by repeat (first | (with_reducible first | exact HB.out | apply below_alloc | apply pw_below_drewN | apply below_drew1 | refine below_set ?_ GE847.out | refine below_set ?_ GE848.out) | exact HB.out)) hb); clear BK847; clear BK848; clear HB; have BK847 := n0_; have BK848 := n1_; have HB := n2_; clear n0_ n1_ n2_; (try clear hb); (try clear hb2); (try clear hk); (try clear hi)) | (go_at_call 11; (with_reducible refine (flagstonelaw10_shown.calls k  t850 _ A9.out).mono ?_); rintro e w13 ⟨rfl, hb⟩; have n0_ := Aside0.mk (blk_below (g := gb847) (o := .cells #[.slice A0_0 l0_0.length c0_0, .slice A0_1 l0_1.length c0_1] 25 (0, 0)) (by (with_reducible repeat (first | refine blk_drewN ?_ _ | refine blk_drew ?_ | refine blk_alloc ?_ _)); exact BK847.out) hb); have n1_ := Aside0.mk (blk_below (g := gb848) (o := .cells #[.int .i64 a2_0, .int .i64 a2_1, .bool a2_2, .bool a2_3, .int .i64 a2_4, .int .i64 a2_5] 38 (0, 0)) (by (with_reducible repeat (first | refine blk_drewN ?_ _ | refine blk_drew ?_ | refine blk_alloc ?_ _)); exact BK848.out) hb); have n2_ := Aside0.mk (below_step (by repeat (first | (with_reducible first | exact HB.out | apply below_alloc | apply pw_below_drewN | apply below_drew1 | refine below_set ?_ GE847.out | refine below_set ?_ GE848.out) | exact HB.out)) hb); clear BK847; clear BK848; clear HB; have BK847 := n0_; have BK848 := n1_; have HB := n2_; clear n0_ n1_ n2_; (try clear hb); (try clear hb2); (try clear hk); (try clear hi)))
      go_meet
      case rel => exact ⟨_, (!t850), (by first | rfl | (simp; done) | (simp [*]; done)), H', ⟨by first | omega | exact Nat.le_refl _⟩, ⟨by (with_reducible repeat (first | refine blk_drewN ?_ _ | refine blk_drew ?_ | refine blk_alloc ?_ _)); exact BK847.out⟩, ⟨by (with_reducible repeat (first | refine blk_drewN ?_ _ | refine blk_drew ?_ | refine blk_alloc ?_ _)); exact BK848.out⟩, ⟨by repeat (first | (with_reducible first | exact HB.out | apply below_alloc | apply pw_below_drewN | apply below_drew1 | refine below_set ?_ GE847.out | refine below_set ?_ GE848.out) | exact HB.out)⟩⟩
    · replace c8 := Bool.eq_false_iff.mpr c8
      subst c8
      have H1 : (flagstonelaw10_HandleSets.j0 k a1 true l0_0 l0_1 a2_0 a2_1 a2_2 a2_3 a2_4 a2_5) = some r := by rw [if_neg (show ¬ (false = true) by decide)] at H; exact H
      clear H
      have H := H1
      clear H1
      have H' := Aside0.mk H
      clear H
      have hnb14 := NB847_848.out
      have hnc14 := NB848_847.out
      have hcz15_0 : w6.cell? ⟨gb847, 0, none⟩ = some (.slice A0_0 l0_0.length c0_0) := (blk_cell BK847.out 0).trans rfl
      have hcz15_1 : w6.cell? ⟨gb847, 1, none⟩ = some (.slice A0_1 l0_1.length c0_1) := (blk_cell BK847.out 1).trans rfl
      have hfz15_0 := blk_frozen BK847.out 0
      have hfz15_1 := blk_frozen BK847.out 1
      go_wp2_with (first | ((with_reducible refine gate_callee (f := 18) rfl ?_); refine goesL_ (some 18) rfl rfl Try.func18 (by kernel_rfl) rfl #[.agg #[.slice A0_0 l0_0.length c0_0, .slice A0_1 l0_1.length c0_1]] rfl (by (try simp only [List.map_toArray, List.map_cons, List.map_nil]); first | done | rfl | (simp only [List.length_drop, List.length_take]; rfl)) ?_; (with_reducible refine (flagstonelaw10_fine.calls k _ _ l0_0 _ _ l0_1 false _ ?side1 ?side2 ?side3 ?side4 A7.out).mono ?_); (case side1 => repeat (first | exact (Kd.C_below HR0_0.out HB.out) | (with_reducible refine Kd.C_alloc ?_ _) | (with_reducible refine Kd.C_drewN ?_ _) | (with_reducible refine Kd.C_drew ?_))); (case side2 => exact HC0_0.out); (case side3 => repeat (first | exact (Kd.C_below HR0_1.out HB.out) | (with_reducible refine Kd.C_alloc ?_ _) | (with_reducible refine Kd.C_drewN ?_ _) | (with_reducible refine Kd.C_drew ?_))); (case side4 => exact HC0_1.out); rintro e w16 ⟨rfl, hb⟩; refine ⟨_, rfl, ?_⟩; have n0_ := Aside0.mk (blk_below (g := gb847) (o := .cells #[.slice A0_0 l0_0.length c0_0, .slice A0_1 l0_1.length c0_1] 25 (0, 0)) (by (with_reducible repeat (first | refine blk_drewN ?_ _ | refine blk_drew ?_ | refine blk_alloc ?_ _)); exact BK847.out) hb); have n1_ := Aside0.mk (blk_below (g := gb848) (o := .cells #[.int .i64 a2_0, .int .i64 a2_1, .bool a2_2, .bool a2_3, .int .i64 a2_4, .int .i64 a2_5] 38 (0, 0)) (by (with_reducible repeat (first | refine blk_drewN ?_ _ | refine blk_drew ?_ | refine blk_alloc ?_ _)); exact BK848.out) hb); have n2_ := Aside0.mk (below_step (by repeat (first | (with_reducible first | exact HB.out | apply below_alloc | apply pw_below_drewN | apply below_drew1 | refine below_set ?_ GE847.out | refine below_set ?_ GE848.out) | exact HB.out)) hb); clear BK847; clear BK848; clear HB; have BK847 := n0_; have BK848 := n1_; have HB := n2_; clear n0_ n1_ n2_; (try clear hb); (try clear hb2); (try clear hk); (try clear hi)))
      go_meet
      case rel => exact ⟨_, (true), (by first | rfl | (simp; done) | (simp [*]; done)), H', ⟨by first | omega | exact Nat.le_refl _⟩, ⟨by (with_reducible repeat (first | refine blk_drewN ?_ _ | refine blk_drew ?_ | refine blk_alloc ?_ _)); exact BK847.out⟩, ⟨by (with_reducible repeat (first | refine blk_drewN ?_ _ | refine blk_drew ?_ | refine blk_alloc ?_ _)); exact BK848.out⟩, ⟨by repeat (first | (with_reducible first | exact HB.out | apply below_alloc | apply pw_below_drewN | apply below_drew1 | refine below_set ?_ GE847.out | refine below_set ?_ GE848.out) | exact HB.out)⟩⟩
  case rest =>
    clear HC4
    try clear c1
    try clear p2
    try clear c8
    try clear c9
    try clear c10
    try clear c14
    try clear hcz11_0
    try clear hcz11_1
    try clear hcz15_0
    try clear hcz15_1
    try clear hfz11_0
    try clear hfz11_1
    try clear hfz15_0
    try clear hfz15_1
    obtain ⟨kq, x23_3, rfl, HA, HJ3, BK847, BK848, HB⟩ := hcut
    cases kq with
    | zero => exact absurd HA.out (by simp [flagstonelaw10_HandleSets.j0])
    | succ kj3 =>
      have H := HA.out
      clear HA
      simp only [flagstonelaw10_HandleSets.j0] at H
      by_cases c17 : x23_3 = true
      · subst c17
        have H1 : ((flagstonelaw10_shown.f kj3).bind fun t851 => (some t851)) = some r := by rw [if_pos rfl] at H; exact H
        clear H
        have H := H1
        clear H1
        replace H := Option.bind_eq_some_iff.mp H
        obtain ⟨t851, A180, H⟩ := H
        replace H : (some t851) = some r := H
        have A18 := Aside0.mk A180
        clear A180
        obtain rfl := Option.some.inj H
        go_wp2_with (first | ((with_reducible refine gate_callee (f := 11) rfl ?_); refine goesL_ (some 24) rfl rfl Try.func11 (by kernel_rfl) rfl #[] rfl (by (try simp only [List.map_toArray, List.map_cons, List.map_nil]); first | done | rfl | (simp only [List.length_drop, List.length_take]; rfl)) ?_; (with_reducible refine (flagstonelaw10_shown.calls kj3  t851 _ A18.out).mono ?_); rintro e w19 ⟨rfl, hb⟩; refine ⟨_, rfl, ?_⟩; have n0_ := Aside0.mk (blk_below (g := gb847) (o := .cells #[.slice A0_0 l0_0.length c0_0, .slice A0_1 l0_1.length c0_1] 25 (0, 0)) (by (with_reducible repeat (first | refine blk_drewN ?_ _ | refine blk_drew ?_ | refine blk_alloc ?_ _)); exact BK847.out) hb); have n1_ := Aside0.mk (blk_below (g := gb848) (o := .cells #[.int .i64 a2_0, .int .i64 a2_1, .bool a2_2, .bool a2_3, .int .i64 a2_4, .int .i64 a2_5] 38 (0, 0)) (by (with_reducible repeat (first | refine blk_drewN ?_ _ | refine blk_drew ?_ | refine blk_alloc ?_ _)); exact BK848.out) hb); have n2_ := Aside0.mk (below_step (by repeat (first | (with_reducible first | exact HB.out | apply below_alloc | apply pw_below_drewN | apply below_drew1 | refine below_set ?_ GE847.out | refine below_set ?_ GE848.out) | exact HB.out)) hb); clear BK847; clear BK848; clear HB; have BK847 := n0_; have BK848 := n1_; have HB := n2_; clear n0_ n1_ n2_; (try clear hb); (try clear hb2); (try clear hk); (try clear hi)))
        go_ret
        exact ⟨by first | rfl | (simp [errW_none, errW_some] <;> rfl) | (simp [*, errW_none, errW_some] <;> rfl), by repeat (first | (with_reducible first | exact HB.out | apply below_alloc | apply pw_below_drewN | apply below_drew1 | refine below_set ?_ GE847.out | refine below_set ?_ GE848.out) | exact HB.out)⟩
      · replace c17 := Bool.eq_false_iff.mpr c17
        subst c17
        have H1 : ((handle_Set.f l0_0 l0_1 a1 a2_0 a2_1 a2_2 a2_3 a2_4 a2_5).bind fun bt852 => (flagstonelaw10_HandleSets.l0 kj3 a1 0 l0_0 l0_1 a2_0 a2_1 a2_2 a2_3 a2_4 a2_5 bt852.1 bt852.2)) = some r := by rw [if_neg (show ¬ (false = true) by decide)] at H; exact H
        clear H
        have H := H1
        clear H1
        replace H := Option.bind_eq_some_iff.mp H
        obtain ⟨⟨t852, t855⟩, A200, H⟩ := H
        replace H : (flagstonelaw10_HandleSets.l0 kj3 a1 0 l0_0 l0_1 a2_0 a2_1 a2_2 a2_3 a2_4 a2_5 t852 t855) = some r := H
        have A20 := Aside0.mk A200
        clear A200
        have H' := Aside0.mk H
        clear H
        have hnb21 := NB847_848.out
        have hnc21 := NB848_847.out
        have hcz22_0 : wc.cell? ⟨gb847, 0, none⟩ = some (.slice A0_0 l0_0.length c0_0) := (blk_cell BK847.out 0).trans rfl
        have hcz22_1 : wc.cell? ⟨gb847, 1, none⟩ = some (.slice A0_1 l0_1.length c0_1) := (blk_cell BK847.out 1).trans rfl
        have hfz22_0 := blk_frozen BK847.out 0
        have hfz22_1 := blk_frozen BK847.out 1
        have hcz23_0 : wc.cell? ⟨gb848, 0, none⟩ = some (.int .i64 a2_0) := (blk_cell BK848.out 0).trans rfl
        have hcz23_1 : wc.cell? ⟨gb848, 1, none⟩ = some (.int .i64 a2_1) := (blk_cell BK848.out 1).trans rfl
        have hcz23_2 : wc.cell? ⟨gb848, 2, none⟩ = some (.bool a2_2) := (blk_cell BK848.out 2).trans rfl
        have hcz23_3 : wc.cell? ⟨gb848, 3, none⟩ = some (.bool a2_3) := (blk_cell BK848.out 3).trans rfl
        have hcz23_4 : wc.cell? ⟨gb848, 4, none⟩ = some (.int .i64 a2_4) := (blk_cell BK848.out 4).trans rfl
        have hcz23_5 : wc.cell? ⟨gb848, 5, none⟩ = some (.int .i64 a2_5) := (blk_cell BK848.out 5).trans rfl
        have hfz23_0 := blk_frozen BK848.out 0
        have hfz23_1 := blk_frozen BK848.out 1
        have hfz23_2 := blk_frozen BK848.out 2
        have hfz23_3 := blk_frozen BK848.out 3
        have hfz23_4 := blk_frozen BK848.out 4
        have hfz23_5 := blk_frozen BK848.out 5
        go_wp2_with (first | ((with_reducible refine gate_callee (f := 30) rfl ?_); refine goesL_ (some 28) rfl rfl Try.func30 (by kernel_rfl) rfl #[.agg #[.slice A0_0 l0_0.length c0_0, .slice A0_1 l0_1.length c0_1], .int .i64 a1, .agg #[.int .i64 a2_0, .int .i64 a2_1, .bool a2_2, .bool a2_3, .int .i64 a2_4, .int .i64 a2_5]] rfl (by (try simp only [List.map_toArray, List.map_cons, List.map_nil]); first | done | rfl | (simp only [List.length_drop, List.length_take]; rfl)) ?_; (with_reducible refine (handle_Set.calls (fun k_ => k_ < w.heap.size) _ _ l0_0 (fun k_ => k_ < w.heap.size) _ _ l0_1 a1 a2_0 a2_1 a2_2 a2_3 a2_4 a2_5 t852 t855 _ ?side1 ?side2 A20.out).mono ?_); (case side1 => exact Kd.V_mk HC0_0.out (Kd.F_below (Kd.C_F k38_heap HR0_0.out) (by repeat (first | (with_reducible first | exact HB.out | apply below_alloc | apply pw_below_drewN | apply below_drew1 | refine below_set ?_ GE847.out | refine below_set ?_ GE848.out) | exact HB.out)))); (case side2 => exact Kd.V_mk HC0_1.out (Kd.F_below (Kd.C_F (Kd.heap_slice 3 (Kd.heap_int .i64)) HR0_1.out) (by repeat (first | (with_reducible first | exact HB.out | apply below_alloc | apply pw_below_drewN | apply below_drew1 | refine below_set ?_ GE847.out | refine below_set ?_ GE848.out) | exact HB.out)))); rintro e w24 ⟨v853, v856, rfl, ho0, ho1, hb⟩; refine ⟨_, rfl, ?_⟩; have n0_ := Aside0.mk (Kd.V_lower (Kd.V_mono (ok' := fun k_ => k_ ≠ gb847 ∧ k_ ≠ gb848) ho0 (fun k_ hk_ => ⟨Or.elim hk_ (fun hs_ => Or.elim hs_ (fun hs_ => fun e_ => Nat.not_le.2 hs_ (by rw [e_]; exact GW847.out)) (fun hs_ => fun e_ => Nat.not_le.2 hs_ (by rw [e_]; exact GW847.out))) (fun hn_ => (Kd.freshB (g := gb847) (o := .cells #[.slice A0_0 l0_0.length c0_0, .slice A0_1 l0_1.length c0_1] 25 (0, 0)) (by (with_reducible repeat (first | refine blk_drewN ?_ _ | refine blk_drew ?_ | refine blk_alloc ?_ _)); exact BK847.out) k_ hn_)), Or.elim hk_ (fun hs_ => Or.elim hs_ (fun hs_ => fun e_ => Nat.not_le.2 hs_ (by rw [e_]; exact GW848.out)) (fun hs_ => fun e_ => Nat.not_le.2 hs_ (by rw [e_]; exact GW848.out))) (fun hn_ => (Kd.freshB (g := gb848) (o := .cells #[.int .i64 a2_0, .int .i64 a2_1, .bool a2_2, .bool a2_3, .int .i64 a2_4, .int .i64 a2_5] 38 (0, 0)) (by (with_reducible repeat (first | refine blk_drewN ?_ _ | refine blk_drew ?_ | refine blk_alloc ?_ _)); exact BK848.out) k_ hn_))⟩)) (below_size (by repeat (first | (with_reducible first | exact HB.out | apply below_alloc | apply pw_below_drewN | apply below_drew1 | refine below_set ?_ GE847.out | refine below_set ?_ GE848.out) | exact HB.out)))); have n1_ := Aside0.mk (Kd.V_lower (Kd.V_mono (ok' := fun k_ => k_ ≠ gb847 ∧ k_ ≠ gb848) ho1 (fun k_ hk_ => ⟨Or.elim hk_ (fun hs_ => Or.elim hs_ (fun hs_ => fun e_ => Nat.not_le.2 hs_ (by rw [e_]; exact GW847.out)) (fun hs_ => fun e_ => Nat.not_le.2 hs_ (by rw [e_]; exact GW847.out))) (fun hn_ => (Kd.freshB (g := gb847) (o := .cells #[.slice A0_0 l0_0.length c0_0, .slice A0_1 l0_1.length c0_1] 25 (0, 0)) (by (with_reducible repeat (first | refine blk_drewN ?_ _ | refine blk_drew ?_ | refine blk_alloc ?_ _)); exact BK847.out) k_ hn_)), Or.elim hk_ (fun hs_ => Or.elim hs_ (fun hs_ => fun e_ => Nat.not_le.2 hs_ (by rw [e_]; exact GW848.out)) (fun hs_ => fun e_ => Nat.not_le.2 hs_ (by rw [e_]; exact GW848.out))) (fun hn_ => (Kd.freshB (g := gb848) (o := .cells #[.int .i64 a2_0, .int .i64 a2_1, .bool a2_2, .bool a2_3, .int .i64 a2_4, .int .i64 a2_5] 38 (0, 0)) (by (with_reducible repeat (first | refine blk_drewN ?_ _ | refine blk_drew ?_ | refine blk_alloc ?_ _)); exact BK848.out) k_ hn_))⟩)) (below_size (by repeat (first | (with_reducible first | exact HB.out | apply below_alloc | apply pw_below_drewN | apply below_drew1 | refine below_set ?_ GE847.out | refine below_set ?_ GE848.out) | exact HB.out)))); have n2_ := Aside0.mk (blk_below (g := gb847) (o := .cells #[.slice A0_0 l0_0.length c0_0, .slice A0_1 l0_1.length c0_1] 25 (0, 0)) (by (with_reducible repeat (first | refine blk_drewN ?_ _ | refine blk_drew ?_ | refine blk_alloc ?_ _)); exact BK847.out) hb); have n3_ := Aside0.mk (blk_below (g := gb848) (o := .cells #[.int .i64 a2_0, .int .i64 a2_1, .bool a2_2, .bool a2_3, .int .i64 a2_4, .int .i64 a2_5] 38 (0, 0)) (by (with_reducible repeat (first | refine blk_drewN ?_ _ | refine blk_drew ?_ | refine blk_alloc ?_ _)); exact BK848.out) hb); have n4_ := Aside0.mk (below_step (by repeat (first | (with_reducible first | exact HB.out | apply below_alloc | apply pw_below_drewN | apply below_drew1 | refine below_set ?_ GE847.out | refine below_set ?_ GE848.out) | exact HB.out)) hb); clear BK847; clear BK848; clear HB; have HO854 := n0_; have HO857 := n1_; have BK847 := n2_; have BK848 := n3_; have HB := n4_; clear n0_ n1_ n2_ n3_ n4_; (try clear hb); (try clear hb2); (try clear hk); (try clear hi); (try clear ho0); (try clear ho1)) | ((with_reducible refine gate_dst (N := 7) rfl ?_); refine box_event ?hg (N := 7) ?hd (cs := #[.slice none 0 0, .slice none 0 0]) (t := 25) ?hr ?_; (case hd => rfl); (case hg => rfl); (case hr => first | (go_simp; done) | (go_simp; rfl)); intro gb858 hg w25 hbox hb; have n0_ := Aside0.mk (Kd.V_below (Kd.V_elderB (by (with_reducible repeat (first | apply Kd.V_alloc | apply Kd.V_drewN | apply Kd.V_drew)); exact HO854.out) gb858 (Nat.le_of_eq hg.symm)) hb); have n1_ := Aside0.mk (Kd.V_below (Kd.V_elderB (by (with_reducible repeat (first | apply Kd.V_alloc | apply Kd.V_drewN | apply Kd.V_drew)); exact HO857.out) gb858 (Nat.le_of_eq hg.symm)) hb); have n2_ := Aside0.mk (blk_below (g := gb847) (o := .cells #[.slice A0_0 l0_0.length c0_0, .slice A0_1 l0_1.length c0_1] 25 (0, 0)) (by (with_reducible repeat (first | refine blk_drewN ?_ _ | refine blk_drew ?_ | refine blk_alloc ?_ _)); exact BK847.out) hb); have n3_ := Aside0.mk (blk_below (g := gb848) (o := .cells #[.int .i64 a2_0, .int .i64 a2_1, .bool a2_2, .bool a2_3, .int .i64 a2_4, .int .i64 a2_5] 38 (0, 0)) (by (with_reducible repeat (first | refine blk_drewN ?_ _ | refine blk_drew ?_ | refine blk_alloc ?_ _)); exact BK848.out) hb); have n4_ := Aside0.mk (below_step (by repeat (first | (with_reducible first | exact HB.out | apply below_alloc | apply pw_below_drewN | apply below_drew1 | refine below_set ?_ GE847.out | refine below_set ?_ GE848.out) | exact HB.out)) hb); have n5_ := Aside0.mk (hbox); have n6_ := Aside0.mk ((by rw [hg]; exact (below_size (by repeat (first | (with_reducible first | exact HB.out | apply below_alloc | apply pw_below_drewN | apply below_drew1 | refine below_set ?_ GE847.out | refine below_set ?_ GE848.out) | exact HB.out))) : w.heap.size ≤ gb858)); have n7_ := Aside0.mk ((by rw [hg]; exact (below_size (by repeat (first | (with_reducible first | exact HB.out | apply below_alloc | apply pw_below_drewN | apply below_drew1 | refine below_set ?_ GE847.out | refine below_set ?_ GE848.out) | exact HB.out))) : w.heap.size ≤ gb858)); have n8_ := Aside0.mk ((by rw [hg]; exact Nat.ne_of_lt (blk_lt (g := gb847) (o := .cells #[.slice A0_0 l0_0.length c0_0, .slice A0_1 l0_1.length c0_1] 25 (0, 0)) (by (with_reducible repeat (first | refine blk_drewN ?_ _ | refine blk_drew ?_ | refine blk_alloc ?_ _)); exact BK847.out)) : gb847 ≠ gb858)); have n9_ := Aside0.mk ((by rw [hg]; exact Nat.ne_of_gt (blk_lt (g := gb847) (o := .cells #[.slice A0_0 l0_0.length c0_0, .slice A0_1 l0_1.length c0_1] 25 (0, 0)) (by (with_reducible repeat (first | refine blk_drewN ?_ _ | refine blk_drew ?_ | refine blk_alloc ?_ _)); exact BK847.out)) : gb858 ≠ gb847)); have n10_ := Aside0.mk ((by rw [hg]; exact Nat.ne_of_lt (blk_lt (g := gb848) (o := .cells #[.int .i64 a2_0, .int .i64 a2_1, .bool a2_2, .bool a2_3, .int .i64 a2_4, .int .i64 a2_5] 38 (0, 0)) (by (with_reducible repeat (first | refine blk_drewN ?_ _ | refine blk_drew ?_ | refine blk_alloc ?_ _)); exact BK848.out)) : gb848 ≠ gb858)); have n11_ := Aside0.mk ((by rw [hg]; exact Nat.ne_of_gt (blk_lt (g := gb848) (o := .cells #[.int .i64 a2_0, .int .i64 a2_1, .bool a2_2, .bool a2_3, .int .i64 a2_4, .int .i64 a2_5] 38 (0, 0)) (by (with_reducible repeat (first | refine blk_drewN ?_ _ | refine blk_drew ?_ | refine blk_alloc ?_ _)); exact BK848.out)) : gb858 ≠ gb848)); clear HO854; clear HO857; clear BK847; clear BK848; clear HB; have HO854 := n0_; have HO857 := n1_; have BK847 := n2_; have BK848 := n3_; have HB := n4_; have BK858 := n5_; have GW858 := n6_; have GE858 := n7_; have NB847_858 := n8_; have NB858_847 := n9_; have NB848_858 := n10_; have NB858_848 := n11_; clear n0_ n1_ n2_ n3_ n4_ n5_ n6_ n7_ n8_ n9_ n10_ n11_; clear hb hbox hg; obtain ⟨Ao26, co26, eo26⟩ := Kd.V_slice HO854.out; subst eo26; have hnb27 := NB858_847.out; have hnc27 := NB847_858.out; have hnb28 := NB858_848.out; have hnc28 := NB848_858.out; have hcz29_0 : w25.cell? ⟨gb858, 0, none⟩ = some (.slice none 0 0) := (blk_cell BK858.out 0).trans rfl; have hcz29_1 : w25.cell? ⟨gb858, 1, none⟩ = some (.slice none 0 0) := (blk_cell BK858.out 1).trans rfl; have hfz29_0 := blk_frozen BK858.out 0; have hfz29_1 := blk_frozen BK858.out 1; obtain ⟨Ao30, co30, eo30⟩ := Kd.V_slice HO857.out; subst eo30))
        go_loopg [8] kj3 (fun kq v8 w' => ∃ (x8_2 : Int), v8 = .int .i64 x8_2 ∧ Aside0 (flagstonelaw10_HandleSets.l0 kq a1 x8_2 l0_0 l0_1 a2_0 a2_1 a2_2 a2_3 a2_4 a2_5 t852 t855 = some r) ∧ Aside0 (kq ≤ kj3) ∧ Aside0 (Kd.V k38 38 w' w.heap.size (fun k_ => k_ ≠ gb847 ∧ k_ ≠ gb848 ∧ k_ ≠ gb858) (.slice Ao26 t852.length co26) t852) ∧ Aside0 (Kd.V (Kd.slice 3 (Kd.int .i64)) 64 w' w.heap.size (fun k_ => k_ ≠ gb847 ∧ k_ ≠ gb848 ∧ k_ ≠ gb858) (.slice Ao30 t855.length co30) t855) ∧ Aside0 (w'.heap[gb847]? = some (.cells #[(.slice A0_0 l0_0.length c0_0), (.slice A0_1 l0_1.length c0_1)] 25 (0, 0))) ∧ Aside0 (w'.heap[gb848]? = some (.cells #[.int .i64 a2_0, .int .i64 a2_1, .bool a2_2, .bool a2_3, .int .i64 a2_4, .int .i64 a2_5] 38 (0, 0))) ∧ Aside0 (w'.heap[gb858]? = some (.cells #[(.slice Ao26 t852.length co26), (.slice Ao30 t855.length co30)] 25 (0, 0))) ∧ Aside0 (Below w.heap.size w w'))
        case atStart => exact ⟨(0), (by first | rfl | (simp; done) | (simp [*]; done)), H', ⟨Nat.le_refl _⟩, ⟨by (with_reducible repeat (first | apply Kd.V_alloc | apply Kd.V_drewN | apply Kd.V_drew)); exact Kd.V_mono (Kd.V_far (p := ⟨gb858, 1, none⟩) (Kd.V_far (p := ⟨gb858, 0, none⟩) (Kd.V_mono HO854.out (fun k_ hk => (⟨hk, hk.2⟩ : _ ∧ k_ ≠ gb858))) (fun _ hk => hk.2) (.slice Ao26 t852.length co26)) (fun _ hk => hk.2) (.slice Ao30 t855.length co30)) (fun _ hk => ⟨hk.1.1.1, ⟨hk.1.1.2, hk.1.2⟩⟩)⟩, ⟨by (with_reducible repeat (first | apply Kd.V_alloc | apply Kd.V_drewN | apply Kd.V_drew)); exact Kd.V_mono (Kd.V_far (p := ⟨gb858, 1, none⟩) (Kd.V_far (p := ⟨gb858, 0, none⟩) (Kd.V_mono HO857.out (fun k_ hk => (⟨hk, hk.2⟩ : _ ∧ k_ ≠ gb858))) (fun _ hk => hk.2) (.slice Ao26 t852.length co26)) (fun _ hk => hk.2) (.slice Ao30 t855.length co30)) (fun _ hk => ⟨hk.1.1.1, ⟨hk.1.1.2, hk.1.2⟩⟩)⟩, ⟨by (with_reducible repeat (first | refine blk_drewN ?_ _ | refine blk_drew ?_ | refine blk_alloc ?_ _)); refine blk_far ?_ NB847_858.out _; (with_reducible repeat (first | refine blk_drewN ?_ _ | refine blk_drew ?_ | refine blk_alloc ?_ _)); refine blk_far ?_ NB847_858.out _; (with_reducible repeat (first | refine blk_drewN ?_ _ | refine blk_drew ?_ | refine blk_alloc ?_ _)); exact BK847.out⟩, ⟨by (with_reducible repeat (first | refine blk_drewN ?_ _ | refine blk_drew ?_ | refine blk_alloc ?_ _)); refine blk_far ?_ NB848_858.out _; (with_reducible repeat (first | refine blk_drewN ?_ _ | refine blk_drew ?_ | refine blk_alloc ?_ _)); refine blk_far ?_ NB848_858.out _; (with_reducible repeat (first | refine blk_drewN ?_ _ | refine blk_drew ?_ | refine blk_alloc ?_ _)); exact BK848.out⟩, ⟨by (with_reducible repeat (first | refine blk_drewN ?_ _ | refine blk_drew ?_ | refine blk_alloc ?_ _)); refine blk_put (cs := #[.slice Ao26 t852.length co26, .slice none 0 0]) ?_ 1 _ rfl; (with_reducible repeat (first | refine blk_drewN ?_ _ | refine blk_drew ?_ | refine blk_alloc ?_ _)); refine blk_put (cs := #[.slice none 0 0, .slice none 0 0]) ?_ 0 _ rfl; (with_reducible repeat (first | refine blk_drewN ?_ _ | refine blk_drew ?_ | refine blk_alloc ?_ _)); exact BK858.out⟩, ⟨by repeat (first | (with_reducible first | exact HB.out | apply below_alloc | apply pw_below_drewN | apply below_drew1 | refine below_set ?_ GE847.out | refine below_set ?_ GE848.out | refine below_set ?_ GE858.out) | exact HB.out)⟩⟩
        case round =>
          clear H'
          try clear c1
          try clear c2
          try clear p2
          try clear c3
          try clear c8
          try clear c9
          try clear c10
          try clear c11
          try clear c14
          try clear c17
          try clear c18
          try clear c21
          try clear c27
          try clear c28
          try clear c30
          try clear hcz11_0
          try clear hcz11_1
          try clear hcz15_0
          try clear hcz15_1
          try clear hcz22_0
          try clear hcz22_1
          try clear hcz23_0
          try clear hcz23_1
          try clear hcz23_2
          try clear hcz23_3
          try clear hcz23_4
          try clear hcz23_5
          try clear hcz29_0
          try clear hcz29_1
          try clear hfz11_0
          try clear hfz11_1
          try clear hfz15_0
          try clear hfz15_1
          try clear hfz22_0
          try clear hfz22_1
          try clear hfz23_0
          try clear hfz23_1
          try clear hfz23_2
          try clear hfz23_3
          try clear hfz23_4
          try clear hfz23_5
          try clear hfz29_0
          try clear hfz29_1
          try clear p2
          obtain ⟨x8_2, rfl, HA, HK2, HO_859000, HO_859001, BK847, BK848, BK858, HB⟩ := hrel
          cases gk with
          | zero => exact absurd HA.out (by simp [flagstonelaw10_HandleSets.l0])
          | succ k2 =>
            have H := HA.out
            clear HA
            simp only [flagstonelaw10_HandleSets.l0] at H
            by_cases c31 : x8_2 < (l0_1.length : Int)
            · rw [if_pos c31] at H
              have c31b0 : decide (x8_2 < (l0_1.length : Int)) = true := decide_eq_true c31
              clear c31
              have H' := Aside0.mk H
              clear H
              have hnb32 := NB847_848.out
              have hnc32 := NB848_847.out
              have hnb33 := NB847_858.out
              have hnc33 := NB858_847.out
              have hcz34_0 : wr.cell? ⟨gb847, 0, none⟩ = some (.slice A0_0 l0_0.length c0_0) := (blk_cell BK847.out 0).trans rfl
              have hcz34_1 : wr.cell? ⟨gb847, 1, none⟩ = some (.slice A0_1 l0_1.length c0_1) := (blk_cell BK847.out 1).trans rfl
              have hfz34_0 := blk_frozen BK847.out 0
              have hfz34_1 := blk_frozen BK847.out 1
              go_wp2
              go_loopg [9] k2 (fun kq v9 w' => ∃ (x9_3 : Int), v9 = .int .i64 x9_3 ∧ Aside0 (flagstonelaw10_HandleSets.l1 kq a1 x8_2 x9_3 l0_0 l0_1 a2_0 a2_1 a2_2 a2_3 a2_4 a2_5 t852 t855 = some r) ∧ Aside0 (kq ≤ k2) ∧ Aside0 (Kd.V k38 38 w' w.heap.size (fun k_ => k_ ≠ gb847 ∧ k_ ≠ gb848 ∧ k_ ≠ gb858) (.slice Ao26 t852.length co26) t852) ∧ Aside0 (Kd.V (Kd.slice 3 (Kd.int .i64)) 64 w' w.heap.size (fun k_ => k_ ≠ gb847 ∧ k_ ≠ gb848 ∧ k_ ≠ gb858) (.slice Ao30 t855.length co30) t855) ∧ Aside0 (w'.heap[gb847]? = some (.cells #[(.slice A0_0 l0_0.length c0_0), (.slice A0_1 l0_1.length c0_1)] 25 (0, 0))) ∧ Aside0 (w'.heap[gb848]? = some (.cells #[.int .i64 a2_0, .int .i64 a2_1, .bool a2_2, .bool a2_3, .int .i64 a2_4, .int .i64 a2_5] 38 (0, 0))) ∧ Aside0 (w'.heap[gb858]? = some (.cells #[(.slice Ao26 t852.length co26), (.slice Ao30 t855.length co30)] 25 (0, 0))) ∧ Aside0 (Below w.heap.size w w'))
              case atStart => exact ⟨(0), (by first | rfl | (simp; done) | (simp [*]; done)), H', ⟨Nat.le_refl _⟩, ⟨by (with_reducible repeat (first | apply Kd.V_alloc | apply Kd.V_drewN | apply Kd.V_drew)); exact HO_859000.out⟩, ⟨by (with_reducible repeat (first | apply Kd.V_alloc | apply Kd.V_drewN | apply Kd.V_drew)); exact HO_859001.out⟩, ⟨by (with_reducible repeat (first | refine blk_drewN ?_ _ | refine blk_drew ?_ | refine blk_alloc ?_ _)); exact BK847.out⟩, ⟨by (with_reducible repeat (first | refine blk_drewN ?_ _ | refine blk_drew ?_ | refine blk_alloc ?_ _)); exact BK848.out⟩, ⟨by (with_reducible repeat (first | refine blk_drewN ?_ _ | refine blk_drew ?_ | refine blk_alloc ?_ _)); exact BK858.out⟩, ⟨by repeat (first | (with_reducible first | exact HB.out | apply below_alloc | apply pw_below_drewN | apply below_drew1 | refine below_set ?_ GE847.out | refine below_set ?_ GE848.out | refine below_set ?_ GE858.out) | exact HB.out)⟩⟩
              case round =>
                clear H'
                try clear c1
                try clear c2
                try clear p2
                try clear c3
                try clear c8
                try clear c9
                try clear c10
                try clear c11
                try clear c14
                try clear c17
                try clear c18
                try clear c21
                try clear c27
                try clear c28
                try clear c30
                try clear c31
                try clear c31b0
                try clear c32
                try clear c33
                try clear hcz11_0
                try clear hcz11_1
                try clear hcz15_0
                try clear hcz15_1
                try clear hcz22_0
                try clear hcz22_1
                try clear hcz23_0
                try clear hcz23_1
                try clear hcz23_2
                try clear hcz23_3
                try clear hcz23_4
                try clear hcz23_5
                try clear hcz29_0
                try clear hcz29_1
                try clear hcz34_0
                try clear hcz34_1
                try clear hfz11_0
                try clear hfz11_1
                try clear hfz15_0
                try clear hfz15_1
                try clear hfz22_0
                try clear hfz22_1
                try clear hfz23_0
                try clear hfz23_1
                try clear hfz23_2
                try clear hfz23_3
                try clear hfz23_4
                try clear hfz23_5
                try clear hfz29_0
                try clear hfz29_1
                try clear hfz34_0
                try clear hfz34_1
                try clear p2
                obtain ⟨x9_3, rfl, HA, HK3, HO_859000, HO_859001, BK847, BK848, BK858, HB⟩ := hrel
                cases gk with
                | zero => exact absurd HA.out (by simp [flagstonelaw10_HandleSets.l1])
                | succ k3 =>
                  have H := HA.out
                  clear HA
                  simp only [flagstonelaw10_HandleSets.l1] at H
                  by_cases c35 : x9_3 < 8
                  · rw [if_pos c35] at H
                    have c35b0 : decide (x9_3 < 8) = true := decide_eq_true c35
                    clear c35
                    replace H := Option.bind_eq_some_iff.mp H
                    obtain ⟨⟨t859, t860, t861, t862, t863, t864, t865, t866⟩, A360, H⟩ := H
                    replace H : ((handle_Get.f t852 t855 x8_2 x9_3).bind fun bt868 => (if t866 = true then (flagstonelaw10_HandleSets.j3 k3 a1 x8_2 x9_3 t859 t866 bt868.1 bt868.2.2.2.2.2.2.2 (t859 == a1) l0_0 l0_1 a2_0 a2_1 a2_2 a2_3 a2_4 a2_5 t852 t855 t860 t861 t862 t863 t864 t865 bt868.2.1 bt868.2.2.1 bt868.2.2.2.1 bt868.2.2.2.2.1 bt868.2.2.2.2.2.1 bt868.2.2.2.2.2.2.1 t860 t861 t862 t863 t864 t865) else (flagstonelaw10_HandleSets.j3 k3 a1 x8_2 x9_3 t859 t866 bt868.1 bt868.2.2.2.2.2.2.2 false l0_0 l0_1 a2_0 a2_1 a2_2 a2_3 a2_4 a2_5 t852 t855 t860 t861 t862 t863 t864 t865 bt868.2.1 bt868.2.2.1 bt868.2.2.2.1 bt868.2.2.2.2.1 bt868.2.2.2.2.2.1 bt868.2.2.2.2.2.2.1 t860 t861 t862 t863 t864 t865))) = some r := H
                    have A36 := Aside0.mk A360
                    clear A360
                    replace H := Option.bind_eq_some_iff.mp H
                    obtain ⟨⟨t868, t869, t870, t871, t872, t873, t874, t875⟩, A370, H⟩ := H
                    replace H : (if t866 = true then (flagstonelaw10_HandleSets.j3 k3 a1 x8_2 x9_3 t859 t866 t868 t875 (t859 == a1) l0_0 l0_1 a2_0 a2_1 a2_2 a2_3 a2_4 a2_5 t852 t855 t860 t861 t862 t863 t864 t865 t869 t870 t871 t872 t873 t874 t860 t861 t862 t863 t864 t865) else (flagstonelaw10_HandleSets.j3 k3 a1 x8_2 x9_3 t859 t866 t868 t875 false l0_0 l0_1 a2_0 a2_1 a2_2 a2_3 a2_4 a2_5 t852 t855 t860 t861 t862 t863 t864 t865 t869 t870 t871 t872 t873 t874 t860 t861 t862 t863 t864 t865)) = some r := H
                    have A37 := Aside0.mk A370
                    clear A370
                    have HC38 := Aside0.mk H
                    clear H
                    have hnb39 := NB847_848.out
                    have hnc39 := NB848_847.out
                    have hnb40 := NB847_858.out
                    have hnc40 := NB858_847.out
                    have hcz41_0 : wr.cell? ⟨gb847, 0, none⟩ = some (.slice A0_0 l0_0.length c0_0) := (blk_cell BK847.out 0).trans rfl
                    have hcz41_1 : wr.cell? ⟨gb847, 1, none⟩ = some (.slice A0_1 l0_1.length c0_1) := (blk_cell BK847.out 1).trans rfl
                    have hfz41_0 := blk_frozen BK847.out 0
                    have hfz41_1 := blk_frozen BK847.out 1
                    go_upto_region 13 with (first | ((with_reducible refine gate_callee (f := 20) rfl ?_); refine goesL_ (some 44) rfl rfl Try.func20 (by kernel_rfl) rfl #[.agg #[.slice A0_0 l0_0.length c0_0, .slice A0_1 l0_1.length c0_1], .int .i64 x8_2, .int .i64 x9_3] rfl (by (try simp only [List.map_toArray, List.map_cons, List.map_nil]); first | done | rfl | (simp only [List.length_drop, List.length_take]; rfl)) ?_; (with_reducible refine (handle_Get.calls _ _ l0_0 _ _ l0_1 x8_2 x9_3 t859 t860 t861 t862 t863 t864 t865 t866 _ ?side1 ?side2 ?side3 ?side4 A36.out).mono ?_); (case side1 => repeat (first | exact (Kd.C_below HR0_0.out HB.out) | (with_reducible refine Kd.C_alloc ?_ _) | (with_reducible refine Kd.C_drewN ?_ _) | (with_reducible refine Kd.C_drew ?_))); (case side2 => exact HC0_0.out); (case side3 => repeat (first | exact (Kd.C_below HR0_1.out HB.out) | (with_reducible refine Kd.C_alloc ?_ _) | (with_reducible refine Kd.C_drewN ?_ _) | (with_reducible refine Kd.C_drew ?_))); (case side4 => exact HC0_1.out); rintro e w42 ⟨rfl, hb⟩; refine ⟨_, rfl, ?_⟩; have n0_ := Aside0.mk (Kd.V_below (by (with_reducible repeat (first | apply Kd.V_alloc | apply Kd.V_drewN | apply Kd.V_drew)); exact HO_859000.out) hb); have n1_ := Aside0.mk (Kd.V_below (by (with_reducible repeat (first | apply Kd.V_alloc | apply Kd.V_drewN | apply Kd.V_drew)); exact HO_859001.out) hb); have n2_ := Aside0.mk (blk_below (g := gb847) (o := .cells #[.slice A0_0 l0_0.length c0_0, .slice A0_1 l0_1.length c0_1] 25 (0, 0)) (by (with_reducible repeat (first | refine blk_drewN ?_ _ | refine blk_drew ?_ | refine blk_alloc ?_ _)); exact BK847.out) hb); have n3_ := Aside0.mk (blk_below (g := gb848) (o := .cells #[.int .i64 a2_0, .int .i64 a2_1, .bool a2_2, .bool a2_3, .int .i64 a2_4, .int .i64 a2_5] 38 (0, 0)) (by (with_reducible repeat (first | refine blk_drewN ?_ _ | refine blk_drew ?_ | refine blk_alloc ?_ _)); exact BK848.out) hb); have n4_ := Aside0.mk (blk_below (g := gb858) (o := .cells #[.slice Ao26 t852.length co26, .slice Ao30 t855.length co30] 25 (0, 0)) (by (with_reducible repeat (first | refine blk_drewN ?_ _ | refine blk_drew ?_ | refine blk_alloc ?_ _)); exact BK858.out) hb); have n5_ := Aside0.mk (below_step (by repeat (first | (with_reducible first | exact HB.out | apply below_alloc | apply pw_below_drewN | apply below_drew1 | refine below_set ?_ GE847.out | refine below_set ?_ GE848.out | refine below_set ?_ GE858.out) | exact HB.out)) hb); clear HO_859000; clear HO_859001; clear BK847; clear BK848; clear BK858; clear HB; have HO_859000 := n0_; have HO_859001 := n1_; have BK847 := n2_; have BK848 := n3_; have BK858 := n4_; have HB := n5_; clear n0_ n1_ n2_ n3_ n4_ n5_; (try clear hb); (try clear hb2); (try clear hk); (try clear hi)) | ((with_reducible refine gate_dst (N := 11) rfl ?_); refine box_event ?hg (N := 11) ?hd (cs := #[.int .i64 0, .int .i64 0, .bool false, .bool false, .int .i64 0, .int .i64 0]) (t := 38) ?hr ?_; (case hd => rfl); (case hg => rfl); (case hr => first | (go_simp; done) | (go_simp; rfl)); intro gb867 hg w43 hbox hb; have n0_ := Aside0.mk (Kd.V_below (Kd.V_elderB (by (with_reducible repeat (first | apply Kd.V_alloc | apply Kd.V_drewN | apply Kd.V_drew)); exact HO_859000.out) gb867 (Nat.le_of_eq hg.symm)) hb); have n1_ := Aside0.mk (Kd.V_below (Kd.V_elderB (by (with_reducible repeat (first | apply Kd.V_alloc | apply Kd.V_drewN | apply Kd.V_drew)); exact HO_859001.out) gb867 (Nat.le_of_eq hg.symm)) hb); have n2_ := Aside0.mk (blk_below (g := gb847) (o := .cells #[.slice A0_0 l0_0.length c0_0, .slice A0_1 l0_1.length c0_1] 25 (0, 0)) (by (with_reducible repeat (first | refine blk_drewN ?_ _ | refine blk_drew ?_ | refine blk_alloc ?_ _)); exact BK847.out) hb); have n3_ := Aside0.mk (blk_below (g := gb848) (o := .cells #[.int .i64 a2_0, .int .i64 a2_1, .bool a2_2, .bool a2_3, .int .i64 a2_4, .int .i64 a2_5] 38 (0, 0)) (by (with_reducible repeat (first | refine blk_drewN ?_ _ | refine blk_drew ?_ | refine blk_alloc ?_ _)); exact BK848.out) hb); have n4_ := Aside0.mk (blk_below (g := gb858) (o := .cells #[.slice Ao26 t852.length co26, .slice Ao30 t855.length co30] 25 (0, 0)) (by (with_reducible repeat (first | refine blk_drewN ?_ _ | refine blk_drew ?_ | refine blk_alloc ?_ _)); exact BK858.out) hb); have n5_ := Aside0.mk (below_step (by repeat (first | (with_reducible first | exact HB.out | apply below_alloc | apply pw_below_drewN | apply below_drew1 | refine below_set ?_ GE847.out | refine below_set ?_ GE848.out | refine below_set ?_ GE858.out) | exact HB.out)) hb); have n6_ := Aside0.mk (hbox); have n7_ := Aside0.mk ((by rw [hg]; exact (below_size (by repeat (first | (with_reducible first | exact HB.out | apply below_alloc | apply pw_below_drewN | apply below_drew1 | refine below_set ?_ GE847.out | refine below_set ?_ GE848.out | refine below_set ?_ GE858.out) | exact HB.out))) : w.heap.size ≤ gb867)); have n8_ := Aside0.mk ((by rw [hg]; exact (below_size (by repeat (first | (with_reducible first | exact HB.out | apply below_alloc | apply pw_below_drewN | apply below_drew1 | refine below_set ?_ GE847.out | refine below_set ?_ GE848.out | refine below_set ?_ GE858.out) | exact HB.out))) : w.heap.size ≤ gb867)); have n9_ := Aside0.mk ((by rw [hg]; exact Nat.ne_of_lt (blk_lt (g := gb847) (o := .cells #[.slice A0_0 l0_0.length c0_0, .slice A0_1 l0_1.length c0_1] 25 (0, 0)) (by (with_reducible repeat (first | refine blk_drewN ?_ _ | refine blk_drew ?_ | refine blk_alloc ?_ _)); exact BK847.out)) : gb847 ≠ gb867)); have n10_ := Aside0.mk ((by rw [hg]; exact Nat.ne_of_gt (blk_lt (g := gb847) (o := .cells #[.slice A0_0 l0_0.length c0_0, .slice A0_1 l0_1.length c0_1] 25 (0, 0)) (by (with_reducible repeat (first | refine blk_drewN ?_ _ | refine blk_drew ?_ | refine blk_alloc ?_ _)); exact BK847.out)) : gb867 ≠ gb847)); have n11_ := Aside0.mk ((by rw [hg]; exact Nat.ne_of_lt (blk_lt (g := gb848) (o := .cells #[.int .i64 a2_0, .int .i64 a2_1, .bool a2_2, .bool a2_3, .int .i64 a2_4, .int .i64 a2_5] 38 (0, 0)) (by (with_reducible repeat (first | refine blk_drewN ?_ _ | refine blk_drew ?_ | refine blk_alloc ?_ _)); exact BK848.out)) : gb848 ≠ gb867)); have n12_ := Aside0.mk ((by rw [hg]; exact Nat.ne_of_gt (blk_lt (g := gb848) (o := .cells #[.int .i64 a2_0, .int .i64 a2_1, .bool a2_2, .bool a2_3, .int .i64 a2_4, .int .i64 a2_5] 38 (0, 0)) (by (with_reducible repeat (first | refine blk_drewN ?_ _ | refine blk_drew ?_ | refine blk_alloc ?_ _)); exact BK848.out)) : gb867 ≠ gb848)); have n13_ := Aside0.mk ((by rw [hg]; exact Nat.ne_of_lt (blk_lt (g := gb858) (o := .cells #[.slice Ao26 t852.length co26, .slice Ao30 t855.length co30] 25 (0, 0)) (by (with_reducible repeat (first | refine blk_drewN ?_ _ | refine blk_drew ?_ | refine blk_alloc ?_ _)); exact BK858.out)) : gb858 ≠ gb867)); have n14_ := Aside0.mk ((by rw [hg]; exact Nat.ne_of_gt (blk_lt (g := gb858) (o := .cells #[.slice Ao26 t852.length co26, .slice Ao30 t855.length co30] 25 (0, 0)) (by (with_reducible repeat (first | refine blk_drewN ?_ _ | refine blk_drew ?_ | refine blk_alloc ?_ _)); exact BK858.out)) : gb867 ≠ gb858)); clear HO_859000; clear HO_859001; clear BK847; clear BK848; clear BK858; clear HB; have HO_859000 := n0_; have HO_859001 := n1_; have BK847 := n2_; have BK848 := n3_; have BK858 := n4_; have HB := n5_; have BK867 := n6_; have GW867 := n7_; have GE867 := n8_; have NB847_867 := n9_; have NB867_847 := n10_; have NB848_867 := n11_; have NB867_848 := n12_; have NB858_867 := n13_; have NB867_858 := n14_; clear n0_ n1_ n2_ n3_ n4_ n5_ n6_ n7_ n8_ n9_ n10_ n11_ n12_ n13_ n14_; clear hb hbox hg; have hnb44 := NB867_847.out; have hnc44 := NB847_867.out; have hnb45 := NB867_848.out; have hnc45 := NB848_867.out; have hnb46 := NB867_858.out; have hnc46 := NB858_867.out; have hcz47_0 : w43.cell? ⟨gb867, 0, none⟩ = some (.int .i64 0) := (blk_cell BK867.out 0).trans rfl; have hcz47_1 : w43.cell? ⟨gb867, 1, none⟩ = some (.int .i64 0) := (blk_cell BK867.out 1).trans rfl; have hcz47_2 : w43.cell? ⟨gb867, 2, none⟩ = some (.bool false) := (blk_cell BK867.out 2).trans rfl; have hcz47_3 : w43.cell? ⟨gb867, 3, none⟩ = some (.bool false) := (blk_cell BK867.out 3).trans rfl; have hcz47_4 : w43.cell? ⟨gb867, 4, none⟩ = some (.int .i64 0) := (blk_cell BK867.out 4).trans rfl; have hcz47_5 : w43.cell? ⟨gb867, 5, none⟩ = some (.int .i64 0) := (blk_cell BK867.out 5).trans rfl; have hfz47_0 := blk_frozen BK867.out 0; have hfz47_1 := blk_frozen BK867.out 1; have hfz47_2 := blk_frozen BK867.out 2; have hfz47_3 := blk_frozen BK867.out 3; have hfz47_4 := blk_frozen BK867.out 4; have hfz47_5 := blk_frozen BK867.out 5; have hnb48 := NB858_848.out; have hnc48 := NB848_858.out; have hcz49_0 : w43.cell? ⟨gb858, 0, none⟩ = some (.slice Ao26 t852.length co26) := (blk_cell BK858.out 0).trans rfl; have hcz49_1 : w43.cell? ⟨gb858, 1, none⟩ = some (.slice Ao30 t855.length co30) := (blk_cell BK858.out 1).trans rfl; have hfz49_0 := blk_frozen BK858.out 0; have hfz49_1 := blk_frozen BK858.out 1) | ((with_reducible refine gate_callee (f := 20) rfl ?_); refine goesL_ (some 52) rfl rfl Try.func20 (by kernel_rfl) rfl #[.agg #[.slice Ao26 t852.length co26, .slice Ao30 t855.length co30], .int .i64 x8_2, .int .i64 x9_3] rfl (by (try simp only [List.map_toArray, List.map_cons, List.map_nil]); first | done | rfl | (simp only [List.length_drop, List.length_take]; rfl)) ?_; (with_reducible refine (handle_Get.calls _ _ t852 _ _ t855 x8_2 x9_3 t868 t869 t870 t871 t872 t873 t874 t875 _ ?side1 ?side2 ?side3 ?side4 A37.out).mono ?_); (case side1 => refine (Kd.V_reads' (e := 38) (base := w.heap.size) (ok := fun k_ => ((k_ ≠ gb847 ∧ (k_ ≠ gb848 ∧ k_ ≠ gb858)) ∧ k_ ≠ gb867)) (n := t852.length) (c := co26) ?_).2.2; exact (by (with_reducible repeat (first | apply Kd.V_alloc | apply Kd.V_drewN | apply Kd.V_drew)); exact (Kd.V_mono (Kd.V_far (p := ⟨gb867, 5, none⟩) (Kd.V_far (p := ⟨gb867, 4, none⟩) (Kd.V_far (p := ⟨gb867, 3, none⟩) (Kd.V_far (p := ⟨gb867, 2, none⟩) (Kd.V_far (p := ⟨gb867, 1, none⟩) (Kd.V_far (p := ⟨gb867, 0, none⟩) (Kd.V_mono HO_859000.out (fun k_ hk => (⟨hk, hk.2⟩ : _ ∧ k_ ≠ gb867))) (fun _ hk => hk.2) (.int .i64 t860)) (fun _ hk => hk.2) (.int .i64 t861)) (fun _ hk => hk.2) (.bool t862)) (fun _ hk => hk.2) (.bool t863)) (fun _ hk => hk.2) (.int .i64 t864)) (fun _ hk => hk.2) (.int .i64 t865)) (fun _ h_ => h_.1)))); (case side2 => exact (Kd.V_reads' HO_859000.out).2.1); (case side3 => refine (Kd.V_reads' (e := 64) (base := w.heap.size) (ok := fun k_ => ((k_ ≠ gb847 ∧ (k_ ≠ gb848 ∧ k_ ≠ gb858)) ∧ k_ ≠ gb867)) (n := t855.length) (c := co30) ?_).2.2; exact (by (with_reducible repeat (first | apply Kd.V_alloc | apply Kd.V_drewN | apply Kd.V_drew)); exact (Kd.V_mono (Kd.V_far (p := ⟨gb867, 5, none⟩) (Kd.V_far (p := ⟨gb867, 4, none⟩) (Kd.V_far (p := ⟨gb867, 3, none⟩) (Kd.V_far (p := ⟨gb867, 2, none⟩) (Kd.V_far (p := ⟨gb867, 1, none⟩) (Kd.V_far (p := ⟨gb867, 0, none⟩) (Kd.V_mono HO_859001.out (fun k_ hk => (⟨hk, hk.2⟩ : _ ∧ k_ ≠ gb867))) (fun _ hk => hk.2) (.int .i64 t860)) (fun _ hk => hk.2) (.int .i64 t861)) (fun _ hk => hk.2) (.bool t862)) (fun _ hk => hk.2) (.bool t863)) (fun _ hk => hk.2) (.int .i64 t864)) (fun _ hk => hk.2) (.int .i64 t865)) (fun _ h_ => h_.1)))); (case side4 => exact (Kd.V_reads' HO_859001.out).2.1); rintro e w50 ⟨rfl, hb⟩; refine ⟨_, rfl, ?_⟩; have n0_ := Aside0.mk (Kd.V_below (by (with_reducible repeat (first | apply Kd.V_alloc | apply Kd.V_drewN | apply Kd.V_drew)); exact (Kd.V_mono (Kd.V_far (p := ⟨gb867, 5, none⟩) (Kd.V_far (p := ⟨gb867, 4, none⟩) (Kd.V_far (p := ⟨gb867, 3, none⟩) (Kd.V_far (p := ⟨gb867, 2, none⟩) (Kd.V_far (p := ⟨gb867, 1, none⟩) (Kd.V_far (p := ⟨gb867, 0, none⟩) (Kd.V_mono HO_859000.out (fun k_ hk => (⟨hk, hk.2⟩ : _ ∧ k_ ≠ gb867))) (fun _ hk => hk.2) (.int .i64 t860)) (fun _ hk => hk.2) (.int .i64 t861)) (fun _ hk => hk.2) (.bool t862)) (fun _ hk => hk.2) (.bool t863)) (fun _ hk => hk.2) (.int .i64 t864)) (fun _ hk => hk.2) (.int .i64 t865)) (fun _ h_ => h_.1))) hb); have n1_ := Aside0.mk (Kd.V_below (by (with_reducible repeat (first | apply Kd.V_alloc | apply Kd.V_drewN | apply Kd.V_drew)); exact (Kd.V_mono (Kd.V_far (p := ⟨gb867, 5, none⟩) (Kd.V_far (p := ⟨gb867, 4, none⟩) (Kd.V_far (p := ⟨gb867, 3, none⟩) (Kd.V_far (p := ⟨gb867, 2, none⟩) (Kd.V_far (p := ⟨gb867, 1, none⟩) (Kd.V_far (p := ⟨gb867, 0, none⟩) (Kd.V_mono HO_859001.out (fun k_ hk => (⟨hk, hk.2⟩ : _ ∧ k_ ≠ gb867))) (fun _ hk => hk.2) (.int .i64 t860)) (fun _ hk => hk.2) (.int .i64 t861)) (fun _ hk => hk.2) (.bool t862)) (fun _ hk => hk.2) (.bool t863)) (fun _ hk => hk.2) (.int .i64 t864)) (fun _ hk => hk.2) (.int .i64 t865)) (fun _ h_ => h_.1))) hb); have n2_ := Aside0.mk (blk_below (g := gb847) (o := .cells #[.slice A0_0 l0_0.length c0_0, .slice A0_1 l0_1.length c0_1] 25 (0, 0)) (by (with_reducible repeat (first | refine blk_drewN ?_ _ | refine blk_drew ?_ | refine blk_alloc ?_ _)); refine blk_far ?_ NB847_867.out _; (with_reducible repeat (first | refine blk_drewN ?_ _ | refine blk_drew ?_ | refine blk_alloc ?_ _)); refine blk_far ?_ NB847_867.out _; (with_reducible repeat (first | refine blk_drewN ?_ _ | refine blk_drew ?_ | refine blk_alloc ?_ _)); refine blk_far ?_ NB847_867.out _; (with_reducible repeat (first | refine blk_drewN ?_ _ | refine blk_drew ?_ | refine blk_alloc ?_ _)); refine blk_far ?_ NB847_867.out _; (with_reducible repeat (first | refine blk_drewN ?_ _ | refine blk_drew ?_ | refine blk_alloc ?_ _)); refine blk_far ?_ NB847_867.out _; (with_reducible repeat (first | refine blk_drewN ?_ _ | refine blk_drew ?_ | refine blk_alloc ?_ _)); refine blk_far ?_ NB847_867.out _; (with_reducible repeat (first | refine blk_drewN ?_ _ | refine blk_drew ?_ | refine blk_alloc ?_ _)); exact BK847.out) hb); have n3_ := Aside0.mk (blk_below (g := gb848) (o := .cells #[.int .i64 a2_0, .int .i64 a2_1, .bool a2_2, .bool a2_3, .int .i64 a2_4, .int .i64 a2_5] 38 (0, 0)) (by (with_reducible repeat (first | refine blk_drewN ?_ _ | refine blk_drew ?_ | refine blk_alloc ?_ _)); refine blk_far ?_ NB848_867.out _; (with_reducible repeat (first | refine blk_drewN ?_ _ | refine blk_drew ?_ | refine blk_alloc ?_ _)); refine blk_far ?_ NB848_867.out _; (with_reducible repeat (first | refine blk_drewN ?_ _ | refine blk_drew ?_ | refine blk_alloc ?_ _)); refine blk_far ?_ NB848_867.out _; (with_reducible repeat (first | refine blk_drewN ?_ _ | refine blk_drew ?_ | refine blk_alloc ?_ _)); refine blk_far ?_ NB848_867.out _; (with_reducible repeat (first | refine blk_drewN ?_ _ | refine blk_drew ?_ | refine blk_alloc ?_ _)); refine blk_far ?_ NB848_867.out _; (with_reducible repeat (first | refine blk_drewN ?_ _ | refine blk_drew ?_ | refine blk_alloc ?_ _)); refine blk_far ?_ NB848_867.out _; (with_reducible repeat (first | refine blk_drewN ?_ _ | refine blk_drew ?_ | refine blk_alloc ?_ _)); exact BK848.out) hb); have n4_ := Aside0.mk (blk_below (g := gb858) (o := .cells #[.slice Ao26 t852.length co26, .slice Ao30 t855.length co30] 25 (0, 0)) (by (with_reducible repeat (first | refine blk_drewN ?_ _ | refine blk_drew ?_ | refine blk_alloc ?_ _)); refine blk_far ?_ NB858_867.out _; (with_reducible repeat (first | refine blk_drewN ?_ _ | refine blk_drew ?_ | refine blk_alloc ?_ _)); refine blk_far ?_ NB858_867.out _; (with_reducible repeat (first | refine blk_drewN ?_ _ | refine blk_drew ?_ | refine blk_alloc ?_ _)); refine blk_far ?_ NB858_867.out _; (with_reducible repeat (first | refine blk_drewN ?_ _ | refine blk_drew ?_ | refine blk_alloc ?_ _)); refine blk_far ?_ NB858_867.out _; (with_reducible repeat (first | refine blk_drewN ?_ _ | refine blk_drew ?_ | refine blk_alloc ?_ _)); refine blk_far ?_ NB858_867.out _; (with_reducible repeat (first | refine blk_drewN ?_ _ | refine blk_drew ?_ | refine blk_alloc ?_ _)); refine blk_far ?_ NB858_867.out _; (with_reducible repeat (first | refine blk_drewN ?_ _ | refine blk_drew ?_ | refine blk_alloc ?_ _)); exact BK858.out) hb); have n5_ := Aside0.mk (blk_below (g := gb867) (o := .cells #[.int .i64 t860, .int .i64 t861, .bool t862, .bool t863, .int .i64 t864, .int .i64 t865] 38 (0, 0)) (by (with_reducible repeat (first | refine blk_drewN ?_ _ | refine blk_drew ?_ | refine blk_alloc ?_ _)); refine blk_put (cs := #[.int .i64 t860, .int .i64 t861, .bool t862, .bool t863, .int .i64 t864, .int .i64 0]) ?_ 5 _ rfl; (with_reducible repeat (first | refine blk_drewN ?_ _ | refine blk_drew ?_ | refine blk_alloc ?_ _)); refine blk_put (cs := #[.int .i64 t860, .int .i64 t861, .bool t862, .bool t863, .int .i64 0, .int .i64 0]) ?_ 4 _ rfl; (with_reducible repeat (first | refine blk_drewN ?_ _ | refine blk_drew ?_ | refine blk_alloc ?_ _)); refine blk_put (cs := #[.int .i64 t860, .int .i64 t861, .bool t862, .bool false, .int .i64 0, .int .i64 0]) ?_ 3 _ rfl; (with_reducible repeat (first | refine blk_drewN ?_ _ | refine blk_drew ?_ | refine blk_alloc ?_ _)); refine blk_put (cs := #[.int .i64 t860, .int .i64 t861, .bool false, .bool false, .int .i64 0, .int .i64 0]) ?_ 2 _ rfl; (with_reducible repeat (first | refine blk_drewN ?_ _ | refine blk_drew ?_ | refine blk_alloc ?_ _)); refine blk_put (cs := #[.int .i64 t860, .int .i64 0, .bool false, .bool false, .int .i64 0, .int .i64 0]) ?_ 1 _ rfl; (with_reducible repeat (first | refine blk_drewN ?_ _ | refine blk_drew ?_ | refine blk_alloc ?_ _)); refine blk_put (cs := #[.int .i64 0, .int .i64 0, .bool false, .bool false, .int .i64 0, .int .i64 0]) ?_ 0 _ rfl; (with_reducible repeat (first | refine blk_drewN ?_ _ | refine blk_drew ?_ | refine blk_alloc ?_ _)); exact BK867.out) hb); have n6_ := Aside0.mk (below_step (by repeat (first | (with_reducible first | exact HB.out | apply below_alloc | apply pw_below_drewN | apply below_drew1 | refine below_set ?_ GE847.out | refine below_set ?_ GE848.out | refine below_set ?_ GE858.out | refine below_set ?_ GE867.out) | exact HB.out)) hb); clear HO_859000; clear HO_859001; clear BK847; clear BK848; clear BK858; clear BK867; clear HB; have HO_859000 := n0_; have HO_859001 := n1_; have BK847 := n2_; have BK848 := n3_; have BK858 := n4_; have BK867 := n5_; have HB := n6_; clear n0_ n1_ n2_ n3_ n4_ n5_ n6_; (try clear hb); (try clear hb2); (try clear hk); (try clear hi)) | ((with_reducible refine gate_dst (N := 14) rfl ?_); refine box_event ?hg (N := 14) ?hd (cs := #[.int .i64 0, .int .i64 0, .bool false, .bool false, .int .i64 0, .int .i64 0]) (t := 38) ?hr ?_; (case hd => rfl); (case hg => rfl); (case hr => first | (go_simp; done) | (go_simp; rfl)); intro gb876 hg w51 hbox hb; have n0_ := Aside0.mk (Kd.V_below (Kd.V_elderB (by (with_reducible repeat (first | apply Kd.V_alloc | apply Kd.V_drewN | apply Kd.V_drew)); exact HO_859000.out) gb876 (Nat.le_of_eq hg.symm)) hb); have n1_ := Aside0.mk (Kd.V_below (Kd.V_elderB (by (with_reducible repeat (first | apply Kd.V_alloc | apply Kd.V_drewN | apply Kd.V_drew)); exact HO_859001.out) gb876 (Nat.le_of_eq hg.symm)) hb); have n2_ := Aside0.mk (blk_below (g := gb847) (o := .cells #[.slice A0_0 l0_0.length c0_0, .slice A0_1 l0_1.length c0_1] 25 (0, 0)) (by (with_reducible repeat (first | refine blk_drewN ?_ _ | refine blk_drew ?_ | refine blk_alloc ?_ _)); exact BK847.out) hb); have n3_ := Aside0.mk (blk_below (g := gb848) (o := .cells #[.int .i64 a2_0, .int .i64 a2_1, .bool a2_2, .bool a2_3, .int .i64 a2_4, .int .i64 a2_5] 38 (0, 0)) (by (with_reducible repeat (first | refine blk_drewN ?_ _ | refine blk_drew ?_ | refine blk_alloc ?_ _)); exact BK848.out) hb); have n4_ := Aside0.mk (blk_below (g := gb858) (o := .cells #[.slice Ao26 t852.length co26, .slice Ao30 t855.length co30] 25 (0, 0)) (by (with_reducible repeat (first | refine blk_drewN ?_ _ | refine blk_drew ?_ | refine blk_alloc ?_ _)); exact BK858.out) hb); have n5_ := Aside0.mk (blk_below (g := gb867) (o := .cells #[.int .i64 t860, .int .i64 t861, .bool t862, .bool t863, .int .i64 t864, .int .i64 t865] 38 (0, 0)) (by (with_reducible repeat (first | refine blk_drewN ?_ _ | refine blk_drew ?_ | refine blk_alloc ?_ _)); exact BK867.out) hb); have n6_ := Aside0.mk (below_step (by repeat (first | (with_reducible first | exact HB.out | apply below_alloc | apply pw_below_drewN | apply below_drew1 | refine below_set ?_ GE847.out | refine below_set ?_ GE848.out | refine below_set ?_ GE858.out | refine below_set ?_ GE867.out) | exact HB.out)) hb); have n7_ := Aside0.mk (hbox); have n8_ := Aside0.mk ((by rw [hg]; exact (below_size (by repeat (first | (with_reducible first | exact HB.out | apply below_alloc | apply pw_below_drewN | apply below_drew1 | refine below_set ?_ GE847.out | refine below_set ?_ GE848.out | refine below_set ?_ GE858.out | refine below_set ?_ GE867.out) | exact HB.out))) : w.heap.size ≤ gb876)); have n9_ := Aside0.mk ((by rw [hg]; exact (below_size (by repeat (first | (with_reducible first | exact HB.out | apply below_alloc | apply pw_below_drewN | apply below_drew1 | refine below_set ?_ GE847.out | refine below_set ?_ GE848.out | refine below_set ?_ GE858.out | refine below_set ?_ GE867.out) | exact HB.out))) : w.heap.size ≤ gb876)); have n10_ := Aside0.mk ((by rw [hg]; exact Nat.ne_of_lt (blk_lt (g := gb847) (o := .cells #[.slice A0_0 l0_0.length c0_0, .slice A0_1 l0_1.length c0_1] 25 (0, 0)) (by (with_reducible repeat (first | refine blk_drewN ?_ _ | refine blk_drew ?_ | refine blk_alloc ?_ _)); exact BK847.out)) : gb847 ≠ gb876)); have n11_ := Aside0.mk ((by rw [hg]; exact Nat.ne_of_gt (blk_lt (g := gb847) (o := .cells #[.slice A0_0 l0_0.length c0_0, .slice A0_1 l0_1.length c0_1] 25 (0, 0)) (by (with_reducible repeat (first | refine blk_drewN ?_ _ | refine blk_drew ?_ | refine blk_alloc ?_ _)); exact BK847.out)) : gb876 ≠ gb847)); have n12_ := Aside0.mk ((by rw [hg]; exact Nat.ne_of_lt (blk_lt (g := gb848) (o := .cells #[.int .i64 a2_0, .int .i64 a2_1, .bool a2_2, .bool a2_3, .int .i64 a2_4, .int .i64 a2_5] 38 (0, 0)) (by (with_reducible repeat (first | refine blk_drewN ?_ _ | refine blk_drew ?_ | refine blk_alloc ?_ _)); exact BK848.out)) : gb848 ≠ gb876)); have n13_ := Aside0.mk ((by rw [hg]; exact Nat.ne_of_gt (blk_lt (g := gb848) (o := .cells #[.int .i64 a2_0, .int .i64 a2_1, .bool a2_2, .bool a2_3, .int .i64 a2_4, .int .i64 a2_5] 38 (0, 0)) (by (with_reducible repeat (first | refine blk_drewN ?_ _ | refine blk_drew ?_ | refine blk_alloc ?_ _)); exact BK848.out)) : gb876 ≠ gb848)); have n14_ := Aside0.mk ((by rw [hg]; exact Nat.ne_of_lt (blk_lt (g := gb858) (o := .cells #[.slice Ao26 t852.length co26, .slice Ao30 t855.length co30] 25 (0, 0)) (by (with_reducible repeat (first | refine blk_drewN ?_ _ | refine blk_drew ?_ | refine blk_alloc ?_ _)); exact BK858.out)) : gb858 ≠ gb876)); have n15_ := Aside0.mk ((by rw [hg]; exact Nat.ne_of_gt (blk_lt (g := gb858) (o := .cells #[.slice Ao26 t852.length co26, .slice Ao30 t855.length co30] 25 (0, 0)) (by (with_reducible repeat (first | refine blk_drewN ?_ _ | refine blk_drew ?_ | refine blk_alloc ?_ _)); exact BK858.out)) : gb876 ≠ gb858)); have n16_ := Aside0.mk ((by rw [hg]; exact Nat.ne_of_lt (blk_lt (g := gb867) (o := .cells #[.int .i64 t860, .int .i64 t861, .bool t862, .bool t863, .int .i64 t864, .int .i64 t865] 38 (0, 0)) (by (with_reducible repeat (first | refine blk_drewN ?_ _ | refine blk_drew ?_ | refine blk_alloc ?_ _)); exact BK867.out)) : gb867 ≠ gb876)); have n17_ := Aside0.mk ((by rw [hg]; exact Nat.ne_of_gt (blk_lt (g := gb867) (o := .cells #[.int .i64 t860, .int .i64 t861, .bool t862, .bool t863, .int .i64 t864, .int .i64 t865] 38 (0, 0)) (by (with_reducible repeat (first | refine blk_drewN ?_ _ | refine blk_drew ?_ | refine blk_alloc ?_ _)); exact BK867.out)) : gb876 ≠ gb867)); clear HO_859000; clear HO_859001; clear BK847; clear BK848; clear BK858; clear BK867; clear HB; have HO_859000 := n0_; have HO_859001 := n1_; have BK847 := n2_; have BK848 := n3_; have BK858 := n4_; have BK867 := n5_; have HB := n6_; have BK876 := n7_; have GW876 := n8_; have GE876 := n9_; have NB847_876 := n10_; have NB876_847 := n11_; have NB848_876 := n12_; have NB876_848 := n13_; have NB858_876 := n14_; have NB876_858 := n15_; have NB867_876 := n16_; have NB876_867 := n17_; clear n0_ n1_ n2_ n3_ n4_ n5_ n6_ n7_ n8_ n9_ n10_ n11_ n12_ n13_ n14_ n15_ n16_ n17_; clear hb hbox hg; have hnb52 := NB876_847.out; have hnc52 := NB847_876.out; have hnb53 := NB876_848.out; have hnc53 := NB848_876.out; have hnb54 := NB876_858.out; have hnc54 := NB858_876.out; have hnb55 := NB876_867.out; have hnc55 := NB867_876.out; have hcz56_0 : w51.cell? ⟨gb876, 0, none⟩ = some (.int .i64 0) := (blk_cell BK876.out 0).trans rfl; have hcz56_1 : w51.cell? ⟨gb876, 1, none⟩ = some (.int .i64 0) := (blk_cell BK876.out 1).trans rfl; have hcz56_2 : w51.cell? ⟨gb876, 2, none⟩ = some (.bool false) := (blk_cell BK876.out 2).trans rfl; have hcz56_3 : w51.cell? ⟨gb876, 3, none⟩ = some (.bool false) := (blk_cell BK876.out 3).trans rfl; have hcz56_4 : w51.cell? ⟨gb876, 4, none⟩ = some (.int .i64 0) := (blk_cell BK876.out 4).trans rfl; have hcz56_5 : w51.cell? ⟨gb876, 5, none⟩ = some (.int .i64 0) := (blk_cell BK876.out 5).trans rfl; have hfz56_0 := blk_frozen BK876.out 0; have hfz56_1 := blk_frozen BK876.out 1; have hfz56_2 := blk_frozen BK876.out 2; have hfz56_3 := blk_frozen BK876.out 3; have hfz56_4 := blk_frozen BK876.out 4; have hfz56_5 := blk_frozen BK876.out 5; have hcz57_0 : w51.cell? ⟨gb867, 0, none⟩ = some (.int .i64 t860) := (blk_cell BK867.out 0).trans rfl; have hcz57_1 : w51.cell? ⟨gb867, 1, none⟩ = some (.int .i64 t861) := (blk_cell BK867.out 1).trans rfl; have hcz57_2 : w51.cell? ⟨gb867, 2, none⟩ = some (.bool t862) := (blk_cell BK867.out 2).trans rfl; have hcz57_3 : w51.cell? ⟨gb867, 3, none⟩ = some (.bool t863) := (blk_cell BK867.out 3).trans rfl; have hcz57_4 : w51.cell? ⟨gb867, 4, none⟩ = some (.int .i64 t864) := (blk_cell BK867.out 4).trans rfl; have hcz57_5 : w51.cell? ⟨gb867, 5, none⟩ = some (.int .i64 t865) := (blk_cell BK867.out 5).trans rfl; have hfz57_0 := blk_frozen BK867.out 0; have hfz57_1 := blk_frozen BK867.out 1; have hfz57_2 := blk_frozen BK867.out 2; have hfz57_3 := blk_frozen BK867.out 3; have hfz57_4 := blk_frozen BK867.out 4; have hfz57_5 := blk_frozen BK867.out 5) | ((with_reducible refine gate_dst (N := 16) rfl ?_); refine box_event ?hg (N := 16) ?hd (cs := #[.int .i64 0, .int .i64 0, .bool false, .bool false, .int .i64 0, .int .i64 0]) (t := 38) ?hr ?_; (case hd => rfl); (case hg => rfl); (case hr => first | (go_simp; done) | (go_simp; rfl)); intro gb877 hg w58 hbox hb; have n0_ := Aside0.mk (Kd.V_below (Kd.V_elderB (by (with_reducible repeat (first | apply Kd.V_alloc | apply Kd.V_drewN | apply Kd.V_drew)); exact (Kd.V_mono (Kd.V_far (p := ⟨gb876, 5, none⟩) (Kd.V_far (p := ⟨gb876, 4, none⟩) (Kd.V_far (p := ⟨gb876, 3, none⟩) (Kd.V_far (p := ⟨gb876, 2, none⟩) (Kd.V_far (p := ⟨gb876, 1, none⟩) (Kd.V_far (p := ⟨gb876, 0, none⟩) (Kd.V_mono HO_859000.out (fun k_ hk => (⟨hk, hk.2⟩ : _ ∧ k_ ≠ gb876))) (fun _ hk => hk.2) (.int .i64 t869)) (fun _ hk => hk.2) (.int .i64 t870)) (fun _ hk => hk.2) (.bool t871)) (fun _ hk => hk.2) (.bool t872)) (fun _ hk => hk.2) (.int .i64 t873)) (fun _ hk => hk.2) (.int .i64 t874)) (fun _ h_ => h_.1))) gb877 (Nat.le_of_eq hg.symm)) hb); have n1_ := Aside0.mk (Kd.V_below (Kd.V_elderB (by (with_reducible repeat (first | apply Kd.V_alloc | apply Kd.V_drewN | apply Kd.V_drew)); exact (Kd.V_mono (Kd.V_far (p := ⟨gb876, 5, none⟩) (Kd.V_far (p := ⟨gb876, 4, none⟩) (Kd.V_far (p := ⟨gb876, 3, none⟩) (Kd.V_far (p := ⟨gb876, 2, none⟩) (Kd.V_far (p := ⟨gb876, 1, none⟩) (Kd.V_far (p := ⟨gb876, 0, none⟩) (Kd.V_mono HO_859001.out (fun k_ hk => (⟨hk, hk.2⟩ : _ ∧ k_ ≠ gb876))) (fun _ hk => hk.2) (.int .i64 t869)) (fun _ hk => hk.2) (.int .i64 t870)) (fun _ hk => hk.2) (.bool t871)) (fun _ hk => hk.2) (.bool t872)) (fun _ hk => hk.2) (.int .i64 t873)) (fun _ hk => hk.2) (.int .i64 t874)) (fun _ h_ => h_.1))) gb877 (Nat.le_of_eq hg.symm)) hb); have n2_ := Aside0.mk (blk_below (g := gb847) (o := .cells #[.slice A0_0 l0_0.length c0_0, .slice A0_1 l0_1.length c0_1] 25 (0, 0)) (by (with_reducible repeat (first | refine blk_drewN ?_ _ | refine blk_drew ?_ | refine blk_alloc ?_ _)); refine blk_far ?_ NB847_876.out _; (with_reducible repeat (first | refine blk_drewN ?_ _ | refine blk_drew ?_ | refine blk_alloc ?_ _)); refine blk_far ?_ NB847_876.out _; (with_reducible repeat (first | refine blk_drewN ?_ _ | refine blk_drew ?_ | refine blk_alloc ?_ _)); refine blk_far ?_ NB847_876.out _; (with_reducible repeat (first | refine blk_drewN ?_ _ | refine blk_drew ?_ | refine blk_alloc ?_ _)); refine blk_far ?_ NB847_876.out _; (with_reducible repeat (first | refine blk_drewN ?_ _ | refine blk_drew ?_ | refine blk_alloc ?_ _)); refine blk_far ?_ NB847_876.out _; (with_reducible repeat (first | refine blk_drewN ?_ _ | refine blk_drew ?_ | refine blk_alloc ?_ _)); refine blk_far ?_ NB847_876.out _; (with_reducible repeat (first | refine blk_drewN ?_ _ | refine blk_drew ?_ | refine blk_alloc ?_ _)); exact BK847.out) hb); have n3_ := Aside0.mk (blk_below (g := gb848) (o := .cells #[.int .i64 a2_0, .int .i64 a2_1, .bool a2_2, .bool a2_3, .int .i64 a2_4, .int .i64 a2_5] 38 (0, 0)) (by (with_reducible repeat (first | refine blk_drewN ?_ _ | refine blk_drew ?_ | refine blk_alloc ?_ _)); refine blk_far ?_ NB848_876.out _; (with_reducible repeat (first | refine blk_drewN ?_ _ | refine blk_drew ?_ | refine blk_alloc ?_ _)); refine blk_far ?_ NB848_876.out _; (with_reducible repeat (first | refine blk_drewN ?_ _ | refine blk_drew ?_ | refine blk_alloc ?_ _)); refine blk_far ?_ NB848_876.out _; (with_reducible repeat (first | refine blk_drewN ?_ _ | refine blk_drew ?_ | refine blk_alloc ?_ _)); refine blk_far ?_ NB848_876.out _; (with_reducible repeat (first | refine blk_drewN ?_ _ | refine blk_drew ?_ | refine blk_alloc ?_ _)); refine blk_far ?_ NB848_876.out _; (with_reducible repeat (first | refine blk_drewN ?_ _ | refine blk_drew ?_ | refine blk_alloc ?_ _)); refine blk_far ?_ NB848_876.out _; (with_reducible repeat (first | refine blk_drewN ?_ _ | refine blk_drew ?_ | refine blk_alloc ?_ _)); exact BK848.out) hb); have n4_ := Aside0.mk (blk_below (g := gb858) (o := .cells #[.slice Ao26 t852.length co26, .slice Ao30 t855.length co30] 25 (0, 0)) (by (with_reducible repeat (first | refine blk_drewN ?_ _ | refine blk_drew ?_ | refine blk_alloc ?_ _)); refine blk_far ?_ NB858_876.out _; (with_reducible repeat (first | refine blk_drewN ?_ _ | refine blk_drew ?_ | refine blk_alloc ?_ _)); refine blk_far ?_ NB858_876.out _; (with_reducible repeat (first | refine blk_drewN ?_ _ | refine blk_drew ?_ | refine blk_alloc ?_ _)); refine blk_far ?_ NB858_876.out _; (with_reducible repeat (first | refine blk_drewN ?_ _ | refine blk_drew ?_ | refine blk_alloc ?_ _)); refine blk_far ?_ NB858_876.out _; (with_reducible repeat (first | refine blk_drewN ?_ _ | refine blk_drew ?_ | refine blk_alloc ?_ _)); refine blk_far ?_ NB858_876.out _; (with_reducible repeat (first | refine blk_drewN ?_ _ | refine blk_drew ?_ | refine blk_alloc ?_ _)); refine blk_far ?_ NB858_876.out _; (with_reducible repeat (first | refine blk_drewN ?_ _ | refine blk_drew ?_ | refine blk_alloc ?_ _)); exact BK858.out) hb); have n5_ := Aside0.mk (blk_below (g := gb867) (o := .cells #[.int .i64 t860, .int .i64 t861, .bool t862, .bool t863, .int .i64 t864, .int .i64 t865] 38 (0, 0)) (by (with_reducible repeat (first | refine blk_drewN ?_ _ | refine blk_drew ?_ | refine blk_alloc ?_ _)); refine blk_far ?_ NB867_876.out _; (with_reducible repeat (first | refine blk_drewN ?_ _ | refine blk_drew ?_ | refine blk_alloc ?_ _)); refine blk_far ?_ NB867_876.out _; (with_reducible repeat (first | refine blk_drewN ?_ _ | refine blk_drew ?_ | refine blk_alloc ?_ _)); refine blk_far ?_ NB867_876.out _; (with_reducible repeat (first | refine blk_drewN ?_ _ | refine blk_drew ?_ | refine blk_alloc ?_ _)); refine blk_far ?_ NB867_876.out _; (with_reducible repeat (first | refine blk_drewN ?_ _ | refine blk_drew ?_ | refine blk_alloc ?_ _)); refine blk_far ?_ NB867_876.out _; (with_reducible repeat (first | refine blk_drewN ?_ _ | refine blk_drew ?_ | refine blk_alloc ?_ _)); refine blk_far ?_ NB867_876.out _; (with_reducible repeat (first | refine blk_drewN ?_ _ | refine blk_drew ?_ | refine blk_alloc ?_ _)); exact BK867.out) hb); have n6_ := Aside0.mk (blk_below (g := gb876) (o := .cells #[.int .i64 t869, .int .i64 t870, .bool t871, .bool t872, .int .i64 t873, .int .i64 t874] 38 (0, 0)) (by (with_reducible repeat (first | refine blk_drewN ?_ _ | refine blk_drew ?_ | refine blk_alloc ?_ _)); refine blk_put (cs := #[.int .i64 t869, .int .i64 t870, .bool t871, .bool t872, .int .i64 t873, .int .i64 0]) ?_ 5 _ rfl; (with_reducible repeat (first | refine blk_drewN ?_ _ | refine blk_drew ?_ | refine blk_alloc ?_ _)); refine blk_put (cs := #[.int .i64 t869, .int .i64 t870, .bool t871, .bool t872, .int .i64 0, .int .i64 0]) ?_ 4 _ rfl; (with_reducible repeat (first | refine blk_drewN ?_ _ | refine blk_drew ?_ | refine blk_alloc ?_ _)); refine blk_put (cs := #[.int .i64 t869, .int .i64 t870, .bool t871, .bool false, .int .i64 0, .int .i64 0]) ?_ 3 _ rfl; (with_reducible repeat (first | refine blk_drewN ?_ _ | refine blk_drew ?_ | refine blk_alloc ?_ _)); refine blk_put (cs := #[.int .i64 t869, .int .i64 t870, .bool false, .bool false, .int .i64 0, .int .i64 0]) ?_ 2 _ rfl; (with_reducible repeat (first | refine blk_drewN ?_ _ | refine blk_drew ?_ | refine blk_alloc ?_ _)); refine blk_put (cs := #[.int .i64 t869, .int .i64 0, .bool false, .bool false, .int .i64 0, .int .i64 0]) ?_ 1 _ rfl; (with_reducible repeat (first | refine blk_drewN ?_ _ | refine blk_drew ?_ | refine blk_alloc ?_ _)); refine blk_put (cs := #[.int .i64 0, .int .i64 0, .bool false, .bool false, .int .i64 0, .int .i64 0]) ?_ 0 _ rfl; (with_reducible repeat (first | refine blk_drewN ?_ _ | refine blk_drew ?_ | refine blk_alloc ?_ _)); exact BK876.out) hb); have n7_ := Aside0.mk (below_step (by repeat (first | (with_reducible first | exact HB.out | apply below_alloc | apply pw_below_drewN | apply below_drew1 | refine below_set ?_ GE847.out | refine below_set ?_ GE848.out | refine below_set ?_ GE858.out | refine below_set ?_ GE867.out | refine below_set ?_ GE876.out) | exact HB.out)) hb); have n8_ := Aside0.mk (hbox); have n9_ := Aside0.mk ((by rw [hg]; exact (below_size (by repeat (first | (with_reducible first | exact HB.out | apply below_alloc | apply pw_below_drewN | apply below_drew1 | refine below_set ?_ GE847.out | refine below_set ?_ GE848.out | refine below_set ?_ GE858.out | refine below_set ?_ GE867.out | refine below_set ?_ GE876.out) | exact HB.out))) : w.heap.size ≤ gb877)); have n10_ := Aside0.mk ((by rw [hg]; exact (below_size (by repeat (first | (with_reducible first | exact HB.out | apply below_alloc | apply pw_below_drewN | apply below_drew1 | refine below_set ?_ GE847.out | refine below_set ?_ GE848.out | refine below_set ?_ GE858.out | refine below_set ?_ GE867.out | refine below_set ?_ GE876.out) | exact HB.out))) : w.heap.size ≤ gb877)); have n11_ := Aside0.mk ((by rw [hg]; exact Nat.ne_of_lt (blk_lt (g := gb847) (o := .cells #[.slice A0_0 l0_0.length c0_0, .slice A0_1 l0_1.length c0_1] 25 (0, 0)) (by (with_reducible repeat (first | refine blk_drewN ?_ _ | refine blk_drew ?_ | refine blk_alloc ?_ _)); refine blk_far ?_ NB847_876.out _; (with_reducible repeat (first | refine blk_drewN ?_ _ | refine blk_drew ?_ | refine blk_alloc ?_ _)); refine blk_far ?_ NB847_876.out _; (with_reducible repeat (first | refine blk_drewN ?_ _ | refine blk_drew ?_ | refine blk_alloc ?_ _)); refine blk_far ?_ NB847_876.out _; (with_reducible repeat (first | refine blk_drewN ?_ _ | refine blk_drew ?_ | refine blk_alloc ?_ _)); refine blk_far ?_ NB847_876.out _; (with_reducible repeat (first | refine blk_drewN ?_ _ | refine blk_drew ?_ | refine blk_alloc ?_ _)); refine blk_far ?_ NB847_876.out _; (with_reducible repeat (first | refine blk_drewN ?_ _ | refine blk_drew ?_ | refine blk_alloc ?_ _)); refine blk_far ?_ NB847_876.out _; (with_reducible repeat (first | refine blk_drewN ?_ _ | refine blk_drew ?_ | refine blk_alloc ?_ _)); exact BK847.out)) : gb847 ≠ gb877)); have n12_ := Aside0.mk ((by rw [hg]; exact Nat.ne_of_gt (blk_lt (g := gb847) (o := .cells #[.slice A0_0 l0_0.length c0_0, .slice A0_1 l0_1.length c0_1] 25 (0, 0)) (by (with_reducible repeat (first | refine blk_drewN ?_ _ | refine blk_drew ?_ | refine blk_alloc ?_ _)); refine blk_far ?_ NB847_876.out _; (with_reducible repeat (first | refine blk_drewN ?_ _ | refine blk_drew ?_ | refine blk_alloc ?_ _)); refine blk_far ?_ NB847_876.out _; (with_reducible repeat (first | refine blk_drewN ?_ _ | refine blk_drew ?_ | refine blk_alloc ?_ _)); refine blk_far ?_ NB847_876.out _; (with_reducible repeat (first | refine blk_drewN ?_ _ | refine blk_drew ?_ | refine blk_alloc ?_ _)); refine blk_far ?_ NB847_876.out _; (with_reducible repeat (first | refine blk_drewN ?_ _ | refine blk_drew ?_ | refine blk_alloc ?_ _)); refine blk_far ?_ NB847_876.out _; (with_reducible repeat (first | refine blk_drewN ?_ _ | refine blk_drew ?_ | refine blk_alloc ?_ _)); refine blk_far ?_ NB847_876.out _; (with_reducible repeat (first | refine blk_drewN ?_ _ | refine blk_drew ?_ | refine blk_alloc ?_ _)); exact BK847.out)) : gb877 ≠ gb847)); have n13_ := Aside0.mk ((by rw [hg]; exact Nat.ne_of_lt (blk_lt (g := gb848) (o := .cells #[.int .i64 a2_0, .int .i64 a2_1, .bool a2_2, .bool a2_3, .int .i64 a2_4, .int .i64 a2_5] 38 (0, 0)) (by (with_reducible repeat (first | refine blk_drewN ?_ _ | refine blk_drew ?_ | refine blk_alloc ?_ _)); refine blk_far ?_ NB848_876.out _; (with_reducible repeat (first | refine blk_drewN ?_ _ | refine blk_drew ?_ | refine blk_alloc ?_ _)); refine blk_far ?_ NB848_876.out _; (with_reducible repeat (first | refine blk_drewN ?_ _ | refine blk_drew ?_ | refine blk_alloc ?_ _)); refine blk_far ?_ NB848_876.out _; (with_reducible repeat (first | refine blk_drewN ?_ _ | refine blk_drew ?_ | refine blk_alloc ?_ _)); refine blk_far ?_ NB848_876.out _; (with_reducible repeat (first | refine blk_drewN ?_ _ | refine blk_drew ?_ | refine blk_alloc ?_ _)); refine blk_far ?_ NB848_876.out _; (with_reducible repeat (first | refine blk_drewN ?_ _ | refine blk_drew ?_ | refine blk_alloc ?_ _)); refine blk_far ?_ NB848_876.out _; (with_reducible repeat (first | refine blk_drewN ?_ _ | refine blk_drew ?_ | refine blk_alloc ?_ _)); exact BK848.out)) : gb848 ≠ gb877)); have n14_ := Aside0.mk ((by rw [hg]; exact Nat.ne_of_gt (blk_lt (g := gb848) (o := .cells #[.int .i64 a2_0, .int .i64 a2_1, .bool a2_2, .bool a2_3, .int .i64 a2_4, .int .i64 a2_5] 38 (0, 0)) (by (with_reducible repeat (first | refine blk_drewN ?_ _ | refine blk_drew ?_ | refine blk_alloc ?_ _)); refine blk_far ?_ NB848_876.out _; (with_reducible repeat (first | refine blk_drewN ?_ _ | refine blk_drew ?_ | refine blk_alloc ?_ _)); refine blk_far ?_ NB848_876.out _; (with_reducible repeat (first | refine blk_drewN ?_ _ | refine blk_drew ?_ | refine blk_alloc ?_ _)); refine blk_far ?_ NB848_876.out _; (with_reducible repeat (first | refine blk_drewN ?_ _ | refine blk_drew ?_ | refine blk_alloc ?_ _)); refine blk_far ?_ NB848_876.out _; (with_reducible repeat (first | refine blk_drewN ?_ _ | refine blk_drew ?_ | refine blk_alloc ?_ _)); refine blk_far ?_ NB848_876.out _; (with_reducible repeat (first | refine blk_drewN ?_ _ | refine blk_drew ?_ | refine blk_alloc ?_ _)); refine blk_far ?_ NB848_876.out _; (with_reducible repeat (first | refine blk_drewN ?_ _ | refine blk_drew ?_ | refine blk_alloc ?_ _)); exact BK848.out)) : gb877 ≠ gb848)); have n15_ := Aside0.mk ((by rw [hg]; exact Nat.ne_of_lt (blk_lt (g := gb858) (o := .cells #[.slice Ao26 t852.length co26, .slice Ao30 t855.length co30] 25 (0, 0)) (by (with_reducible repeat (first | refine blk_drewN ?_ _ | refine blk_drew ?_ | refine blk_alloc ?_ _)); refine blk_far ?_ NB858_876.out _; (with_reducible repeat (first | refine blk_drewN ?_ _ | refine blk_drew ?_ | refine blk_alloc ?_ _)); refine blk_far ?_ NB858_876.out _; (with_reducible repeat (first | refine blk_drewN ?_ _ | refine blk_drew ?_ | refine blk_alloc ?_ _)); refine blk_far ?_ NB858_876.out _; (with_reducible repeat (first | refine blk_drewN ?_ _ | refine blk_drew ?_ | refine blk_alloc ?_ _)); refine blk_far ?_ NB858_876.out _; (with_reducible repeat (first | refine blk_drewN ?_ _ | refine blk_drew ?_ | refine blk_alloc ?_ _)); refine blk_far ?_ NB858_876.out _; (with_reducible repeat (first | refine blk_drewN ?_ _ | refine blk_drew ?_ | refine blk_alloc ?_ _)); refine blk_far ?_ NB858_876.out _; (with_reducible repeat (first | refine blk_drewN ?_ _ | refine blk_drew ?_ | refine blk_alloc ?_ _)); exact BK858.out)) : gb858 ≠ gb877)); have n16_ := Aside0.mk ((by rw [hg]; exact Nat.ne_of_gt (blk_lt (g := gb858) (o := .cells #[.slice Ao26 t852.length co26, .slice Ao30 t855.length co30] 25 (0, 0)) (by (with_reducible repeat (first | refine blk_drewN ?_ _ | refine blk_drew ?_ | refine blk_alloc ?_ _)); refine blk_far ?_ NB858_876.out _; (with_reducible repeat (first | refine blk_drewN ?_ _ | refine blk_drew ?_ | refine blk_alloc ?_ _)); refine blk_far ?_ NB858_876.out _; (with_reducible repeat (first | refine blk_drewN ?_ _ | refine blk_drew ?_ | refine blk_alloc ?_ _)); refine blk_far ?_ NB858_876.out _; (with_reducible repeat (first | refine blk_drewN ?_ _ | refine blk_drew ?_ | refine blk_alloc ?_ _)); refine blk_far ?_ NB858_876.out _; (with_reducible repeat (first | refine blk_drewN ?_ _ | refine blk_drew ?_ | refine blk_alloc ?_ _)); refine blk_far ?_ NB858_876.out _; (with_reducible repeat (first | refine blk_drewN ?_ _ | refine blk_drew ?_ | refine blk_alloc ?_ _)); refine blk_far ?_ NB858_876.out _; (with_reducible repeat (first | refine blk_drewN ?_ _ | refine blk_drew ?_ | refine blk_alloc ?_ _)); exact BK858.out)) : gb877 ≠ gb858)); have n17_ := Aside0.mk ((by rw [hg]; exact Nat.ne_of_lt (blk_lt (g := gb867) (o := .cells #[.int .i64 t860, .int .i64 t861, .bool t862, .bool t863, .int .i64 t864, .int .i64 t865] 38 (0, 0)) (by (with_reducible repeat (first | refine blk_drewN ?_ _ | refine blk_drew ?_ | refine blk_alloc ?_ _)); refine blk_far ?_ NB867_876.out _; (with_reducible repeat (first | refine blk_drewN ?_ _ | refine blk_drew ?_ | refine blk_alloc ?_ _)); refine blk_far ?_ NB867_876.out _; (with_reducible repeat (first | refine blk_drewN ?_ _ | refine blk_drew ?_ | refine blk_alloc ?_ _)); refine blk_far ?_ NB867_876.out _; (with_reducible repeat (first | refine blk_drewN ?_ _ | refine blk_drew ?_ | refine blk_alloc ?_ _)); refine blk_far ?_ NB867_876.out _; (with_reducible repeat (first | refine blk_drewN ?_ _ | refine blk_drew ?_ | refine blk_alloc ?_ _)); refine blk_far ?_ NB867_876.out _; (with_reducible repeat (first | refine blk_drewN ?_ _ | refine blk_drew ?_ | refine blk_alloc ?_ _)); refine blk_far ?_ NB867_876.out _; (with_reducible repeat (first | refine blk_drewN ?_ _ | refine blk_drew ?_ | refine blk_alloc ?_ _)); exact BK867.out)) : gb867 ≠ gb877)); have n18_ := Aside0.mk ((by rw [hg]; exact Nat.ne_of_gt (blk_lt (g := gb867) (o := .cells #[.int .i64 t860, .int .i64 t861, .bool t862, .bool t863, .int .i64 t864, .int .i64 t865] 38 (0, 0)) (by (with_reducible repeat (first | refine blk_drewN ?_ _ | refine blk_drew ?_ | refine blk_alloc ?_ _)); refine blk_far ?_ NB867_876.out _; (with_reducible repeat (first | refine blk_drewN ?_ _ | refine blk_drew ?_ | refine blk_alloc ?_ _)); refine blk_far ?_ NB867_876.out _; (with_reducible repeat (first | refine blk_drewN ?_ _ | refine blk_drew ?_ | refine blk_alloc ?_ _)); refine blk_far ?_ NB867_876.out _; (with_reducible repeat (first | refine blk_drewN ?_ _ | refine blk_drew ?_ | refine blk_alloc ?_ _)); refine blk_far ?_ NB867_876.out _; (with_reducible repeat (first | refine blk_drewN ?_ _ | refine blk_drew ?_ | refine blk_alloc ?_ _)); refine blk_far ?_ NB867_876.out _; (with_reducible repeat (first | refine blk_drewN ?_ _ | refine blk_drew ?_ | refine blk_alloc ?_ _)); refine blk_far ?_ NB867_876.out _; (with_reducible repeat (first | refine blk_drewN ?_ _ | refine blk_drew ?_ | refine blk_alloc ?_ _)); exact BK867.out)) : gb877 ≠ gb867)); have n19_ := Aside0.mk ((by rw [hg]; exact Nat.ne_of_lt (blk_lt (g := gb876) (o := .cells #[.int .i64 t869, .int .i64 t870, .bool t871, .bool t872, .int .i64 t873, .int .i64 t874] 38 (0, 0)) (by (with_reducible repeat (first | refine blk_drewN ?_ _ | refine blk_drew ?_ | refine blk_alloc ?_ _)); refine blk_put (cs := #[.int .i64 t869, .int .i64 t870, .bool t871, .bool t872, .int .i64 t873, .int .i64 0]) ?_ 5 _ rfl; (with_reducible repeat (first | refine blk_drewN ?_ _ | refine blk_drew ?_ | refine blk_alloc ?_ _)); refine blk_put (cs := #[.int .i64 t869, .int .i64 t870, .bool t871, .bool t872, .int .i64 0, .int .i64 0]) ?_ 4 _ rfl; (with_reducible repeat (first | refine blk_drewN ?_ _ | refine blk_drew ?_ | refine blk_alloc ?_ _)); refine blk_put (cs := #[.int .i64 t869, .int .i64 t870, .bool t871, .bool false, .int .i64 0, .int .i64 0]) ?_ 3 _ rfl; (with_reducible repeat (first | refine blk_drewN ?_ _ | refine blk_drew ?_ | refine blk_alloc ?_ _)); refine blk_put (cs := #[.int .i64 t869, .int .i64 t870, .bool false, .bool false, .int .i64 0, .int .i64 0]) ?_ 2 _ rfl; (with_reducible repeat (first | refine blk_drewN ?_ _ | refine blk_drew ?_ | refine blk_alloc ?_ _)); refine blk_put (cs := #[.int .i64 t869, .int .i64 0, .bool false, .bool false, .int .i64 0, .int .i64 0]) ?_ 1 _ rfl; (with_reducible repeat (first | refine blk_drewN ?_ _ | refine blk_drew ?_ | refine blk_alloc ?_ _)); refine blk_put (cs := #[.int .i64 0, .int .i64 0, .bool false, .bool false, .int .i64 0, .int .i64 0]) ?_ 0 _ rfl; (with_reducible repeat (first | refine blk_drewN ?_ _ | refine blk_drew ?_ | refine blk_alloc ?_ _)); exact BK876.out)) : gb876 ≠ gb877)); have n20_ := Aside0.mk ((by rw [hg]; exact Nat.ne_of_gt (blk_lt (g := gb876) (o := .cells #[.int .i64 t869, .int .i64 t870, .bool t871, .bool t872, .int .i64 t873, .int .i64 t874] 38 (0, 0)) (by (with_reducible repeat (first | refine blk_drewN ?_ _ | refine blk_drew ?_ | refine blk_alloc ?_ _)); refine blk_put (cs := #[.int .i64 t869, .int .i64 t870, .bool t871, .bool t872, .int .i64 t873, .int .i64 0]) ?_ 5 _ rfl; (with_reducible repeat (first | refine blk_drewN ?_ _ | refine blk_drew ?_ | refine blk_alloc ?_ _)); refine blk_put (cs := #[.int .i64 t869, .int .i64 t870, .bool t871, .bool t872, .int .i64 0, .int .i64 0]) ?_ 4 _ rfl; (with_reducible repeat (first | refine blk_drewN ?_ _ | refine blk_drew ?_ | refine blk_alloc ?_ _)); refine blk_put (cs := #[.int .i64 t869, .int .i64 t870, .bool t871, .bool false, .int .i64 0, .int .i64 0]) ?_ 3 _ rfl; (with_reducible repeat (first | refine blk_drewN ?_ _ | refine blk_drew ?_ | refine blk_alloc ?_ _)); refine blk_put (cs := #[.int .i64 t869, .int .i64 t870, .bool false, .bool false, .int .i64 0, .int .i64 0]) ?_ 2 _ rfl; (with_reducible repeat (first | refine blk_drewN ?_ _ | refine blk_drew ?_ | refine blk_alloc ?_ _)); refine blk_put (cs := #[.int .i64 t869, .int .i64 0, .bool false, .bool false, .int .i64 0, .int .i64 0]) ?_ 1 _ rfl; (with_reducible repeat (first | refine blk_drewN ?_ _ | refine blk_drew ?_ | refine blk_alloc ?_ _)); refine blk_put (cs := #[.int .i64 0, .int .i64 0, .bool false, .bool false, .int .i64 0, .int .i64 0]) ?_ 0 _ rfl; (with_reducible repeat (first | refine blk_drewN ?_ _ | refine blk_drew ?_ | refine blk_alloc ?_ _)); exact BK876.out)) : gb877 ≠ gb876)); clear HO_859000; clear HO_859001; clear BK847; clear BK848; clear BK858; clear BK867; clear BK876; clear HB; have HO_859000 := n0_; have HO_859001 := n1_; have BK847 := n2_; have BK848 := n3_; have BK858 := n4_; have BK867 := n5_; have BK876 := n6_; have HB := n7_; have BK877 := n8_; have GW877 := n9_; have GE877 := n10_; have NB847_877 := n11_; have NB877_847 := n12_; have NB848_877 := n13_; have NB877_848 := n14_; have NB858_877 := n15_; have NB877_858 := n16_; have NB867_877 := n17_; have NB877_867 := n18_; have NB876_877 := n19_; have NB877_876 := n20_; clear n0_ n1_ n2_ n3_ n4_ n5_ n6_ n7_ n8_ n9_ n10_ n11_ n12_ n13_ n14_ n15_ n16_ n17_ n18_ n19_ n20_; clear hb hbox hg; have hnb59 := NB877_847.out; have hnc59 := NB847_877.out; have hnb60 := NB877_848.out; have hnc60 := NB848_877.out; have hnb61 := NB877_858.out; have hnc61 := NB858_877.out; have hnb62 := NB877_867.out; have hnc62 := NB867_877.out; have hnb63 := NB877_876.out; have hnc63 := NB876_877.out; have hcz64_0 : w58.cell? ⟨gb877, 0, none⟩ = some (.int .i64 0) := (blk_cell BK877.out 0).trans rfl; have hcz64_1 : w58.cell? ⟨gb877, 1, none⟩ = some (.int .i64 0) := (blk_cell BK877.out 1).trans rfl; have hcz64_2 : w58.cell? ⟨gb877, 2, none⟩ = some (.bool false) := (blk_cell BK877.out 2).trans rfl; have hcz64_3 : w58.cell? ⟨gb877, 3, none⟩ = some (.bool false) := (blk_cell BK877.out 3).trans rfl; have hcz64_4 : w58.cell? ⟨gb877, 4, none⟩ = some (.int .i64 0) := (blk_cell BK877.out 4).trans rfl; have hcz64_5 : w58.cell? ⟨gb877, 5, none⟩ = some (.int .i64 0) := (blk_cell BK877.out 5).trans rfl; have hfz64_0 := blk_frozen BK877.out 0; have hfz64_1 := blk_frozen BK877.out 1; have hfz64_2 := blk_frozen BK877.out 2; have hfz64_3 := blk_frozen BK877.out 3; have hfz64_4 := blk_frozen BK877.out 4; have hfz64_5 := blk_frozen BK877.out 5))
                    (try simp only [Act.put, List.setIfInBounds_toArray, List.set_cons_zero, List.set_cons_succ])
                    go_cut [62] (fun v62 wc => ∃ (kq : Nat) (x62_37 : Bool), v62 = .bool x62_37 ∧ Aside0 (flagstonelaw10_HandleSets.j3 kq a1 x8_2 x9_3 t859 t866 t868 t875 x62_37 l0_0 l0_1 a2_0 a2_1 a2_2 a2_3 a2_4 a2_5 t852 t855 t860 t861 t862 t863 t864 t865 t869 t870 t871 t872 t873 t874 t860 t861 t862 t863 t864 t865 = some r) ∧ Aside0 (kq ≤ k3) ∧ Aside0 (Kd.V k38 38 wc w.heap.size (fun k_ => k_ ≠ gb847 ∧ k_ ≠ gb848 ∧ k_ ≠ gb858 ∧ k_ ≠ gb867 ∧ k_ ≠ gb876 ∧ k_ ≠ gb877) (.slice Ao26 t852.length co26) t852) ∧ Aside0 (Kd.V (Kd.slice 3 (Kd.int .i64)) 64 wc w.heap.size (fun k_ => k_ ≠ gb847 ∧ k_ ≠ gb848 ∧ k_ ≠ gb858 ∧ k_ ≠ gb867 ∧ k_ ≠ gb876 ∧ k_ ≠ gb877) (.slice Ao30 t855.length co30) t855) ∧ Aside0 (wc.heap[gb847]? = some (.cells #[(.slice A0_0 l0_0.length c0_0), (.slice A0_1 l0_1.length c0_1)] 25 (0, 0))) ∧ Aside0 (wc.heap[gb848]? = some (.cells #[.int .i64 a2_0, .int .i64 a2_1, .bool a2_2, .bool a2_3, .int .i64 a2_4, .int .i64 a2_5] 38 (0, 0))) ∧ Aside0 (wc.heap[gb858]? = some (.cells #[(.slice Ao26 t852.length co26), (.slice Ao30 t855.length co30)] 25 (0, 0))) ∧ Aside0 (wc.heap[gb867]? = some (.cells #[.int .i64 t860, .int .i64 t861, .bool t862, .bool t863, .int .i64 t864, .int .i64 t865] 38 (0, 0))) ∧ Aside0 (wc.heap[gb876]? = some (.cells #[.int .i64 t869, .int .i64 t870, .bool t871, .bool t872, .int .i64 t873, .int .i64 t874] 38 (0, 0))) ∧ Aside0 (wc.heap[gb877]? = some (.cells #[.int .i64 t860, .int .i64 t861, .bool t862, .bool t863, .int .i64 t864, .int .i64 t865] 38 (0, 0))) ∧ Aside0 (Below w.heap.size w wc))
                    case first =>
                      have H := HC38.out
                      clear HC38
                      by_cases c65 : t866 = true
                      · subst c65
                        have H1 : (flagstonelaw10_HandleSets.j3 k3 a1 x8_2 x9_3 t859 true t868 t875 (t859 == a1) l0_0 l0_1 a2_0 a2_1 a2_2 a2_3 a2_4 a2_5 t852 t855 t860 t861 t862 t863 t864 t865 t869 t870 t871 t872 t873 t874 t860 t861 t862 t863 t864 t865) = some r := by rw [if_pos rfl] at H; exact H
                        clear H
                        have H := H1
                        clear H1
                        have H' := Aside0.mk H
                        clear H
                        go_wp2
                        go_meet
                        case rel => exact ⟨_, ((t859 == a1)), (by first | rfl | (simp; done) | (simp [*]; done)), H', ⟨by have := HJ3.out; have := HK2.out; have := HK3.out; first | omega | exact Nat.le_refl _⟩, ⟨by (with_reducible repeat (first | apply Kd.V_alloc | apply Kd.V_drewN | apply Kd.V_drew)); exact Kd.V_mono (Kd.V_far (p := ⟨gb877, 5, none⟩) (Kd.V_far (p := ⟨gb877, 4, none⟩) (Kd.V_far (p := ⟨gb877, 3, none⟩) (Kd.V_far (p := ⟨gb877, 2, none⟩) (Kd.V_far (p := ⟨gb877, 1, none⟩) (Kd.V_far (p := ⟨gb877, 0, none⟩) (Kd.V_mono HO_859000.out (fun k_ hk => (⟨hk, hk.2⟩ : _ ∧ k_ ≠ gb877))) (fun _ hk => hk.2) (.int .i64 t860)) (fun _ hk => hk.2) (.int .i64 t861)) (fun _ hk => hk.2) (.bool t862)) (fun _ hk => hk.2) (.bool t863)) (fun _ hk => hk.2) (.int .i64 t864)) (fun _ hk => hk.2) (.int .i64 t865)) (fun _ hk => ⟨hk.1.1.1.1.1, ⟨hk.1.1.1.1.2.1, ⟨hk.1.1.1.1.2.2, ⟨hk.1.1.1.2, ⟨hk.1.1.2, hk.1.2⟩⟩⟩⟩⟩)⟩, ⟨by (with_reducible repeat (first | apply Kd.V_alloc | apply Kd.V_drewN | apply Kd.V_drew)); exact Kd.V_mono (Kd.V_far (p := ⟨gb877, 5, none⟩) (Kd.V_far (p := ⟨gb877, 4, none⟩) (Kd.V_far (p := ⟨gb877, 3, none⟩) (Kd.V_far (p := ⟨gb877, 2, none⟩) (Kd.V_far (p := ⟨gb877, 1, none⟩) (Kd.V_far (p := ⟨gb877, 0, none⟩) (Kd.V_mono HO_859001.out (fun k_ hk => (⟨hk, hk.2⟩ : _ ∧ k_ ≠ gb877))) (fun _ hk => hk.2) (.int .i64 t860)) (fun _ hk => hk.2) (.int .i64 t861)) (fun _ hk => hk.2) (.bool t862)) (fun _ hk => hk.2) (.bool t863)) (fun _ hk => hk.2) (.int .i64 t864)) (fun _ hk => hk.2) (.int .i64 t865)) (fun _ hk => ⟨hk.1.1.1.1.1, ⟨hk.1.1.1.1.2.1, ⟨hk.1.1.1.1.2.2, ⟨hk.1.1.1.2, ⟨hk.1.1.2, hk.1.2⟩⟩⟩⟩⟩)⟩, ⟨by (with_reducible repeat (first | refine blk_drewN ?_ _ | refine blk_drew ?_ | refine blk_alloc ?_ _)); refine blk_far ?_ NB847_877.out _; (with_reducible repeat (first | refine blk_drewN ?_ _ | refine blk_drew ?_ | refine blk_alloc ?_ _)); refine blk_far ?_ NB847_877.out _; (with_reducible repeat (first | refine blk_drewN ?_ _ | refine blk_drew ?_ | refine blk_alloc ?_ _)); refine blk_far ?_ NB847_877.out _; (with_reducible repeat (first | refine blk_drewN ?_ _ | refine blk_drew ?_ | refine blk_alloc ?_ _)); refine blk_far ?_ NB847_877.out _; (with_reducible repeat (first | refine blk_drewN ?_ _ | refine blk_drew ?_ | refine blk_alloc ?_ _)); refine blk_far ?_ NB847_877.out _; (with_reducible repeat (first | refine blk_drewN ?_ _ | refine blk_drew ?_ | refine blk_alloc ?_ _)); refine blk_far ?_ NB847_877.out _; (with_reducible repeat (first | refine blk_drewN ?_ _ | refine blk_drew ?_ | refine blk_alloc ?_ _)); exact BK847.out⟩, ⟨by (with_reducible repeat (first | refine blk_drewN ?_ _ | refine blk_drew ?_ | refine blk_alloc ?_ _)); refine blk_far ?_ NB848_877.out _; (with_reducible repeat (first | refine blk_drewN ?_ _ | refine blk_drew ?_ | refine blk_alloc ?_ _)); refine blk_far ?_ NB848_877.out _; (with_reducible repeat (first | refine blk_drewN ?_ _ | refine blk_drew ?_ | refine blk_alloc ?_ _)); refine blk_far ?_ NB848_877.out _; (with_reducible repeat (first | refine blk_drewN ?_ _ | refine blk_drew ?_ | refine blk_alloc ?_ _)); refine blk_far ?_ NB848_877.out _; (with_reducible repeat (first | refine blk_drewN ?_ _ | refine blk_drew ?_ | refine blk_alloc ?_ _)); refine blk_far ?_ NB848_877.out _; (with_reducible repeat (first | refine blk_drewN ?_ _ | refine blk_drew ?_ | refine blk_alloc ?_ _)); refine blk_far ?_ NB848_877.out _; (with_reducible repeat (first | refine blk_drewN ?_ _ | refine blk_drew ?_ | refine blk_alloc ?_ _)); exact BK848.out⟩, ⟨by (with_reducible repeat (first | refine blk_drewN ?_ _ | refine blk_drew ?_ | refine blk_alloc ?_ _)); refine blk_far ?_ NB858_877.out _; (with_reducible repeat (first | refine blk_drewN ?_ _ | refine blk_drew ?_ | refine blk_alloc ?_ _)); refine blk_far ?_ NB858_877.out _; (with_reducible repeat (first | refine blk_drewN ?_ _ | refine blk_drew ?_ | refine blk_alloc ?_ _)); refine blk_far ?_ NB858_877.out _; (with_reducible repeat (first | refine blk_drewN ?_ _ | refine blk_drew ?_ | refine blk_alloc ?_ _)); refine blk_far ?_ NB858_877.out _; (with_reducible repeat (first | refine blk_drewN ?_ _ | refine blk_drew ?_ | refine blk_alloc ?_ _)); refine blk_far ?_ NB858_877.out _; (with_reducible repeat (first | refine blk_drewN ?_ _ | refine blk_drew ?_ | refine blk_alloc ?_ _)); refine blk_far ?_ NB858_877.out _; (with_reducible repeat (first | refine blk_drewN ?_ _ | refine blk_drew ?_ | refine blk_alloc ?_ _)); exact BK858.out⟩, ⟨by (with_reducible repeat (first | refine blk_drewN ?_ _ | refine blk_drew ?_ | refine blk_alloc ?_ _)); refine blk_far ?_ NB867_877.out _; (with_reducible repeat (first | refine blk_drewN ?_ _ | refine blk_drew ?_ | refine blk_alloc ?_ _)); refine blk_far ?_ NB867_877.out _; (with_reducible repeat (first | refine blk_drewN ?_ _ | refine blk_drew ?_ | refine blk_alloc ?_ _)); refine blk_far ?_ NB867_877.out _; (with_reducible repeat (first | refine blk_drewN ?_ _ | refine blk_drew ?_ | refine blk_alloc ?_ _)); refine blk_far ?_ NB867_877.out _; (with_reducible repeat (first | refine blk_drewN ?_ _ | refine blk_drew ?_ | refine blk_alloc ?_ _)); refine blk_far ?_ NB867_877.out _; (with_reducible repeat (first | refine blk_drewN ?_ _ | refine blk_drew ?_ | refine blk_alloc ?_ _)); refine blk_far ?_ NB867_877.out _; (with_reducible repeat (first | refine blk_drewN ?_ _ | refine blk_drew ?_ | refine blk_alloc ?_ _)); exact BK867.out⟩, ⟨by (with_reducible repeat (first | refine blk_drewN ?_ _ | refine blk_drew ?_ | refine blk_alloc ?_ _)); refine blk_far ?_ NB876_877.out _; (with_reducible repeat (first | refine blk_drewN ?_ _ | refine blk_drew ?_ | refine blk_alloc ?_ _)); refine blk_far ?_ NB876_877.out _; (with_reducible repeat (first | refine blk_drewN ?_ _ | refine blk_drew ?_ | refine blk_alloc ?_ _)); refine blk_far ?_ NB876_877.out _; (with_reducible repeat (first | refine blk_drewN ?_ _ | refine blk_drew ?_ | refine blk_alloc ?_ _)); refine blk_far ?_ NB876_877.out _; (with_reducible repeat (first | refine blk_drewN ?_ _ | refine blk_drew ?_ | refine blk_alloc ?_ _)); refine blk_far ?_ NB876_877.out _; (with_reducible repeat (first | refine blk_drewN ?_ _ | refine blk_drew ?_ | refine blk_alloc ?_ _)); refine blk_far ?_ NB876_877.out _; (with_reducible repeat (first | refine blk_drewN ?_ _ | refine blk_drew ?_ | refine blk_alloc ?_ _)); exact BK876.out⟩, ⟨by (with_reducible repeat (first | refine blk_drewN ?_ _ | refine blk_drew ?_ | refine blk_alloc ?_ _)); refine blk_put (cs := #[.int .i64 t860, .int .i64 t861, .bool t862, .bool t863, .int .i64 t864, .int .i64 0]) ?_ 5 _ rfl; (with_reducible repeat (first | refine blk_drewN ?_ _ | refine blk_drew ?_ | refine blk_alloc ?_ _)); refine blk_put (cs := #[.int .i64 t860, .int .i64 t861, .bool t862, .bool t863, .int .i64 0, .int .i64 0]) ?_ 4 _ rfl; (with_reducible repeat (first | refine blk_drewN ?_ _ | refine blk_drew ?_ | refine blk_alloc ?_ _)); refine blk_put (cs := #[.int .i64 t860, .int .i64 t861, .bool t862, .bool false, .int .i64 0, .int .i64 0]) ?_ 3 _ rfl; (with_reducible repeat (first | refine blk_drewN ?_ _ | refine blk_drew ?_ | refine blk_alloc ?_ _)); refine blk_put (cs := #[.int .i64 t860, .int .i64 t861, .bool false, .bool false, .int .i64 0, .int .i64 0]) ?_ 2 _ rfl; (with_reducible repeat (first | refine blk_drewN ?_ _ | refine blk_drew ?_ | refine blk_alloc ?_ _)); refine blk_put (cs := #[.int .i64 t860, .int .i64 0, .bool false, .bool false, .int .i64 0, .int .i64 0]) ?_ 1 _ rfl; (with_reducible repeat (first | refine blk_drewN ?_ _ | refine blk_drew ?_ | refine blk_alloc ?_ _)); refine blk_put (cs := #[.int .i64 0, .int .i64 0, .bool false, .bool false, .int .i64 0, .int .i64 0]) ?_ 0 _ rfl; (with_reducible repeat (first | refine blk_drewN ?_ _ | refine blk_drew ?_ | refine blk_alloc ?_ _)); exact BK877.out⟩, ⟨by repeat (first | (with_reducible first | exact HB.out | apply below_alloc | apply pw_below_drewN | apply below_drew1 | refine below_set ?_ GE847.out | refine below_set ?_ GE848.out | refine below_set ?_ GE858.out | refine below_set ?_ GE867.out | refine below_set ?_ GE876.out | refine below_set ?_ GE877.out) | exact HB.out)⟩⟩
                      · replace c65 := Bool.eq_false_iff.mpr c65
                        subst c65
                        have H1 : (flagstonelaw10_HandleSets.j3 k3 a1 x8_2 x9_3 t859 false t868 t875 false l0_0 l0_1 a2_0 a2_1 a2_2 a2_3 a2_4 a2_5 t852 t855 t860 t861 t862 t863 t864 t865 t869 t870 t871 t872 t873 t874 t860 t861 t862 t863 t864 t865) = some r := by rw [if_neg (show ¬ (false = true) by decide)] at H; exact H
                        clear H
                        have H := H1
                        clear H1
                        have H' := Aside0.mk H
                        clear H
                        go_wp2
                        go_meet
                        case rel => exact ⟨_, (false), (by first | rfl | (simp; done) | (simp [*]; done)), H', ⟨by have := HJ3.out; have := HK2.out; have := HK3.out; first | omega | exact Nat.le_refl _⟩, ⟨by (with_reducible repeat (first | apply Kd.V_alloc | apply Kd.V_drewN | apply Kd.V_drew)); exact Kd.V_mono (Kd.V_far (p := ⟨gb877, 5, none⟩) (Kd.V_far (p := ⟨gb877, 4, none⟩) (Kd.V_far (p := ⟨gb877, 3, none⟩) (Kd.V_far (p := ⟨gb877, 2, none⟩) (Kd.V_far (p := ⟨gb877, 1, none⟩) (Kd.V_far (p := ⟨gb877, 0, none⟩) (Kd.V_mono HO_859000.out (fun k_ hk => (⟨hk, hk.2⟩ : _ ∧ k_ ≠ gb877))) (fun _ hk => hk.2) (.int .i64 t860)) (fun _ hk => hk.2) (.int .i64 t861)) (fun _ hk => hk.2) (.bool t862)) (fun _ hk => hk.2) (.bool t863)) (fun _ hk => hk.2) (.int .i64 t864)) (fun _ hk => hk.2) (.int .i64 t865)) (fun _ hk => ⟨hk.1.1.1.1.1, ⟨hk.1.1.1.1.2.1, ⟨hk.1.1.1.1.2.2, ⟨hk.1.1.1.2, ⟨hk.1.1.2, hk.1.2⟩⟩⟩⟩⟩)⟩, ⟨by (with_reducible repeat (first | apply Kd.V_alloc | apply Kd.V_drewN | apply Kd.V_drew)); exact Kd.V_mono (Kd.V_far (p := ⟨gb877, 5, none⟩) (Kd.V_far (p := ⟨gb877, 4, none⟩) (Kd.V_far (p := ⟨gb877, 3, none⟩) (Kd.V_far (p := ⟨gb877, 2, none⟩) (Kd.V_far (p := ⟨gb877, 1, none⟩) (Kd.V_far (p := ⟨gb877, 0, none⟩) (Kd.V_mono HO_859001.out (fun k_ hk => (⟨hk, hk.2⟩ : _ ∧ k_ ≠ gb877))) (fun _ hk => hk.2) (.int .i64 t860)) (fun _ hk => hk.2) (.int .i64 t861)) (fun _ hk => hk.2) (.bool t862)) (fun _ hk => hk.2) (.bool t863)) (fun _ hk => hk.2) (.int .i64 t864)) (fun _ hk => hk.2) (.int .i64 t865)) (fun _ hk => ⟨hk.1.1.1.1.1, ⟨hk.1.1.1.1.2.1, ⟨hk.1.1.1.1.2.2, ⟨hk.1.1.1.2, ⟨hk.1.1.2, hk.1.2⟩⟩⟩⟩⟩)⟩, ⟨by (with_reducible repeat (first | refine blk_drewN ?_ _ | refine blk_drew ?_ | refine blk_alloc ?_ _)); refine blk_far ?_ NB847_877.out _; (with_reducible repeat (first | refine blk_drewN ?_ _ | refine blk_drew ?_ | refine blk_alloc ?_ _)); refine blk_far ?_ NB847_877.out _; (with_reducible repeat (first | refine blk_drewN ?_ _ | refine blk_drew ?_ | refine blk_alloc ?_ _)); refine blk_far ?_ NB847_877.out _; (with_reducible repeat (first | refine blk_drewN ?_ _ | refine blk_drew ?_ | refine blk_alloc ?_ _)); refine blk_far ?_ NB847_877.out _; (with_reducible repeat (first | refine blk_drewN ?_ _ | refine blk_drew ?_ | refine blk_alloc ?_ _)); refine blk_far ?_ NB847_877.out _; (with_reducible repeat (first | refine blk_drewN ?_ _ | refine blk_drew ?_ | refine blk_alloc ?_ _)); refine blk_far ?_ NB847_877.out _; (with_reducible repeat (first | refine blk_drewN ?_ _ | refine blk_drew ?_ | refine blk_alloc ?_ _)); exact BK847.out⟩, ⟨by (with_reducible repeat (first | refine blk_drewN ?_ _ | refine blk_drew ?_ | refine blk_alloc ?_ _)); refine blk_far ?_ NB848_877.out _; (with_reducible repeat (first | refine blk_drewN ?_ _ | refine blk_drew ?_ | refine blk_alloc ?_ _)); refine blk_far ?_ NB848_877.out _; (with_reducible repeat (first | refine blk_drewN ?_ _ | refine blk_drew ?_ | refine blk_alloc ?_ _)); refine blk_far ?_ NB848_877.out _; (with_reducible repeat (first | refine blk_drewN ?_ _ | refine blk_drew ?_ | refine blk_alloc ?_ _)); refine blk_far ?_ NB848_877.out _; (with_reducible repeat (first | refine blk_drewN ?_ _ | refine blk_drew ?_ | refine blk_alloc ?_ _)); refine blk_far ?_ NB848_877.out _; (with_reducible repeat (first | refine blk_drewN ?_ _ | refine blk_drew ?_ | refine blk_alloc ?_ _)); refine blk_far ?_ NB848_877.out _; (with_reducible repeat (first | refine blk_drewN ?_ _ | refine blk_drew ?_ | refine blk_alloc ?_ _)); exact BK848.out⟩, ⟨by (with_reducible repeat (first | refine blk_drewN ?_ _ | refine blk_drew ?_ | refine blk_alloc ?_ _)); refine blk_far ?_ NB858_877.out _; (with_reducible repeat (first | refine blk_drewN ?_ _ | refine blk_drew ?_ | refine blk_alloc ?_ _)); refine blk_far ?_ NB858_877.out _; (with_reducible repeat (first | refine blk_drewN ?_ _ | refine blk_drew ?_ | refine blk_alloc ?_ _)); refine blk_far ?_ NB858_877.out _; (with_reducible repeat (first | refine blk_drewN ?_ _ | refine blk_drew ?_ | refine blk_alloc ?_ _)); refine blk_far ?_ NB858_877.out _; (with_reducible repeat (first | refine blk_drewN ?_ _ | refine blk_drew ?_ | refine blk_alloc ?_ _)); refine blk_far ?_ NB858_877.out _; (with_reducible repeat (first | refine blk_drewN ?_ _ | refine blk_drew ?_ | refine blk_alloc ?_ _)); refine blk_far ?_ NB858_877.out _; (with_reducible repeat (first | refine blk_drewN ?_ _ | refine blk_drew ?_ | refine blk_alloc ?_ _)); exact BK858.out⟩, ⟨by (with_reducible repeat (first | refine blk_drewN ?_ _ | refine blk_drew ?_ | refine blk_alloc ?_ _)); refine blk_far ?_ NB867_877.out _; (with_reducible repeat (first | refine blk_drewN ?_ _ | refine blk_drew ?_ | refine blk_alloc ?_ _)); refine blk_far ?_ NB867_877.out _; (with_reducible repeat (first | refine blk_drewN ?_ _ | refine blk_drew ?_ | refine blk_alloc ?_ _)); refine blk_far ?_ NB867_877.out _; (with_reducible repeat (first | refine blk_drewN ?_ _ | refine blk_drew ?_ | refine blk_alloc ?_ _)); refine blk_far ?_ NB867_877.out _; (with_reducible repeat (first | refine blk_drewN ?_ _ | refine blk_drew ?_ | refine blk_alloc ?_ _)); refine blk_far ?_ NB867_877.out _; (with_reducible repeat (first | refine blk_drewN ?_ _ | refine blk_drew ?_ | refine blk_alloc ?_ _)); refine blk_far ?_ NB867_877.out _; (with_reducible repeat (first | refine blk_drewN ?_ _ | refine blk_drew ?_ | refine blk_alloc ?_ _)); exact BK867.out⟩, ⟨by (with_reducible repeat (first | refine blk_drewN ?_ _ | refine blk_drew ?_ | refine blk_alloc ?_ _)); refine blk_far ?_ NB876_877.out _; (with_reducible repeat (first | refine blk_drewN ?_ _ | refine blk_drew ?_ | refine blk_alloc ?_ _)); refine blk_far ?_ NB876_877.out _; (with_reducible repeat (first | refine blk_drewN ?_ _ | refine blk_drew ?_ | refine blk_alloc ?_ _)); refine blk_far ?_ NB876_877.out _; (with_reducible repeat (first | refine blk_drewN ?_ _ | refine blk_drew ?_ | refine blk_alloc ?_ _)); refine blk_far ?_ NB876_877.out _; (with_reducible repeat (first | refine blk_drewN ?_ _ | refine blk_drew ?_ | refine blk_alloc ?_ _)); refine blk_far ?_ NB876_877.out _; (with_reducible repeat (first | refine blk_drewN ?_ _ | refine blk_drew ?_ | refine blk_alloc ?_ _)); refine blk_far ?_ NB876_877.out _; (with_reducible repeat (first | refine blk_drewN ?_ _ | refine blk_drew ?_ | refine blk_alloc ?_ _)); exact BK876.out⟩, ⟨by (with_reducible repeat (first | refine blk_drewN ?_ _ | refine blk_drew ?_ | refine blk_alloc ?_ _)); refine blk_put (cs := #[.int .i64 t860, .int .i64 t861, .bool t862, .bool t863, .int .i64 t864, .int .i64 0]) ?_ 5 _ rfl; (with_reducible repeat (first | refine blk_drewN ?_ _ | refine blk_drew ?_ | refine blk_alloc ?_ _)); refine blk_put (cs := #[.int .i64 t860, .int .i64 t861, .bool t862, .bool t863, .int .i64 0, .int .i64 0]) ?_ 4 _ rfl; (with_reducible repeat (first | refine blk_drewN ?_ _ | refine blk_drew ?_ | refine blk_alloc ?_ _)); refine blk_put (cs := #[.int .i64 t860, .int .i64 t861, .bool t862, .bool false, .int .i64 0, .int .i64 0]) ?_ 3 _ rfl; (with_reducible repeat (first | refine blk_drewN ?_ _ | refine blk_drew ?_ | refine blk_alloc ?_ _)); refine blk_put (cs := #[.int .i64 t860, .int .i64 t861, .bool false, .bool false, .int .i64 0, .int .i64 0]) ?_ 2 _ rfl; (with_reducible repeat (first | refine blk_drewN ?_ _ | refine blk_drew ?_ | refine blk_alloc ?_ _)); refine blk_put (cs := #[.int .i64 t860, .int .i64 0, .bool false, .bool false, .int .i64 0, .int .i64 0]) ?_ 1 _ rfl; (with_reducible repeat (first | refine blk_drewN ?_ _ | refine blk_drew ?_ | refine blk_alloc ?_ _)); refine blk_put (cs := #[.int .i64 0, .int .i64 0, .bool false, .bool false, .int .i64 0, .int .i64 0]) ?_ 0 _ rfl; (with_reducible repeat (first | refine blk_drewN ?_ _ | refine blk_drew ?_ | refine blk_alloc ?_ _)); exact BK877.out⟩, ⟨by repeat (first | (with_reducible first | exact HB.out | apply below_alloc | apply pw_below_drewN | apply below_drew1 | refine below_set ?_ GE847.out | refine below_set ?_ GE848.out | refine below_set ?_ GE858.out | refine below_set ?_ GE867.out | refine below_set ?_ GE876.out | refine below_set ?_ GE877.out) | exact HB.out)⟩⟩
                    case rest =>
                      clear HC38
                      try clear c1
                      try clear c2
                      try clear p2
                      try clear c3
                      try clear c4
                      try clear c5
                      try clear c6
                      try clear c8
                      try clear c9
                      try clear c10
                      try clear c11
                      try clear c14
                      try clear c17
                      try clear c18
                      try clear c20
                      try clear c21
                      try clear c27
                      try clear c28
                      try clear c30
                      try clear c31
                      try clear c31b0
                      try clear c32
                      try clear c33
                      try clear c35
                      try clear c35b0
                      try clear c39
                      try clear c40
                      try clear c44
                      try clear c45
                      try clear c46
                      try clear c48
                      try clear c52
                      try clear c53
                      try clear c54
                      try clear c55
                      try clear c59
                      try clear c60
                      try clear c61
                      try clear c62
                      try clear c63
                      try clear c65
                      try clear hcz11_0
                      try clear hcz11_1
                      try clear hcz15_0
                      try clear hcz15_1
                      try clear hcz22_0
                      try clear hcz22_1
                      try clear hcz23_0
                      try clear hcz23_1
                      try clear hcz23_2
                      try clear hcz23_3
                      try clear hcz23_4
                      try clear hcz23_5
                      try clear hcz29_0
                      try clear hcz29_1
                      try clear hcz34_0
                      try clear hcz34_1
                      try clear hcz41_0
                      try clear hcz41_1
                      try clear hcz47_0
                      try clear hcz47_1
                      try clear hcz47_2
                      try clear hcz47_3
                      try clear hcz47_4
                      try clear hcz47_5
                      try clear hcz49_0
                      try clear hcz49_1
                      try clear hcz56_0
                      try clear hcz56_1
                      try clear hcz56_2
                      try clear hcz56_3
                      try clear hcz56_4
                      try clear hcz56_5
                      try clear hcz57_0
                      try clear hcz57_1
                      try clear hcz57_2
                      try clear hcz57_3
                      try clear hcz57_4
                      try clear hcz57_5
                      try clear hcz64_0
                      try clear hcz64_1
                      try clear hcz64_2
                      try clear hcz64_3
                      try clear hcz64_4
                      try clear hcz64_5
                      try clear hfz11_0
                      try clear hfz11_1
                      try clear hfz15_0
                      try clear hfz15_1
                      try clear hfz22_0
                      try clear hfz22_1
                      try clear hfz23_0
                      try clear hfz23_1
                      try clear hfz23_2
                      try clear hfz23_3
                      try clear hfz23_4
                      try clear hfz23_5
                      try clear hfz29_0
                      try clear hfz29_1
                      try clear hfz34_0
                      try clear hfz34_1
                      try clear hfz41_0
                      try clear hfz41_1
                      try clear hfz47_0
                      try clear hfz47_1
                      try clear hfz47_2
                      try clear hfz47_3
                      try clear hfz47_4
                      try clear hfz47_5
                      try clear hfz49_0
                      try clear hfz49_1
                      try clear hfz56_0
                      try clear hfz56_1
                      try clear hfz56_2
                      try clear hfz56_3
                      try clear hfz56_4
                      try clear hfz56_5
                      try clear hfz57_0
                      try clear hfz57_1
                      try clear hfz57_2
                      try clear hfz57_3
                      try clear hfz57_4
                      try clear hfz57_5
                      try clear hfz64_0
                      try clear hfz64_1
                      try clear hfz64_2
                      try clear hfz64_3
                      try clear hfz64_4
                      try clear hfz64_5
                      try clear p2
                      obtain ⟨kq, x62_37, rfl, HA, HJ37, HO_859000, HO_859001, BK847, BK848, BK858, BK867, BK876, BK877, HB⟩ := hcut
                      cases kq with
                      | zero => exact absurd HA.out (by simp [flagstonelaw10_HandleSets.j3])
                      | succ kj37 =>
                        have H := HA.out
                        clear HA
                        simp only [flagstonelaw10_HandleSets.j3] at H
                        by_cases c66 : x62_37 = true
                        · subst c66
                          have H1 : (if t859 = t868 then (if (t866 != t875) = true then (none) else (if (!(t869 == a2_0) || (!(t870 == a2_1) || (!(t871 == a2_2) || (!(t872 == a2_3) || (!(t873 == t864) || (!(t874 == a2_5))))))) = true then (none) else (flagstonelaw10_HandleSets.l1 kj37 a1 x8_2 (wrap64 (x9_3 + 1)) l0_0 l0_1 a2_0 a2_1 a2_2 a2_3 a2_4 a2_5 t852 t855))) else (none)) = some r := by rw [if_pos rfl] at H; exact H
                          clear H
                          have H := H1
                          clear H1
                          by_cases c67 : t859 = t868
                          · rw [if_pos c67] at H
                            have c67b0 : (t859 == t868) = true := beq_iff_eq.mpr c67
                            have c67b1 : (t859 != t868) = false := bne_eq_false_iff_eq.mpr c67
                            clear c67
                            by_cases c68 : (t866 != t875) = true
                            · rw [if_pos c68] at H
                              exact absurd H (by simp)
                            · rw [if_neg c68] at H
                              have c68b0 : (t866 != t875) = false := by simpa using c68
                              (try (have c68b1 : decide (t866 = t875) = true := by simpa using c68))
                              (try (have c68b2 : (t866 == t875) = true := by simpa using c68))
                              clear c68
                              by_cases c69 : (!(t869 == a2_0) || (!(t870 == a2_1) || (!(t871 == a2_2) || (!(t872 == a2_3) || (!(t873 == t864) || (!(t874 == a2_5))))))) = true
                              · rw [if_pos c69] at H
                                exact absurd H (by simp)
                              · rw [if_neg c69] at H
                                have c69b0 : (!(t869 == a2_0) || (!(t870 == a2_1) || (!(t871 == a2_2) || (!(t872 == a2_3) || (!(t873 == t864) || (!(t874 == a2_5))))))) = false := by simpa using c69
                                clear c69
                                have H' := Aside0.mk H
                                clear H
                                have hnb70 := NB848_847.out
                                have hnc70 := NB847_848.out
                                have hnb71 := NB848_858.out
                                have hnc71 := NB858_848.out
                                have hnb72 := NB848_867.out
                                have hnc72 := NB867_848.out
                                have hnb73 := NB848_876.out
                                have hnc73 := NB876_848.out
                                have hnb74 := NB848_877.out
                                have hnc74 := NB877_848.out
                                have hcz75_0 : wc.cell? ⟨gb848, 0, none⟩ = some (.int .i64 a2_0) := (blk_cell BK848.out 0).trans rfl
                                have hcz75_1 : wc.cell? ⟨gb848, 1, none⟩ = some (.int .i64 a2_1) := (blk_cell BK848.out 1).trans rfl
                                have hcz75_2 : wc.cell? ⟨gb848, 2, none⟩ = some (.bool a2_2) := (blk_cell BK848.out 2).trans rfl
                                have hcz75_3 : wc.cell? ⟨gb848, 3, none⟩ = some (.bool a2_3) := (blk_cell BK848.out 3).trans rfl
                                have hcz75_4 : wc.cell? ⟨gb848, 4, none⟩ = some (.int .i64 a2_4) := (blk_cell BK848.out 4).trans rfl
                                have hcz75_5 : wc.cell? ⟨gb848, 5, none⟩ = some (.int .i64 a2_5) := (blk_cell BK848.out 5).trans rfl
                                have hfz75_0 := blk_frozen BK848.out 0
                                have hfz75_1 := blk_frozen BK848.out 1
                                have hfz75_2 := blk_frozen BK848.out 2
                                have hfz75_3 := blk_frozen BK848.out 3
                                have hfz75_4 := blk_frozen BK848.out 4
                                have hfz75_5 := blk_frozen BK848.out 5
                                have hnb76 := NB877_847.out
                                have hnc76 := NB847_877.out
                                have hnb77 := NB877_858.out
                                have hnc77 := NB858_877.out
                                have hnb78 := NB877_867.out
                                have hnc78 := NB867_877.out
                                have hnb79 := NB877_876.out
                                have hnc79 := NB876_877.out
                                have hcz80_0 : wc.cell? ⟨gb877, 0, none⟩ = some (.int .i64 t860) := (blk_cell BK877.out 0).trans rfl
                                have hcz80_1 : wc.cell? ⟨gb877, 1, none⟩ = some (.int .i64 t861) := (blk_cell BK877.out 1).trans rfl
                                have hcz80_2 : wc.cell? ⟨gb877, 2, none⟩ = some (.bool t862) := (blk_cell BK877.out 2).trans rfl
                                have hcz80_3 : wc.cell? ⟨gb877, 3, none⟩ = some (.bool t863) := (blk_cell BK877.out 3).trans rfl
                                have hcz80_4 : wc.cell? ⟨gb877, 4, none⟩ = some (.int .i64 t864) := (blk_cell BK877.out 4).trans rfl
                                have hcz80_5 : wc.cell? ⟨gb877, 5, none⟩ = some (.int .i64 t865) := (blk_cell BK877.out 5).trans rfl
                                have hfz80_0 := blk_frozen BK877.out 0
                                have hfz80_1 := blk_frozen BK877.out 1
                                have hfz80_2 := blk_frozen BK877.out 2
                                have hfz80_3 := blk_frozen BK877.out 3
                                have hfz80_4 := blk_frozen BK877.out 4
                                have hfz80_5 := blk_frozen BK877.out 5
                                have hnb81 := NB867_847.out
                                have hnc81 := NB847_867.out
                                have hnb82 := NB867_858.out
                                have hnc82 := NB858_867.out
                                have hnb83 := NB867_876.out
                                have hnc83 := NB876_867.out
                                have hcz84_0 : wc.cell? ⟨gb867, 0, none⟩ = some (.int .i64 t860) := (blk_cell BK867.out 0).trans rfl
                                have hcz84_1 : wc.cell? ⟨gb867, 1, none⟩ = some (.int .i64 t861) := (blk_cell BK867.out 1).trans rfl
                                have hcz84_2 : wc.cell? ⟨gb867, 2, none⟩ = some (.bool t862) := (blk_cell BK867.out 2).trans rfl
                                have hcz84_3 : wc.cell? ⟨gb867, 3, none⟩ = some (.bool t863) := (blk_cell BK867.out 3).trans rfl
                                have hcz84_4 : wc.cell? ⟨gb867, 4, none⟩ = some (.int .i64 t864) := (blk_cell BK867.out 4).trans rfl
                                have hcz84_5 : wc.cell? ⟨gb867, 5, none⟩ = some (.int .i64 t865) := (blk_cell BK867.out 5).trans rfl
                                have hfz84_0 := blk_frozen BK867.out 0
                                have hfz84_1 := blk_frozen BK867.out 1
                                have hfz84_2 := blk_frozen BK867.out 2
                                have hfz84_3 := blk_frozen BK867.out 3
                                have hfz84_4 := blk_frozen BK867.out 4
                                have hfz84_5 := blk_frozen BK867.out 5
                                have hnb85 := NB876_847.out
                                have hnc85 := NB847_876.out
                                have hnb86 := NB876_858.out
                                have hnc86 := NB858_876.out
                                have hcz87_0 : wc.cell? ⟨gb876, 0, none⟩ = some (.int .i64 t869) := (blk_cell BK876.out 0).trans rfl
                                have hcz87_1 : wc.cell? ⟨gb876, 1, none⟩ = some (.int .i64 t870) := (blk_cell BK876.out 1).trans rfl
                                have hcz87_2 : wc.cell? ⟨gb876, 2, none⟩ = some (.bool t871) := (blk_cell BK876.out 2).trans rfl
                                have hcz87_3 : wc.cell? ⟨gb876, 3, none⟩ = some (.bool t872) := (blk_cell BK876.out 3).trans rfl
                                have hcz87_4 : wc.cell? ⟨gb876, 4, none⟩ = some (.int .i64 t873) := (blk_cell BK876.out 4).trans rfl
                                have hcz87_5 : wc.cell? ⟨gb876, 5, none⟩ = some (.int .i64 t874) := (blk_cell BK876.out 5).trans rfl
                                have hfz87_0 := blk_frozen BK876.out 0
                                have hfz87_1 := blk_frozen BK876.out 1
                                have hfz87_2 := blk_frozen BK876.out 2
                                have hfz87_3 := blk_frozen BK876.out 3
                                have hfz87_4 := blk_frozen BK876.out 4
                                have hfz87_5 := blk_frozen BK876.out 5
                                go_upto_if 62 with (fail)
                                go_cut [] (fun wc => Aside0 (Kd.V k38 38 wc w.heap.size (fun k_ => k_ ≠ gb847 ∧ k_ ≠ gb848 ∧ k_ ≠ gb858 ∧ k_ ≠ gb867 ∧ k_ ≠ gb876 ∧ k_ ≠ gb877) (.slice Ao26 t852.length co26) t852) ∧ Aside0 (Kd.V (Kd.slice 3 (Kd.int .i64)) 64 wc w.heap.size (fun k_ => k_ ≠ gb847 ∧ k_ ≠ gb848 ∧ k_ ≠ gb858 ∧ k_ ≠ gb867 ∧ k_ ≠ gb876 ∧ k_ ≠ gb877) (.slice Ao30 t855.length co30) t855) ∧ Aside0 (wc.heap[gb847]? = some (.cells #[(.slice A0_0 l0_0.length c0_0), (.slice A0_1 l0_1.length c0_1)] 25 (0, 0))) ∧ Aside0 (wc.heap[gb848]? = some (.cells #[.int .i64 a2_0, .int .i64 a2_1, .bool a2_2, .bool a2_3, .int .i64 a2_4, .int .i64 a2_5] 38 (0, 0))) ∧ Aside0 (wc.heap[gb858]? = some (.cells #[(.slice Ao26 t852.length co26), (.slice Ao30 t855.length co30)] 25 (0, 0))) ∧ Aside0 (wc.heap[gb867]? = some (.cells #[.int .i64 t860, .int .i64 t861, .bool t862, .bool t863, .int .i64 t864, .int .i64 t865] 38 (0, 0))) ∧ Aside0 (wc.heap[gb876]? = some (.cells #[.int .i64 t869, .int .i64 t870, .bool t871, .bool t872, .int .i64 t873, .int .i64 t874] 38 (0, 0))) ∧ Aside0 (wc.heap[gb877]? = some (.cells #[.int .i64 a2_0, .int .i64 a2_1, .bool a2_2, .bool a2_3, .int .i64 t864, .int .i64 a2_5] 38 (0, 0))) ∧ Aside0 (Below w.heap.size w wc))
                                case first =>
                                  go_wp2
                                  go_meet
                                  case rel => exact ⟨⟨Kd.V_mono (Kd.V_far (p := ⟨gb877, 4, none⟩) (Kd.V_far (p := ⟨gb877, 5, none⟩) (Kd.V_far (p := ⟨gb877, 4, none⟩) (Kd.V_far (p := ⟨gb877, 3, none⟩) (Kd.V_far (p := ⟨gb877, 2, none⟩) (Kd.V_far (p := ⟨gb877, 1, none⟩) (Kd.V_far (p := ⟨gb877, 0, none⟩) (Kd.V_mono HO_859000.out (fun k_ hk => (⟨hk, hk.2.2.2.2.2⟩ : _ ∧ k_ ≠ gb877))) (fun _ hk => hk.2) (.int .i64 a2_0)) (fun _ hk => hk.2) (.int .i64 a2_1)) (fun _ hk => hk.2) (.bool a2_2)) (fun _ hk => hk.2) (.bool a2_3)) (fun _ hk => hk.2) (.int .i64 a2_4)) (fun _ hk => hk.2) (.int .i64 a2_5)) (fun _ hk => hk.2) (.int .i64 t864)) (fun _ hk => hk.1)⟩, ⟨Kd.V_mono (Kd.V_far (p := ⟨gb877, 4, none⟩) (Kd.V_far (p := ⟨gb877, 5, none⟩) (Kd.V_far (p := ⟨gb877, 4, none⟩) (Kd.V_far (p := ⟨gb877, 3, none⟩) (Kd.V_far (p := ⟨gb877, 2, none⟩) (Kd.V_far (p := ⟨gb877, 1, none⟩) (Kd.V_far (p := ⟨gb877, 0, none⟩) (Kd.V_mono HO_859001.out (fun k_ hk => (⟨hk, hk.2.2.2.2.2⟩ : _ ∧ k_ ≠ gb877))) (fun _ hk => hk.2) (.int .i64 a2_0)) (fun _ hk => hk.2) (.int .i64 a2_1)) (fun _ hk => hk.2) (.bool a2_2)) (fun _ hk => hk.2) (.bool a2_3)) (fun _ hk => hk.2) (.int .i64 a2_4)) (fun _ hk => hk.2) (.int .i64 a2_5)) (fun _ hk => hk.2) (.int .i64 t864)) (fun _ hk => hk.1)⟩, ⟨(blk_far (p := ⟨gb877, 4, none⟩) (blk_far (p := ⟨gb877, 5, none⟩) (blk_far (p := ⟨gb877, 4, none⟩) (blk_far (p := ⟨gb877, 3, none⟩) (blk_far (p := ⟨gb877, 2, none⟩) (blk_far (p := ⟨gb877, 1, none⟩) (blk_far (p := ⟨gb877, 0, none⟩) BK847.out NB847_877.out (.int .i64 a2_0)) NB847_877.out (.int .i64 a2_1)) NB847_877.out (.bool a2_2)) NB847_877.out (.bool a2_3)) NB847_877.out (.int .i64 a2_4)) NB847_877.out (.int .i64 a2_5)) NB847_877.out (.int .i64 t864))⟩, ⟨(blk_far (p := ⟨gb877, 4, none⟩) (blk_far (p := ⟨gb877, 5, none⟩) (blk_far (p := ⟨gb877, 4, none⟩) (blk_far (p := ⟨gb877, 3, none⟩) (blk_far (p := ⟨gb877, 2, none⟩) (blk_far (p := ⟨gb877, 1, none⟩) (blk_far (p := ⟨gb877, 0, none⟩) BK848.out NB848_877.out (.int .i64 a2_0)) NB848_877.out (.int .i64 a2_1)) NB848_877.out (.bool a2_2)) NB848_877.out (.bool a2_3)) NB848_877.out (.int .i64 a2_4)) NB848_877.out (.int .i64 a2_5)) NB848_877.out (.int .i64 t864))⟩, ⟨(blk_far (p := ⟨gb877, 4, none⟩) (blk_far (p := ⟨gb877, 5, none⟩) (blk_far (p := ⟨gb877, 4, none⟩) (blk_far (p := ⟨gb877, 3, none⟩) (blk_far (p := ⟨gb877, 2, none⟩) (blk_far (p := ⟨gb877, 1, none⟩) (blk_far (p := ⟨gb877, 0, none⟩) BK858.out NB858_877.out (.int .i64 a2_0)) NB858_877.out (.int .i64 a2_1)) NB858_877.out (.bool a2_2)) NB858_877.out (.bool a2_3)) NB858_877.out (.int .i64 a2_4)) NB858_877.out (.int .i64 a2_5)) NB858_877.out (.int .i64 t864))⟩, ⟨(blk_far (p := ⟨gb877, 4, none⟩) (blk_far (p := ⟨gb877, 5, none⟩) (blk_far (p := ⟨gb877, 4, none⟩) (blk_far (p := ⟨gb877, 3, none⟩) (blk_far (p := ⟨gb877, 2, none⟩) (blk_far (p := ⟨gb877, 1, none⟩) (blk_far (p := ⟨gb877, 0, none⟩) BK867.out NB867_877.out (.int .i64 a2_0)) NB867_877.out (.int .i64 a2_1)) NB867_877.out (.bool a2_2)) NB867_877.out (.bool a2_3)) NB867_877.out (.int .i64 a2_4)) NB867_877.out (.int .i64 a2_5)) NB867_877.out (.int .i64 t864))⟩, ⟨(blk_far (p := ⟨gb877, 4, none⟩) (blk_far (p := ⟨gb877, 5, none⟩) (blk_far (p := ⟨gb877, 4, none⟩) (blk_far (p := ⟨gb877, 3, none⟩) (blk_far (p := ⟨gb877, 2, none⟩) (blk_far (p := ⟨gb877, 1, none⟩) (blk_far (p := ⟨gb877, 0, none⟩) BK876.out NB876_877.out (.int .i64 a2_0)) NB876_877.out (.int .i64 a2_1)) NB876_877.out (.bool a2_2)) NB876_877.out (.bool a2_3)) NB876_877.out (.int .i64 a2_4)) NB876_877.out (.int .i64 a2_5)) NB876_877.out (.int .i64 t864))⟩, ⟨(blk_put (blk_put (blk_put (blk_put (blk_put (blk_put (blk_put BK877.out 0 (.int .i64 a2_0) rfl) 1 (.int .i64 a2_1) rfl) 2 (.bool a2_2) rfl) 3 (.bool a2_3) rfl) 4 (.int .i64 a2_4) rfl) 5 (.int .i64 a2_5) rfl) 4 (.int .i64 t864) rfl)⟩, ⟨(below_set (g := gb877) (below_set (g := gb877) (below_set (g := gb877) (below_set (g := gb877) (below_set (g := gb877) (below_set (g := gb877) (below_set (g := gb877) HB.out GE877.out (j := 0) (v := .int .i64 a2_0)) GE877.out (j := 1) (v := .int .i64 a2_1)) GE877.out (j := 2) (v := .bool a2_2)) GE877.out (j := 3) (v := .bool a2_3)) GE877.out (j := 4) (v := .int .i64 a2_4)) GE877.out (j := 5) (v := .int .i64 a2_5)) GE877.out (j := 4) (v := .int .i64 t864))⟩⟩
                                case rest =>
                                  obtain ⟨HO_859000, HO_859001, BK847, BK848, BK858, BK867, BK876, BK877, HB⟩ := hcut
                                  have hdgb876_0 := (blk_cell BK876.out 0).trans (show _ = some (Value.int .i64 t869) from rfl)
                                  have hdgb876_1 := (blk_cell BK876.out 1).trans (show _ = some (Value.int .i64 t870) from rfl)
                                  have hdgb876_2 := (blk_cell BK876.out 2).trans (show _ = some (Value.bool t871) from rfl)
                                  have hdgb876_3 := (blk_cell BK876.out 3).trans (show _ = some (Value.bool t872) from rfl)
                                  have hdgb876_4 := (blk_cell BK876.out 4).trans (show _ = some (Value.int .i64 t873) from rfl)
                                  have hdgb876_5 := (blk_cell BK876.out 5).trans (show _ = some (Value.int .i64 t874) from rfl)
                                  have hdgb867_0 := (blk_cell BK867.out 0).trans (show _ = some (Value.int .i64 t860) from rfl)
                                  have hdgb867_1 := (blk_cell BK867.out 1).trans (show _ = some (Value.int .i64 t861) from rfl)
                                  have hdgb867_2 := (blk_cell BK867.out 2).trans (show _ = some (Value.bool t862) from rfl)
                                  have hdgb867_3 := (blk_cell BK867.out 3).trans (show _ = some (Value.bool t863) from rfl)
                                  have hdgb867_4 := (blk_cell BK867.out 4).trans (show _ = some (Value.int .i64 t864) from rfl)
                                  have hdgb867_5 := (blk_cell BK867.out 5).trans (show _ = some (Value.int .i64 t865) from rfl)
                                  have hdgb877_0 := (blk_cell BK877.out 0).trans (show _ = some (Value.int .i64 a2_0) from rfl)
                                  have hdgb877_1 := (blk_cell BK877.out 1).trans (show _ = some (Value.int .i64 a2_1) from rfl)
                                  have hdgb877_2 := (blk_cell BK877.out 2).trans (show _ = some (Value.bool a2_2) from rfl)
                                  have hdgb877_3 := (blk_cell BK877.out 3).trans (show _ = some (Value.bool a2_3) from rfl)
                                  have hdgb877_4 := (blk_cell BK877.out 4).trans (show _ = some (Value.int .i64 t864) from rfl)
                                  have hdgb877_5 := (blk_cell BK877.out 5).trans (show _ = some (Value.int .i64 a2_5) from rfl)
                                  have hdgb848_0 := (blk_cell BK848.out 0).trans (show _ = some (Value.int .i64 a2_0) from rfl)
                                  have hdgb848_1 := (blk_cell BK848.out 1).trans (show _ = some (Value.int .i64 a2_1) from rfl)
                                  have hdgb848_2 := (blk_cell BK848.out 2).trans (show _ = some (Value.bool a2_2) from rfl)
                                  have hdgb848_3 := (blk_cell BK848.out 3).trans (show _ = some (Value.bool a2_3) from rfl)
                                  have hdgb848_4 := (blk_cell BK848.out 4).trans (show _ = some (Value.int .i64 a2_4) from rfl)
                                  have hdgb848_5 := (blk_cell BK848.out 5).trans (show _ = some (Value.int .i64 a2_5) from rfl)
                                  go_wp2
                                  go_roundg kj37
                                  case measure => have := HJ3.out; have := HK2.out; have := HK3.out; have := HJ37.out; omega
                                  case rel => exact ⟨(wrap64 (x9_3 + 1)), (by first | rfl | (simp; done) | (simp [*]; done)), H', ⟨by have := HJ3.out; have := HK2.out; have := HK3.out; have := HJ37.out; omega⟩, ⟨by (with_reducible repeat (first | apply Kd.V_alloc | apply Kd.V_drewN | apply Kd.V_drew)); exact Kd.V_mono HO_859000.out (fun _ hk => ⟨hk.1, ⟨hk.2.1, hk.2.2.1⟩⟩)⟩, ⟨by (with_reducible repeat (first | apply Kd.V_alloc | apply Kd.V_drewN | apply Kd.V_drew)); exact Kd.V_mono HO_859001.out (fun _ hk => ⟨hk.1, ⟨hk.2.1, hk.2.2.1⟩⟩)⟩, ⟨by (with_reducible repeat (first | refine blk_drewN ?_ _ | refine blk_drew ?_ | refine blk_alloc ?_ _)); exact BK847.out⟩, ⟨by (with_reducible repeat (first | refine blk_drewN ?_ _ | refine blk_drew ?_ | refine blk_alloc ?_ _)); exact BK848.out⟩, ⟨by (with_reducible repeat (first | refine blk_drewN ?_ _ | refine blk_drew ?_ | refine blk_alloc ?_ _)); exact BK858.out⟩, ⟨by repeat (first | (with_reducible first | exact HB.out | apply below_alloc | apply pw_below_drewN | apply below_drew1 | refine below_set ?_ GE847.out | refine below_set ?_ GE848.out | refine below_set ?_ GE858.out | refine below_set ?_ GE867.out | refine below_set ?_ GE876.out | refine below_set ?_ GE877.out) | exact HB.out)⟩⟩
                          · rw [if_neg c67] at H
                            exact absurd H (by simp)
                        · replace c66 := Bool.eq_false_iff.mpr c66
                          subst c66
                          have H1 : (if t859 = t868 then (if (t866 != t875) = true then (none) else (if (!(t869 == t860) || (!(t870 == t861) || (!(t871 == t862) || (!(t872 == t863) || (!(t873 == t864) || (!(t874 == t865))))))) = true then (none) else (flagstonelaw10_HandleSets.l1 kj37 a1 x8_2 (wrap64 (x9_3 + 1)) l0_0 l0_1 a2_0 a2_1 a2_2 a2_3 a2_4 a2_5 t852 t855))) else (none)) = some r := by rw [if_neg (show ¬ (false = true) by decide)] at H; exact H
                          clear H
                          have H := H1
                          clear H1
                          by_cases c88 : t859 = t868
                          · rw [if_pos c88] at H
                            have c88b0 : (t859 == t868) = true := beq_iff_eq.mpr c88
                            have c88b1 : (t859 != t868) = false := bne_eq_false_iff_eq.mpr c88
                            clear c88
                            by_cases c89 : (t866 != t875) = true
                            · rw [if_pos c89] at H
                              exact absurd H (by simp)
                            · rw [if_neg c89] at H
                              have c89b0 : (t866 != t875) = false := by simpa using c89
                              (try (have c89b1 : decide (t866 = t875) = true := by simpa using c89))
                              (try (have c89b2 : (t866 == t875) = true := by simpa using c89))
                              clear c89
                              by_cases c90 : (!(t869 == t860) || (!(t870 == t861) || (!(t871 == t862) || (!(t872 == t863) || (!(t873 == t864) || (!(t874 == t865))))))) = true
                              · rw [if_pos c90] at H
                                exact absurd H (by simp)
                              · rw [if_neg c90] at H
                                have c90b0 : (!(t869 == t860) || (!(t870 == t861) || (!(t871 == t862) || (!(t872 == t863) || (!(t873 == t864) || (!(t874 == t865))))))) = false := by simpa using c90
                                clear c90
                                have H' := Aside0.mk H
                                clear H
                                have hnb91 := NB876_847.out
                                have hnc91 := NB847_876.out
                                have hnb92 := NB876_848.out
                                have hnc92 := NB848_876.out
                                have hnb93 := NB876_858.out
                                have hnc93 := NB858_876.out
                                have hnb94 := NB876_867.out
                                have hnc94 := NB867_876.out
                                have hnb95 := NB876_877.out
                                have hnc95 := NB877_876.out
                                have hcz96_0 : wc.cell? ⟨gb876, 0, none⟩ = some (.int .i64 t869) := (blk_cell BK876.out 0).trans rfl
                                have hcz96_1 : wc.cell? ⟨gb876, 1, none⟩ = some (.int .i64 t870) := (blk_cell BK876.out 1).trans rfl
                                have hcz96_2 : wc.cell? ⟨gb876, 2, none⟩ = some (.bool t871) := (blk_cell BK876.out 2).trans rfl
                                have hcz96_3 : wc.cell? ⟨gb876, 3, none⟩ = some (.bool t872) := (blk_cell BK876.out 3).trans rfl
                                have hcz96_4 : wc.cell? ⟨gb876, 4, none⟩ = some (.int .i64 t873) := (blk_cell BK876.out 4).trans rfl
                                have hcz96_5 : wc.cell? ⟨gb876, 5, none⟩ = some (.int .i64 t874) := (blk_cell BK876.out 5).trans rfl
                                have hfz96_0 := blk_frozen BK876.out 0
                                have hfz96_1 := blk_frozen BK876.out 1
                                have hfz96_2 := blk_frozen BK876.out 2
                                have hfz96_3 := blk_frozen BK876.out 3
                                have hfz96_4 := blk_frozen BK876.out 4
                                have hfz96_5 := blk_frozen BK876.out 5
                                have hnb97 := NB877_847.out
                                have hnc97 := NB847_877.out
                                have hnb98 := NB877_848.out
                                have hnc98 := NB848_877.out
                                have hnb99 := NB877_858.out
                                have hnc99 := NB858_877.out
                                have hnb100 := NB877_867.out
                                have hnc100 := NB867_877.out
                                have hcz101_0 : wc.cell? ⟨gb877, 0, none⟩ = some (.int .i64 t860) := (blk_cell BK877.out 0).trans rfl
                                have hcz101_1 : wc.cell? ⟨gb877, 1, none⟩ = some (.int .i64 t861) := (blk_cell BK877.out 1).trans rfl
                                have hcz101_2 : wc.cell? ⟨gb877, 2, none⟩ = some (.bool t862) := (blk_cell BK877.out 2).trans rfl
                                have hcz101_3 : wc.cell? ⟨gb877, 3, none⟩ = some (.bool t863) := (blk_cell BK877.out 3).trans rfl
                                have hcz101_4 : wc.cell? ⟨gb877, 4, none⟩ = some (.int .i64 t864) := (blk_cell BK877.out 4).trans rfl
                                have hcz101_5 : wc.cell? ⟨gb877, 5, none⟩ = some (.int .i64 t865) := (blk_cell BK877.out 5).trans rfl
                                have hfz101_0 := blk_frozen BK877.out 0
                                have hfz101_1 := blk_frozen BK877.out 1
                                have hfz101_2 := blk_frozen BK877.out 2
                                have hfz101_3 := blk_frozen BK877.out 3
                                have hfz101_4 := blk_frozen BK877.out 4
                                have hfz101_5 := blk_frozen BK877.out 5
                                go_wp2
                                go_roundg kj37
                                case measure => have := HJ3.out; have := HK2.out; have := HK3.out; have := HJ37.out; omega
                                case rel => exact ⟨(wrap64 (x9_3 + 1)), (by first | rfl | (simp; done) | (simp [*]; done)), H', ⟨by have := HJ3.out; have := HK2.out; have := HK3.out; have := HJ37.out; omega⟩, ⟨by (with_reducible repeat (first | apply Kd.V_alloc | apply Kd.V_drewN | apply Kd.V_drew)); exact Kd.V_mono HO_859000.out (fun _ hk => ⟨hk.1, ⟨hk.2.1, hk.2.2.1⟩⟩)⟩, ⟨by (with_reducible repeat (first | apply Kd.V_alloc | apply Kd.V_drewN | apply Kd.V_drew)); exact Kd.V_mono HO_859001.out (fun _ hk => ⟨hk.1, ⟨hk.2.1, hk.2.2.1⟩⟩)⟩, ⟨by (with_reducible repeat (first | refine blk_drewN ?_ _ | refine blk_drew ?_ | refine blk_alloc ?_ _)); exact BK847.out⟩, ⟨by (with_reducible repeat (first | refine blk_drewN ?_ _ | refine blk_drew ?_ | refine blk_alloc ?_ _)); exact BK848.out⟩, ⟨by (with_reducible repeat (first | refine blk_drewN ?_ _ | refine blk_drew ?_ | refine blk_alloc ?_ _)); exact BK858.out⟩, ⟨by repeat (first | (with_reducible first | exact HB.out | apply below_alloc | apply pw_below_drewN | apply below_drew1 | refine below_set ?_ GE847.out | refine below_set ?_ GE848.out | refine below_set ?_ GE858.out | refine below_set ?_ GE867.out | refine below_set ?_ GE876.out | refine below_set ?_ GE877.out) | exact HB.out)⟩⟩
                          · rw [if_neg c88] at H
                            exact absurd H (by simp)
                  · rw [if_neg c35] at H
                    have c35b0 : decide (x9_3 < 8) = false := decide_eq_false c35
                    clear c35
                    have H' := Aside0.mk H
                    clear H
                    go_wp2
                    go_roundg k3
                    case measure => have := HJ3.out; have := HK2.out; have := HK3.out; omega
                    case rel => exact ⟨(wrap64 (x8_2 + 1)), (by first | rfl | (simp; done) | (simp [*]; done)), H', ⟨by have := HJ3.out; have := HK2.out; have := HK3.out; omega⟩, ⟨by (with_reducible repeat (first | apply Kd.V_alloc | apply Kd.V_drewN | apply Kd.V_drew)); exact HO_859000.out⟩, ⟨by (with_reducible repeat (first | apply Kd.V_alloc | apply Kd.V_drewN | apply Kd.V_drew)); exact HO_859001.out⟩, ⟨by (with_reducible repeat (first | refine blk_drewN ?_ _ | refine blk_drew ?_ | refine blk_alloc ?_ _)); exact BK847.out⟩, ⟨by (with_reducible repeat (first | refine blk_drewN ?_ _ | refine blk_drew ?_ | refine blk_alloc ?_ _)); exact BK848.out⟩, ⟨by (with_reducible repeat (first | refine blk_drewN ?_ _ | refine blk_drew ?_ | refine blk_alloc ?_ _)); exact BK858.out⟩, ⟨by repeat (first | (with_reducible first | exact HB.out | apply below_alloc | apply pw_below_drewN | apply below_drew1 | refine below_set ?_ GE847.out | refine below_set ?_ GE848.out | refine below_set ?_ GE858.out) | exact HB.out)⟩⟩
            · rw [if_neg c31] at H
              have c31b0 : decide (x8_2 < (l0_1.length : Int)) = false := decide_eq_false c31
              clear c31
              obtain rfl := Option.some.inj H
              have hnb102 := NB847_848.out
              have hnc102 := NB848_847.out
              have hnb103 := NB847_858.out
              have hnc103 := NB858_847.out
              have hcz104_0 : wr.cell? ⟨gb847, 0, none⟩ = some (.slice A0_0 l0_0.length c0_0) := (blk_cell BK847.out 0).trans rfl
              have hcz104_1 : wr.cell? ⟨gb847, 1, none⟩ = some (.slice A0_1 l0_1.length c0_1) := (blk_cell BK847.out 1).trans rfl
              have hfz104_0 := blk_frozen BK847.out 0
              have hfz104_1 := blk_frozen BK847.out 1
              have hnb105 := NB858_848.out
              have hnc105 := NB848_858.out
              have hcz106_0 : wr.cell? ⟨gb858, 0, none⟩ = some (.slice Ao26 t852.length co26) := (blk_cell BK858.out 0).trans rfl
              have hcz106_1 : wr.cell? ⟨gb858, 1, none⟩ = some (.slice Ao30 t855.length co30) := (blk_cell BK858.out 1).trans rfl
              have hfz106_0 := blk_frozen BK858.out 0
              have hfz106_1 := blk_frozen BK858.out 1
              go_wp2
              go_ret
              exact ⟨by first | rfl | (simp [errW_none, errW_some] <;> rfl) | (simp [*, errW_none, errW_some] <;> rfl), by repeat (first | (with_reducible first | exact HB.out | apply below_alloc | apply pw_below_drewN | apply below_drew1 | refine below_set ?_ GE847.out | refine below_set ?_ GE848.out | refine below_set ?_ GE858.out) | exact HB.out)⟩

end Go.Proofs.Ytkecfdljodiifaa.P
