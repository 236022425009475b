-- Printed by a program of this session (inject.py) over the kit's print, with functions that were proved by hand in their places.
import Derived.Test.YtkecfdljodiifaaPK
import Derived.Test.YtkecfdljodiifaaPhandleOpen
import Derived.Test.YtkecfdljodiifaaPhandleGet
import Derived.Test.YtkecfdljodiifaaPhandleCount
import Derived.Test.YtkecfdljodiifaaPlaw10shown
import Derived.Test.YtkecfdljodiifaaPlaw10fine
namespace Go.Proofs.Ytkecfdljodiifaa.P
open Go.RowKit Go.Proofs.YtkecfdljodiifaaW.PrintWords Go.Proofs.YtkecfdljodiifaaW.PrintLast Go.Proofs.YtkecfdljodiifaaW.PrintMore
attribute [local go_sem] max2_int min2_int max_two min_two max_three min_three max_four min_four   -- for this text's walks alone
set_option linter.unusedVariables false
set_option linter.unusedSimpArgs false

/-! ### flagstonelaw10_HandleFull: function 5 -/
mutual
def flagstonelaw10_HandleFull.j0 : Nat → Int → Bool → List (S38) → List (List Int) → Int → Int → Bool → Bool → Int → Int → Option (Bool)
  | 0, _, _, _, _, _, _, _, _, _, _ => none
  | k + 1, x1, x33, x759000, x759001, x760000, x760001, x760002, x760003, x760004, x760005 => if x33 = true then ((flagstonelaw10_shown.f k).bind fun t762 => (some t762)) else (if (x759001.length : Int) = 0 then (none) else ((handle_Count.f k x759000 x759001 (Int.tmod (wrap64 (x1)) (x759001.length : Int))).bind fun t763 => (flagstonelaw10_HandleFull.l0 k (Int.tmod (wrap64 (x1)) (x759001.length : Int)) t763 (-1) 0 x759000 x759001 x760000 x760001 x760002 x760003 x760004 x760005)))
def flagstonelaw10_HandleFull.l0 : Nat → Int → Int → Int → Int → List (S38) → List (List Int) → Int → Int → Bool → Bool → Int → Int → Option (Bool)
  | 0, _, _, _, _, _, _, _, _, _, _, _, _ => none
  | k + 1, x7, x8, x9, x10, x759000, x759001, x760000, x760001, x760002, x760003, x760004, x760005 => if x10 < 10 then ((handle_Open.f x759000 x759001 x7 x760000 x760001 x760002 x760003 x760004 x760005).bind fun bt764 => (if bt764.2.2.2 = 0 then ((handle_Get.f x759000 x759001 x7 bt764.2.2.1).bind fun bt773 => (if bt773.2.2.2.2.2.2.2 = true then (flagstonelaw10_HandleFull.j2 k x7 x8 x10 bt764.2.2.1 true x759000 x759001 x760000 x760001 x760002 x760003 x760004 x760005 bt764.1 bt764.2.1) else (if bt764.2.2.1 ≤ x9 then (flagstonelaw10_HandleFull.j2 k x7 x8 x10 bt764.2.2.1 true x759000 x759001 x760000 x760001 x760002 x760003 x760004 x760005 bt764.1 bt764.2.1) else (if bt764.2.2.1 > 7 then (flagstonelaw10_HandleFull.j2 k x7 x8 x10 bt764.2.2.1 true x759000 x759001 x760000 x760001 x760002 x760003 x760004 x760005 bt764.1 bt764.2.1) else (flagstonelaw10_HandleFull.j2 k x7 x8 x10 bt764.2.2.1 (decide (x8 ≥ 8)) x759000 x759001 x760000 x760001 x760002 x760003 x760004 x760005 bt764.1 bt764.2.1))))) else (if bt764.2.2.2 = 13 then (some (x8 == 8)) else (none)))) else (none)
def flagstonelaw10_HandleFull.j2 : Nat → Int → Int → Int → Int → Bool → List (S38) → List (List Int) → Int → Int → Bool → Bool → Int → Int → List (S38) → List (List Int) → Option (Bool)
  | 0, _, _, _, _, _, _, _, _, _, _, _, _, _, _, _ => none
  | k + 1, x7, x8, x10, x12, x85, x759000, x759001, x760000, x760001, x760002, x760003, x760004, x760005, x773000, x773001 => if x85 = true then (none) else (flagstonelaw10_HandleFull.l1 k x7 x8 x10 x12 0 x759000 x759001 x760000 x760001 x760002 x760003 x760004 x760005 x773000 x773001)
def flagstonelaw10_HandleFull.l1 : Nat → Int → Int → Int → Int → Int → List (S38) → List (List Int) → Int → Int → Bool → Bool → Int → Int → List (S38) → List (List Int) → Option (Bool)
  | 0, _, _, _, _, _, _, _, _, _, _, _, _, _, _, _ => none
  | k + 1, x7, x8, x10, x12, x17, x759000, x759001, x760000, x760001, x760002, x760003, x760004, x760005, x773000, x773001 => if x17 < x12 then ((handle_Get.f x759000 x759001 x7 x17).bind fun bt782 => (if bt782.2.2.2.2.2.2.2 = true then (flagstonelaw10_HandleFull.l1 k x7 x8 x10 x12 (wrap64 (x17 + 1)) x759000 x759001 x760000 x760001 x760002 x760003 x760004 x760005 x773000 x773001) else (none))) else (flagstonelaw10_HandleFull.l0 k x7 (wrap64 (x8 + 1)) x12 (wrap64 (x10 + 1)) x773000 x773001 x760000 x760001 x760002 x760003 x760004 x760005)
end
def flagstonelaw10_HandleFull.f (k : Nat) (l0_0 : List (S38)) (l0_1 : List (List Int)) (a1 : Int) (a2_0 : Int) (a2_1 : Int) (a2_2 : Bool) (a2_3 : Bool) (a2_4 : Int) (a2_5 : Int) : Option (Bool) := (flagstonelaw10_fine.f k l0_0 l0_1).bind fun t760 => (if t760 = true then (if (l0_1.length : Int) = 0 then (flagstonelaw10_HandleFull.j0 k a1 true l0_0 l0_1 a2_0 a2_1 a2_2 a2_3 a2_4 a2_5) else ((flagstonelaw10_shown.f k).bind fun t761 => (flagstonelaw10_HandleFull.j0 k a1 (!t761) l0_0 l0_1 a2_0 a2_1 a2_2 a2_3 a2_4 a2_5))) else (flagstonelaw10_HandleFull.j0 k a1 true l0_0 l0_1 a2_0 a2_1 a2_2 a2_3 a2_4 a2_5))
theorem flagstonelaw10_HandleFull.mono_l : ∀ k, (∀ y0 y1 y2 y3 y4 y5 y6 y7 y8 y9, LeO (flagstonelaw10_HandleFull.j0 k y0 y1 y2 y3 y4 y5 y6 y7 y8 y9) (flagstonelaw10_HandleFull.j0 (k + 1) y0 y1 y2 y3 y4 y5 y6 y7 y8 y9)) ∧ (∀ y0 y1 y2 y3 y4 y5 y6 y7 y8 y9 y10 y11, LeO (flagstonelaw10_HandleFull.l0 k y0 y1 y2 y3 y4 y5 y6 y7 y8 y9 y10 y11) (flagstonelaw10_HandleFull.l0 (k + 1) y0 y1 y2 y3 y4 y5 y6 y7 y8 y9 y10 y11)) ∧ (∀ y0 y1 y2 y3 y4 y5 y6 y7 y8 y9 y10 y11 y12 y13 y14, LeO (flagstonelaw10_HandleFull.j2 k y0 y1 y2 y3 y4 y5 y6 y7 y8 y9 y10 y11 y12 y13 y14) (flagstonelaw10_HandleFull.j2 (k + 1) y0 y1 y2 y3 y4 y5 y6 y7 y8 y9 y10 y11 y12 y13 y14)) ∧ (∀ y0 y1 y2 y3 y4 y5 y6 y7 y8 y9 y10 y11 y12 y13 y14, LeO (flagstonelaw10_HandleFull.l1 k y0 y1 y2 y3 y4 y5 y6 y7 y8 y9 y10 y11 y12 y13 y14) (flagstonelaw10_HandleFull.l1 (k + 1) y0 y1 y2 y3 y4 y5 y6 y7 y8 y9 y10 y11 y12 y13 y14))
  | 0 => ⟨fun _ _ _ _ _ _ _ _ _ _ r h => by simp [flagstonelaw10_HandleFull.j0] at h, fun _ _ _ _ _ _ _ _ _ _ _ _ r h => by simp [flagstonelaw10_HandleFull.l0] at h, fun _ _ _ _ _ _ _ _ _ _ _ _ _ _ _ r h => by simp [flagstonelaw10_HandleFull.j2] at h, fun _ _ _ _ _ _ _ _ _ _ _ _ _ _ _ r h => by simp [flagstonelaw10_HandleFull.l1] at h⟩
  | k + 1 => by
    obtain ⟨ih0, ih1, ih2, ih3⟩ := flagstonelaw10_HandleFull.mono_l k
    refine ⟨?_, ?_, ?_, ?_⟩
    · intro y0 y1 y2 y3 y4 y5 y6 y7 y8 y9
      unfold flagstonelaw10_HandleFull.j0
      repeat' first
      | (with_reducible exact ih0 _ _ _ _ _ _ _ _ _ _)
      | (with_reducible exact ih1 _ _ _ _ _ _ _ _ _ _ _ _)
      | (with_reducible exact ih2 _ _ _ _ _ _ _ _ _ _ _ _ _ _ _)
      | (with_reducible exact ih3 _ _ _ _ _ _ _ _ _ _ _ _ _ _ _)
      | (with_reducible exact flagstonelaw10_fine.mono _ _ _)
      | (with_reducible exact flagstonelaw10_shown.mono _)
      | (with_reducible exact handle_Count.mono _ _ _ _)
      | (with_reducible exact LeO.refl _)
      | (with_reducible exact LeO.none _)
      | (with_reducible refine LeO.ite ?_ ?_)
      | (with_reducible refine LeO.bind ?_ (fun _ => ?_))
      | exact ih0 _ _ _ _ _ _ _ _ _ _
      | exact ih1 _ _ _ _ _ _ _ _ _ _ _ _
      | exact ih2 _ _ _ _ _ _ _ _ _ _ _ _ _ _ _
      | exact ih3 _ _ _ _ _ _ _ _ _ _ _ _ _ _ _
      | exact flagstonelaw10_fine.mono _ _ _
      | exact flagstonelaw10_shown.mono _
      | exact handle_Count.mono _ _ _ _
      | exact LeO.none _
      | refine LeO.ite ?_ ?_
      | refine LeO.bind ?_ (fun _ => ?_)
    · intro y0 y1 y2 y3 y4 y5 y6 y7 y8 y9 y10 y11
      unfold flagstonelaw10_HandleFull.l0
      repeat' first
      | (with_reducible exact ih0 _ _ _ _ _ _ _ _ _ _)
      | (with_reducible exact ih1 _ _ _ _ _ _ _ _ _ _ _ _)
      | (with_reducible exact ih2 _ _ _ _ _ _ _ _ _ _ _ _ _ _ _)
      | (with_reducible exact ih3 _ _ _ _ _ _ _ _ _ _ _ _ _ _ _)
      | (with_reducible exact flagstonelaw10_fine.mono _ _ _)
      | (with_reducible exact flagstonelaw10_shown.mono _)
      | (with_reducible exact handle_Count.mono _ _ _ _)
      | (with_reducible exact LeO.refl _)
      | (with_reducible exact LeO.none _)
      | (with_reducible refine LeO.ite ?_ ?_)
      | (with_reducible refine LeO.bind ?_ (fun _ => ?_))
      | exact ih0 _ _ _ _ _ _ _ _ _ _
      | exact ih1 _ _ _ _ _ _ _ _ _ _ _ _
      | exact ih2 _ _ _ _ _ _ _ _ _ _ _ _ _ _ _
      | exact ih3 _ _ _ _ _ _ _ _ _ _ _ _ _ _ _
      | exact flagstonelaw10_fine.mono _ _ _
      | exact flagstonelaw10_shown.mono _
      | exact handle_Count.mono _ _ _ _
      | exact LeO.none _
      | refine LeO.ite ?_ ?_
      | refine LeO.bind ?_ (fun _ => ?_)
    · intro y0 y1 y2 y3 y4 y5 y6 y7 y8 y9 y10 y11 y12 y13 y14
      unfold flagstonelaw10_HandleFull.j2
      repeat' first
      | (with_reducible exact ih0 _ _ _ _ _ _ _ _ _ _)
      | (with_reducible exact ih1 _ _ _ _ _ _ _ _ _ _ _ _)
      | (with_reducible exact ih2 _ _ _ _ _ _ _ _ _ _ _ _ _ _ _)
      | (with_reducible exact ih3 _ _ _ _ _ _ _ _ _ _ _ _ _ _ _)
      | (with_reducible exact flagstonelaw10_fine.mono _ _ _)
      | (with_reducible exact flagstonelaw10_shown.mono _)
      | (with_reducible exact handle_Count.mono _ _ _ _)
      | (with_reducible exact LeO.refl _)
      | (with_reducible exact LeO.none _)
      | (with_reducible refine LeO.ite ?_ ?_)
      | (with_reducible refine LeO.bind ?_ (fun _ => ?_))
      | exact ih0 _ _ _ _ _ _ _ _ _ _
      | exact ih1 _ _ _ _ _ _ _ _ _ _ _ _
      | exact ih2 _ _ _ _ _ _ _ _ _ _ _ _ _ _ _
      | exact ih3 _ _ _ _ _ _ _ _ _ _ _ _ _ _ _
      | exact flagstonelaw10_fine.mono _ _ _
      | exact flagstonelaw10_shown.mono _
      | exact handle_Count.mono _ _ _ _
      | exact LeO.none _
      | refine LeO.ite ?_ ?_
      | refine LeO.bind ?_ (fun _ => ?_)
    · intro y0 y1 y2 y3 y4 y5 y6 y7 y8 y9 y10 y11 y12 y13 y14
      unfold flagstonelaw10_HandleFull.l1
      repeat' first
      | (with_reducible exact ih0 _ _ _ _ _ _ _ _ _ _)
      | (with_reducible exact ih1 _ _ _ _ _ _ _ _ _ _ _ _)
      | (with_reducible exact ih2 _ _ _ _ _ _ _ _ _ _ _ _ _ _ _)
      | (with_reducible exact ih3 _ _ _ _ _ _ _ _ _ _ _ _ _ _ _)
      | (with_reducible exact flagstonelaw10_fine.mono _ _ _)
      | (with_reducible exact flagstonelaw10_shown.mono _)
      | (with_reducible exact handle_Count.mono _ _ _ _)
      | (with_reducible exact LeO.refl _)
      | (with_reducible exact LeO.none _)
      | (with_reducible refine LeO.ite ?_ ?_)
      | (with_reducible refine LeO.bind ?_ (fun _ => ?_))
      | exact ih0 _ _ _ _ _ _ _ _ _ _
      | exact ih1 _ _ _ _ _ _ _ _ _ _ _ _
      | exact ih2 _ _ _ _ _ _ _ _ _ _ _ _ _ _ _
      | exact ih3 _ _ _ _ _ _ _ _ _ _ _ _ _ _ _
      | exact flagstonelaw10_fine.mono _ _ _
      | exact flagstonelaw10_shown.mono _
      | exact handle_Count.mono _ _ _ _
      | exact LeO.none _
      | refine LeO.ite ?_ ?_
      | refine LeO.bind ?_ (fun _ => ?_)
theorem flagstonelaw10_HandleFull.mono : ∀ a0 a1 a2 a3 a4 a5 a6 a7 a8 k, LeO (flagstonelaw10_HandleFull.f k a0 a1 a2 a3 a4 a5 a6 a7 a8) (flagstonelaw10_HandleFull.f (k + 1) a0 a1 a2 a3 a4 a5 a6 a7 a8) := by
  intro a0 a1 a2 a3 a4 a5 a6 a7 a8 k
  obtain ⟨ih0, ih1, ih2, ih3⟩ := flagstonelaw10_HandleFull.mono_l k
  unfold flagstonelaw10_HandleFull.f
  repeat' first
      | (with_reducible exact ih0 _ _ _ _ _ _ _ _ _ _)
      | (with_reducible exact ih1 _ _ _ _ _ _ _ _ _ _ _ _)
      | (with_reducible exact ih2 _ _ _ _ _ _ _ _ _ _ _ _ _ _ _)
      | (with_reducible exact ih3 _ _ _ _ _ _ _ _ _ _ _ _ _ _ _)
      | (with_reducible exact flagstonelaw10_fine.mono _ _ _)
      | (with_reducible exact flagstonelaw10_shown.mono _)
      | (with_reducible exact handle_Count.mono _ _ _ _)
      | (with_reducible exact LeO.refl _)
      | (with_reducible exact LeO.none _)
      | (with_reducible refine LeO.ite ?_ ?_)
      | (with_reducible refine LeO.bind ?_ (fun _ => ?_))
      | exact ih0 _ _ _ _ _ _ _ _ _ _
      | exact ih1 _ _ _ _ _ _ _ _ _ _ _ _
      | exact ih2 _ _ _ _ _ _ _ _ _ _ _ _ _ _ _
      | exact ih3 _ _ _ _ _ _ _ _ _ _ _ _ _ _ _
      | exact flagstonelaw10_fine.mono _ _ _
      | exact flagstonelaw10_shown.mono _
      | exact handle_Count.mono _ _ _ _
      | exact LeO.none _
      | refine LeO.ite ?_ ?_
      | refine LeO.bind ?_ (fun _ => ?_)
set_option maxHeartbeats 8000000 in
set_option maxRecDepth 100000 in
theorem flagstonelaw10_HandleFull.calls (k : Nat) (P0_0_ : Nat → Prop) (A0_0 : Option Addr) (c0_0 : Nat) (l0_0 : List (S38)) (P0_1_ : Nat → Prop) (A0_1 : Option Addr) (c0_1 : Nat) (l0_1 : List (List Int)) (a1 : Int) (a2_0 : Int) (a2_1 : Int) (a2_2 : Bool) (a2_3 : Bool) (a2_4 : Int) (a2_5 : Int) (r : Bool) (w : World) (hs0_0 : Kd.V k38 38 w w.heap.size (fun k_ => P0_0_ k_) (.slice A0_0 l0_0.length c0_0) l0_0) (hs0_1 : Kd.V (Kd.slice 3 (Kd.int .i64)) 64 w w.heap.size (fun k_ => P0_1_ k_) (.slice A0_1 l0_1.length c0_1) l0_1) (h : flagstonelaw10_HandleFull.f k l0_0 l0_1 a1 a2_0 a2_1 a2_2 a2_3 a2_4 a2_5 = some r) :
    Calls Try.prog 5 #[.agg #[.slice A0_0 l0_0.length c0_0, .slice A0_1 l0_1.length c0_1], .int .u8 a1, .agg #[.int .i64 a2_0, .int .i64 a2_1, .bool a2_2, .bool a2_3, .int .i64 a2_4, .int .i64 a2_5]] w fun e w' => e = .returned (.bool r) ∧ Below w.heap.size w w' := by
  have hu25 := Try.underlying25
  have hu38 := Try.underlying38
  have HO0_0 := Aside0.mk (show Kd.V k38 38 w w.heap.size (fun k_ => ((P0_0_ k_ ∨ P0_1_ k_) ∨ w.heap.size ≤ k_)) (.slice A0_0 l0_0.length c0_0) l0_0 from Kd.V_mono hs0_0 (fun k_ hk => .inl (.inl hk)))
  have HO0_1 := Aside0.mk (show Kd.V (Kd.slice 3 (Kd.int .i64)) 64 w w.heap.size (fun k_ => ((P0_0_ k_ ∨ P0_1_ k_) ∨ w.heap.size ≤ k_)) (.slice A0_1 l0_1.length c0_1) l0_1 from Kd.V_mono hs0_1 (fun k_ hk => .inl (.inr hk)))
  have HB := Aside0.mk (Below.refl w.heap.size w)
  have H : ((flagstonelaw10_fine.f k l0_0 l0_1).bind fun t760 => (if t760 = true then (if (l0_1.length : Int) = 0 then (flagstonelaw10_HandleFull.j0 k a1 true l0_0 l0_1 a2_0 a2_1 a2_2 a2_3 a2_4 a2_5) else ((flagstonelaw10_shown.f k).bind fun t761 => (flagstonelaw10_HandleFull.j0 k a1 (!t761) l0_0 l0_1 a2_0 a2_1 a2_2 a2_3 a2_4 a2_5))) else (flagstonelaw10_HandleFull.j0 k a1 true l0_0 l0_1 a2_0 a2_1 a2_2 a2_3 a2_4 a2_5))) = some r := h
  clear h
  have HC4 := Aside0.mk H
  clear H
  go_enter Try.func5, Try.ntmps5
  go_upto_region 1 with (first | ((with_reducible refine gate_dst (N := 3) rfl ?_); (try (refine gate_guard (by rfl) ?_; dsimp only)); refine box_event ?hg (N := 3) ?hd (cs := #[.slice A0_0 l0_0.length c0_0, .slice A0_1 l0_1.length c0_1]) (t := 25) ?hr ?_; (case hd => rfl); (case hg => rfl); (case hr => first | (go_simp; done) | (go_simp; rfl)); intro gb758 hg w5 hbox hb; have n0_ := Aside0.mk (Kd.V_below (Kd.V_elderB (by (with_reducible repeat (first | apply Kd.V_alloc | apply Kd.V_drewN | apply Kd.V_drew)); exact HO0_0.out) gb758 (Nat.le_of_eq hg.symm)) hb); have n1_ := Aside0.mk (Kd.V_below (Kd.V_elderB (by (with_reducible repeat (first | apply Kd.V_alloc | apply Kd.V_drewN | apply Kd.V_drew)); exact HO0_1.out) gb758 (Nat.le_of_eq hg.symm)) hb); have n2_ := Aside0.mk (below_step (by repeat (first | (with_reducible first | exact HB.out | apply below_alloc | apply pw_below_drewN | apply below_drew1) | exact HB.out)) hb); have n3_ := Aside0.mk (hbox); have n4_ := Aside0.mk ((by rw [hg]; exact (below_size (by repeat (first | (with_reducible first | exact HB.out | apply below_alloc | apply pw_below_drewN | apply below_drew1) | exact HB.out))) : w.heap.size ≤ gb758)); have n5_ := Aside0.mk ((by rw [hg]; exact (below_size (by repeat (first | (with_reducible first | exact HB.out | apply below_alloc | apply pw_below_drewN | apply below_drew1) | exact HB.out))) : w.heap.size ≤ gb758)); clear HO0_0; clear HO0_1; clear HB; have HO0_0 := n0_; have HO0_1 := n1_; have HB := n2_; have BK758 := n3_; have GW758 := n4_; have GE758 := n5_; clear n0_ n1_ n2_ n3_ n4_ n5_; clear hb hbox hg) | ((with_reducible refine gate_dst (N := 5) rfl ?_); (try (refine gate_guard (by rfl) ?_; dsimp only)); refine box_event ?hg (N := 5) ?hd (cs := #[.int .i64 a2_0, .int .i64 a2_1, .bool a2_2, .bool a2_3, .int .i64 a2_4, .int .i64 a2_5]) (t := 38) ?hr ?_; (case hd => rfl); (case hg => rfl); (case hr => first | (go_simp; done) | (go_simp; rfl)); intro gb759 hg w6 hbox hb; have n0_ := Aside0.mk (Kd.V_below (Kd.V_elderB (by (with_reducible repeat (first | apply Kd.V_alloc | apply Kd.V_drewN | apply Kd.V_drew)); exact HO0_0.out) gb759 (Nat.le_of_eq hg.symm)) hb); have n1_ := Aside0.mk (Kd.V_below (Kd.V_elderB (by (with_reducible repeat (first | apply Kd.V_alloc | apply Kd.V_drewN | apply Kd.V_drew)); exact HO0_1.out) gb759 (Nat.le_of_eq hg.symm)) hb); have n2_ := Aside0.mk (blk_below (g := gb758) (o := .cells #[.slice A0_0 l0_0.length c0_0, .slice A0_1 l0_1.length c0_1] 25 (0, 0)) (by (with_reducible repeat (first | refine blk_drewN ?_ _ | refine blk_drew ?_ | refine blk_alloc ?_ _)); exact BK758.out) hb); have n3_ := Aside0.mk (below_step (by repeat (first | (with_reducible first | exact HB.out | apply below_alloc | apply pw_below_drewN | apply below_drew1 | refine below_set ?_ GE758.out) | exact HB.out)) hb); have n4_ := Aside0.mk (hbox); have n5_ := Aside0.mk ((by rw [hg]; exact (below_size (by repeat (first | (with_reducible first | exact HB.out | apply below_alloc | apply pw_below_drewN | apply below_drew1 | refine below_set ?_ GE758.out) | exact HB.out))) : w.heap.size ≤ gb759)); have n6_ := Aside0.mk ((by rw [hg]; exact (below_size (by repeat (first | (with_reducible first | exact HB.out | apply below_alloc | apply pw_below_drewN | apply below_drew1 | refine below_set ?_ GE758.out) | exact HB.out))) : w.heap.size ≤ gb759)); have n7_ := Aside0.mk ((by rw [hg]; exact Nat.ne_of_lt (blk_lt (g := gb758) (o := .cells #[.slice A0_0 l0_0.length c0_0, .slice A0_1 l0_1.length c0_1] 25 (0, 0)) (by (with_reducible repeat (first | refine blk_drewN ?_ _ | refine blk_drew ?_ | refine blk_alloc ?_ _)); exact BK758.out)) : gb758 ≠ gb759)); have n8_ := Aside0.mk ((by rw [hg]; exact Nat.ne_of_gt (blk_lt (g := gb758) (o := .cells #[.slice A0_0 l0_0.length c0_0, .slice A0_1 l0_1.length c0_1] 25 (0, 0)) (by (with_reducible repeat (first | refine blk_drewN ?_ _ | refine blk_drew ?_ | refine blk_alloc ?_ _)); exact BK758.out)) : gb759 ≠ gb758)); clear HO0_0; clear HO0_1; clear BK758; clear HB; have HO0_0 := n0_; have HO0_1 := n1_; have BK758 := n2_; have HB := n3_; have BK759 := n4_; have GW759 := n5_; have GE759 := n6_; have NB758_759 := n7_; have NB759_758 := n8_; clear n0_ n1_ n2_ n3_ n4_ n5_ n6_ n7_ n8_; clear hb hbox hg))
  (try simp only [Act.put, List.setIfInBounds_toArray, List.set_cons_zero, List.set_cons_succ])
  go_cut [33] (fun v33 wc => ∃ (kq : Nat) (x33_3 : Bool), v33 = .bool x33_3 ∧ Aside0 (flagstonelaw10_HandleFull.j0 kq a1 x33_3 l0_0 l0_1 a2_0 a2_1 a2_2 a2_3 a2_4 a2_5 = some r) ∧ Aside0 (kq ≤ k) ∧ Aside0 (Kd.V k38 38 wc w.heap.size (fun k_ => ((P0_0_ k_ ∨ P0_1_ k_) ∨ w.heap.size ≤ k_) ∧ k_ ≠ gb758 ∧ k_ ≠ gb759) (.slice A0_0 l0_0.length c0_0) l0_0) ∧ Aside0 (Kd.V (Kd.slice 3 (Kd.int .i64)) 64 wc w.heap.size (fun k_ => ((P0_0_ k_ ∨ P0_1_ k_) ∨ w.heap.size ≤ k_) ∧ k_ ≠ gb758 ∧ k_ ≠ gb759) (.slice A0_1 l0_1.length c0_1) l0_1) ∧ Aside0 (wc.heap[gb758]? = some (.cells #[(.slice A0_0 l0_0.length c0_0), (.slice A0_1 l0_1.length c0_1)] 25 (0, 0))) ∧ Aside0 (wc.heap[gb759]? = some (.cells #[.int .i64 a2_0, .int .i64 a2_1, .bool a2_2, .bool a2_3, .int .i64 a2_4, .int .i64 a2_5] 38 (0, 0))) ∧ Aside0 (Below w.heap.size w wc))
  case first =>
    have H := HC4.out
    clear HC4
    replace H := Option.bind_eq_some_iff.mp H
    obtain ⟨t760, A70, H⟩ := H
    replace H : (if t760 = true then (if (l0_1.length : Int) = 0 then (flagstonelaw10_HandleFull.j0 k a1 true l0_0 l0_1 a2_0 a2_1 a2_2 a2_3 a2_4 a2_5) else ((flagstonelaw10_shown.f k).bind fun t761 => (flagstonelaw10_HandleFull.j0 k a1 (!t761) l0_0 l0_1 a2_0 a2_1 a2_2 a2_3 a2_4 a2_5))) else (flagstonelaw10_HandleFull.j0 k a1 true l0_0 l0_1 a2_0 a2_1 a2_2 a2_3 a2_4 a2_5)) = some r := H
    have A7 := Aside0.mk A70
    clear A70
    by_cases c8 : t760 = true
    · subst c8
      have H1 : (if (l0_1.length : Int) = 0 then (flagstonelaw10_HandleFull.j0 k a1 true l0_0 l0_1 a2_0 a2_1 a2_2 a2_3 a2_4 a2_5) else ((flagstonelaw10_shown.f k).bind fun t761 => (flagstonelaw10_HandleFull.j0 k a1 (!t761) l0_0 l0_1 a2_0 a2_1 a2_2 a2_3 a2_4 a2_5))) = some r := by rw [if_pos rfl] at H; exact H
      clear H
      have H := H1
      clear H1
      by_cases c9 : (l0_1.length : Int) = 0
      · rw [if_pos c9] at H
        have c9b0 : ((l0_1.length : Int) == 0) = true := beq_iff_eq.mpr c9
        have c9b1 : ((l0_1.length : Int) != 0) = false := bne_eq_false_iff_eq.mpr c9
        clear c9
        (first | rw [c9b0] | (simp only [i64_w, i32_w]; rw [c9b0]) | skip)
        have H' := Aside0.mk H
        clear H
        have hnb10 := NB758_759.out
        have hnc10 := NB759_758.out
        have hcz11_0 : w6.cell? ⟨gb758, 0, none⟩ = some (.slice A0_0 l0_0.length c0_0) := (blk_cell BK758.out 0).trans rfl
        have hcz11_1 : w6.cell? ⟨gb758, 1, none⟩ = some (.slice A0_1 l0_1.length c0_1) := (blk_cell BK758.out 1).trans rfl
        have hfz11_0 := blk_frozen BK758.out 0
        have hfz11_1 := blk_frozen BK758.out 1
        go_wp2_with (first | ((with_reducible refine gate_callee (f := 18) rfl ?_); refine goesL_ (some 22) rfl rfl Try.func18 (by kernel_rfl) rfl #[.agg #[.slice A0_0 l0_0.length c0_0, .slice A0_1 l0_1.length c0_1]] rfl (by (try simp only [List.map_toArray, List.map_cons, List.map_nil]); first | done | rfl | (simp only [List.length_drop, List.length_take]; rfl)) ?_; (with_reducible refine (flagstonelaw10_fine.calls k _ _ l0_0 _ _ l0_1 true _ ?side1 ?side2 ?side3 ?side4 A7.out).mono ?_); (case side1 => repeat (first | exact (Kd.V_reads' HO0_0.out).2.2 | (with_reducible refine Kd.C_alloc ?_ _) | (with_reducible refine Kd.C_drewN ?_ _) | (with_reducible refine Kd.C_drew ?_))); (case side2 => exact (Kd.V_reads' HO0_0.out).2.1); (case side3 => repeat (first | exact (Kd.V_reads' HO0_1.out).2.2 | (with_reducible refine Kd.C_alloc ?_ _) | (with_reducible refine Kd.C_drewN ?_ _) | (with_reducible refine Kd.C_drew ?_))); (case side4 => exact (Kd.V_reads' HO0_1.out).2.1); rintro e w12 ⟨rfl, hb⟩; refine ⟨_, rfl, ?_⟩; have n0_ := Aside0.mk (Kd.V_below (by (with_reducible repeat (first | apply Kd.V_alloc | apply Kd.V_drewN | apply Kd.V_drew)); exact HO0_0.out) hb); have n1_ := Aside0.mk (Kd.V_below (by (with_reducible repeat (first | apply Kd.V_alloc | apply Kd.V_drewN | apply Kd.V_drew)); exact HO0_1.out) hb); have n2_ := Aside0.mk (blk_below (g := gb758) (o := .cells #[.slice A0_0 l0_0.length c0_0, .slice A0_1 l0_1.length c0_1] 25 (0, 0)) (by (with_reducible repeat (first | refine blk_drewN ?_ _ | refine blk_drew ?_ | refine blk_alloc ?_ _)); exact BK758.out) hb); have n3_ := Aside0.mk (blk_below (g := gb759) (o := .cells #[.int .i64 a2_0, .int .i64 a2_1, .bool a2_2, .bool a2_3, .int .i64 a2_4, .int .i64 a2_5] 38 (0, 0)) (by (with_reducible repeat (first | refine blk_drewN ?_ _ | refine blk_drew ?_ | refine blk_alloc ?_ _)); exact BK759.out) hb); have n4_ := Aside0.mk (below_step (by repeat (first | (with_reducible first | exact HB.out | apply below_alloc | apply pw_below_drewN | apply below_drew1 | refine below_set ?_ GE758.out | refine below_set ?_ GE759.out) | exact HB.out)) hb); clear HO0_0; clear HO0_1; clear BK758; clear BK759; clear HB; have HO0_0 := n0_; have HO0_1 := n1_; have BK758 := n2_; have BK759 := n3_; have HB := n4_; clear n0_ n1_ n2_ n3_ n4_; (try clear hb); (try clear hb2); (try clear hk); (try clear hi); have hcz13_0 : w12.cell? ⟨gb758, 0, none⟩ = some (.slice A0_0 l0_0.length c0_0) := (blk_cell BK758.out 0).trans rfl; have hcz13_1 : w12.cell? ⟨gb758, 1, none⟩ = some (.slice A0_1 l0_1.length c0_1) := (blk_cell BK758.out 1).trans rfl; have hfz13_0 := blk_frozen BK758.out 0; have hfz13_1 := blk_frozen BK758.out 1))
        go_meet
        case rel => exact ⟨_, (true), (by first | rfl | (simp; done) | (simp [*]; done)), H', ⟨by first | omega | exact Nat.le_refl _⟩, ⟨by (with_reducible repeat (first | apply Kd.V_alloc | apply Kd.V_drewN | apply Kd.V_drew)); exact Kd.V_mono HO0_0.out (fun _ hk => ⟨hk.1.1, ⟨hk.1.2, hk.2⟩⟩)⟩, ⟨by (with_reducible repeat (first | apply Kd.V_alloc | apply Kd.V_drewN | apply Kd.V_drew)); exact Kd.V_mono HO0_1.out (fun _ hk => ⟨hk.1.1, ⟨hk.1.2, hk.2⟩⟩)⟩, ⟨by (with_reducible repeat (first | refine blk_drewN ?_ _ | refine blk_drew ?_ | refine blk_alloc ?_ _)); exact BK758.out⟩, ⟨by (with_reducible repeat (first | refine blk_drewN ?_ _ | refine blk_drew ?_ | refine blk_alloc ?_ _)); exact BK759.out⟩, ⟨by repeat (first | (with_reducible first | exact HB.out | apply below_alloc | apply pw_below_drewN | apply below_drew1 | refine below_set ?_ GE758.out | refine below_set ?_ GE759.out) | exact HB.out)⟩⟩
      · rw [if_neg c9] at H
        have c9b0 : ((l0_1.length : Int) == 0) = false := beq_eq_false_iff_ne.mpr c9
        have c9b1 : ((l0_1.length : Int) != 0) = true := bne_iff_ne.mpr c9
        have c9b2 : ¬ (l0_1 = []) := fun h_ => c9 (by rw [h_]; rfl)
        (first | rw [c9b0] | (simp only [i64_w, i32_w]; rw [c9b0]) | skip)
        replace H := Option.bind_eq_some_iff.mp H
        obtain ⟨t761, A140, H⟩ := H
        replace H : (flagstonelaw10_HandleFull.j0 k a1 (!t761) l0_0 l0_1 a2_0 a2_1 a2_2 a2_3 a2_4 a2_5) = some r := H
        have A14 := Aside0.mk A140
        clear A140
        have H' := Aside0.mk H
        clear H
        have hnb15 := NB758_759.out
        have hnc15 := NB759_758.out
        have hcz16_0 : w6.cell? ⟨gb758, 0, none⟩ = some (.slice A0_0 l0_0.length c0_0) := (blk_cell BK758.out 0).trans rfl
        have hcz16_1 : w6.cell? ⟨gb758, 1, none⟩ = some (.slice A0_1 l0_1.length c0_1) := (blk_cell BK758.out 1).trans rfl
        have hfz16_0 := blk_frozen BK758.out 0
        have hfz16_1 := blk_frozen BK758.out 1
        go_wp2_with (first | ((with_reducible refine gate_callee (f := 18) rfl ?_); refine goesL_ (some 22) rfl rfl Try.func18 (by kernel_rfl) rfl #[.agg #[.slice A0_0 l0_0.length c0_0, .slice A0_1 l0_1.length c0_1]] rfl (by (try simp only [List.map_toArray, List.map_cons, List.map_nil]); first | done | rfl | (simp only [List.length_drop, List.length_take]; rfl)) ?_; (with_reducible refine (flagstonelaw10_fine.calls k _ _ l0_0 _ _ l0_1 true _ ?side1 ?side2 ?side3 ?side4 A7.out).mono ?_); (case side1 => repeat (first | exact (Kd.V_reads' HO0_0.out).2.2 | (with_reducible refine Kd.C_alloc ?_ _) | (with_reducible refine Kd.C_drewN ?_ _) | (with_reducible refine Kd.C_drew ?_))); (case side2 => exact (Kd.V_reads' HO0_0.out).2.1); (case side3 => repeat (first | exact (Kd.V_reads' HO0_1.out).2.2 | (with_reducible refine Kd.C_alloc ?_ _) | (with_reducible refine Kd.C_drewN ?_ _) | (with_reducible refine Kd.C_drew ?_))); (case side4 => exact (Kd.V_reads' HO0_1.out).2.1); rintro e w17 ⟨rfl, hb⟩; refine ⟨_, rfl, ?_⟩; have n0_ := Aside0.mk (Kd.V_below (by (with_reducible repeat (first | apply Kd.V_alloc | apply Kd.V_drewN | apply Kd.V_drew)); exact HO0_0.out) hb); have n1_ := Aside0.mk (Kd.V_below (by (with_reducible repeat (first | apply Kd.V_alloc | apply Kd.V_drewN | apply Kd.V_drew)); exact HO0_1.out) hb); have n2_ := Aside0.mk (blk_below (g := gb758) (o := .cells #[.slice A0_0 l0_0.length c0_0, .slice A0_1 l0_1.length c0_1] 25 (0, 0)) (by (with_reducible repeat (first | refine blk_drewN ?_ _ | refine blk_drew ?_ | refine blk_alloc ?_ _)); exact BK758.out) hb); have n3_ := Aside0.mk (blk_below (g := gb759) (o := .cells #[.int .i64 a2_0, .int .i64 a2_1, .bool a2_2, .bool a2_3, .int .i64 a2_4, .int .i64 a2_5] 38 (0, 0)) (by (with_reducible repeat (first | refine blk_drewN ?_ _ | refine blk_drew ?_ | refine blk_alloc ?_ _)); exact BK759.out) hb); have n4_ := Aside0.mk (below_step (by repeat (first | (with_reducible first | exact HB.out | apply below_alloc | apply pw_below_drewN | apply below_drew1 | refine below_set ?_ GE758.out | refine below_set ?_ GE759.out) | exact HB.out)) hb); clear HO0_0; clear HO0_1; clear BK758; clear BK759; clear HB; have HO0_0 := n0_; have HO0_1 := n1_; have BK758 := n2_; have BK759 := n3_; have HB := n4_; clear n0_ n1_ n2_ n3_ n4_; (try clear hb); (try clear hb2); (try clear hk); (try clear hi); have hcz18_0 : w17.cell? ⟨gb758, 0, none⟩ = some (.slice A0_0 l0_0.length c0_0) := (blk_cell BK758.out 0).trans rfl; have hcz18_1 : w17.cell? ⟨gb758, 1, none⟩ = some (.slice A0_1 l0_1.length c0_1) := (blk_cell BK758.out 1).trans rfl; have hfz18_0 := blk_frozen BK758.out 0; have hfz18_1 := blk_frozen BK758.out 1) | (go_at_call 11; (with_reducible refine (flagstonelaw10_shown.calls k  t761 _ A14.out).mono ?_); rintro e w19 ⟨rfl, hb⟩; have n0_ := Aside0.mk (Kd.V_below (by (with_reducible repeat (first | apply Kd.V_alloc | apply Kd.V_drewN | apply Kd.V_drew)); exact HO0_0.out) hb); have n1_ := Aside0.mk (Kd.V_below (by (with_reducible repeat (first | apply Kd.V_alloc | apply Kd.V_drewN | apply Kd.V_drew)); exact HO0_1.out) hb); have n2_ := Aside0.mk (blk_below (g := gb758) (o := .cells #[.slice A0_0 l0_0.length c0_0, .slice A0_1 l0_1.length c0_1] 25 (0, 0)) (by (with_reducible repeat (first | refine blk_drewN ?_ _ | refine blk_drew ?_ | refine blk_alloc ?_ _)); exact BK758.out) hb); have n3_ := Aside0.mk (blk_below (g := gb759) (o := .cells #[.int .i64 a2_0, .int .i64 a2_1, .bool a2_2, .bool a2_3, .int .i64 a2_4, .int .i64 a2_5] 38 (0, 0)) (by (with_reducible repeat (first | refine blk_drewN ?_ _ | refine blk_drew ?_ | refine blk_alloc ?_ _)); exact BK759.out) hb); have n4_ := Aside0.mk (below_step (by repeat (first | (with_reducible first | exact HB.out | apply below_alloc | apply pw_below_drewN | apply below_drew1 | refine below_set ?_ GE758.out | refine below_set ?_ GE759.out) | exact HB.out)) hb); clear HO0_0; clear HO0_1; clear BK758; clear BK759; clear HB; have HO0_0 := n0_; have HO0_1 := n1_; have BK758 := n2_; have BK759 := n3_; have HB := n4_; clear n0_ n1_ n2_ n3_ n4_; (try clear hb); (try clear hb2); (try clear hk); (try clear hi)))
        go_meet
        case rel => exact ⟨_, (!t761), (by first | rfl | (simp; done) | (simp [*]; done)), H', ⟨by first | omega | exact Nat.le_refl _⟩, ⟨by (with_reducible repeat (first | apply Kd.V_alloc | apply Kd.V_drewN | apply Kd.V_drew)); exact Kd.V_mono HO0_0.out (fun _ hk => ⟨hk.1.1, ⟨hk.1.2, hk.2⟩⟩)⟩, ⟨by (with_reducible repeat (first | apply Kd.V_alloc | apply Kd.V_drewN | apply Kd.V_drew)); exact Kd.V_mono HO0_1.out (fun _ hk => ⟨hk.1.1, ⟨hk.1.2, hk.2⟩⟩)⟩, ⟨by (with_reducible repeat (first | refine blk_drewN ?_ _ | refine blk_drew ?_ | refine blk_alloc ?_ _)); exact BK758.out⟩, ⟨by (with_reducible repeat (first | refine blk_drewN ?_ _ | refine blk_drew ?_ | refine blk_alloc ?_ _)); exact BK759.out⟩, ⟨by repeat (first | (with_reducible first | exact HB.out | apply below_alloc | apply pw_below_drewN | apply below_drew1 | refine below_set ?_ GE758.out | refine below_set ?_ GE759.out) | exact HB.out)⟩⟩
    · replace c8 := Bool.eq_false_iff.mpr c8
      subst c8
      have H1 : (flagstonelaw10_HandleFull.j0 k a1 true l0_0 l0_1 a2_0 a2_1 a2_2 a2_3 a2_4 a2_5) = some r := by rw [if_neg (show ¬ (false = true) by decide)] at H; exact H
      clear H
      have H := H1
      clear H1
      have H' := Aside0.mk H
      clear H
      have hnb20 := NB758_759.out
      have hnc20 := NB759_758.out
      have hcz21_0 : w6.cell? ⟨gb758, 0, none⟩ = some (.slice A0_0 l0_0.length c0_0) := (blk_cell BK758.out 0).trans rfl
      have hcz21_1 : w6.cell? ⟨gb758, 1, none⟩ = some (.slice A0_1 l0_1.length c0_1) := (blk_cell BK758.out 1).trans rfl
      have hfz21_0 := blk_frozen BK758.out 0
      have hfz21_1 := blk_frozen BK758.out 1
      go_wp2_with (first | ((with_reducible refine gate_callee (f := 18) rfl ?_); refine goesL_ (some 22) rfl rfl Try.func18 (by kernel_rfl) rfl #[.agg #[.slice A0_0 l0_0.length c0_0, .slice A0_1 l0_1.length c0_1]] rfl (by (try simp only [List.map_toArray, List.map_cons, List.map_nil]); first | done | rfl | (simp only [List.length_drop, List.length_take]; rfl)) ?_; (with_reducible refine (flagstonelaw10_fine.calls k _ _ l0_0 _ _ l0_1 false _ ?side1 ?side2 ?side3 ?side4 A7.out).mono ?_); (case side1 => repeat (first | exact (Kd.V_reads' HO0_0.out).2.2 | (with_reducible refine Kd.C_alloc ?_ _) | (with_reducible refine Kd.C_drewN ?_ _) | (with_reducible refine Kd.C_drew ?_))); (case side2 => exact (Kd.V_reads' HO0_0.out).2.1); (case side3 => repeat (first | exact (Kd.V_reads' HO0_1.out).2.2 | (with_reducible refine Kd.C_alloc ?_ _) | (with_reducible refine Kd.C_drewN ?_ _) | (with_reducible refine Kd.C_drew ?_))); (case side4 => exact (Kd.V_reads' HO0_1.out).2.1); rintro e w22 ⟨rfl, hb⟩; refine ⟨_, rfl, ?_⟩; have n0_ := Aside0.mk (Kd.V_below (by (with_reducible repeat (first | apply Kd.V_alloc | apply Kd.V_drewN | apply Kd.V_drew)); exact HO0_0.out) hb); have n1_ := Aside0.mk (Kd.V_below (by (with_reducible repeat (first | apply Kd.V_alloc | apply Kd.V_drewN | apply Kd.V_drew)); exact HO0_1.out) hb); have n2_ := Aside0.mk (blk_below (g := gb758) (o := .cells #[.slice A0_0 l0_0.length c0_0, .slice A0_1 l0_1.length c0_1] 25 (0, 0)) (by (with_reducible repeat (first | refine blk_drewN ?_ _ | refine blk_drew ?_ | refine blk_alloc ?_ _)); exact BK758.out) hb); have n3_ := Aside0.mk (blk_below (g := gb759) (o := .cells #[.int .i64 a2_0, .int .i64 a2_1, .bool a2_2, .bool a2_3, .int .i64 a2_4, .int .i64 a2_5] 38 (0, 0)) (by (with_reducible repeat (first | refine blk_drewN ?_ _ | refine blk_drew ?_ | refine blk_alloc ?_ _)); exact BK759.out) hb); have n4_ := Aside0.mk (below_step (by repeat (first | (with_reducible first | exact HB.out | apply below_alloc | apply pw_below_drewN | apply below_drew1 | refine below_set ?_ GE758.out | refine below_set ?_ GE759.out) | exact HB.out)) hb); clear HO0_0; clear HO0_1; clear BK758; clear BK759; clear HB; have HO0_0 := n0_; have HO0_1 := n1_; have BK758 := n2_; have BK759 := n3_; have HB := n4_; clear n0_ n1_ n2_ n3_ n4_; (try clear hb); (try clear hb2); (try clear hk); (try clear hi)))
      go_meet
      case rel => exact ⟨_, (true), (by first | rfl | (simp; done) | (simp [*]; done)), H', ⟨by first | omega | exact Nat.le_refl _⟩, ⟨by (with_reducible repeat (first | apply Kd.V_alloc | apply Kd.V_drewN | apply Kd.V_drew)); exact Kd.V_mono HO0_0.out (fun _ hk => ⟨hk.1.1, ⟨hk.1.2, hk.2⟩⟩)⟩, ⟨by (with_reducible repeat (first | apply Kd.V_alloc | apply Kd.V_drewN | apply Kd.V_drew)); exact Kd.V_mono HO0_1.out (fun _ hk => ⟨hk.1.1, ⟨hk.1.2, hk.2⟩⟩)⟩, ⟨by (with_reducible repeat (first | refine blk_drewN ?_ _ | refine blk_drew ?_ | refine blk_alloc ?_ _)); exact BK758.out⟩, ⟨by (with_reducible repeat (first | refine blk_drewN ?_ _ | refine blk_drew ?_ | refine blk_alloc ?_ _)); exact BK759.out⟩, ⟨by repeat (first | (with_reducible first | exact HB.out | apply below_alloc | apply pw_below_drewN | apply below_drew1 | refine below_set ?_ GE758.out | refine below_set ?_ GE759.out) | exact HB.out)⟩⟩
  case rest =>
    clear HC4
    try clear c1
    try clear c2
    try clear p2
    try clear c5
    try clear c8
    try clear c9
    try clear c9b0
    try clear c9b1
    try clear c9b2
    try clear c10
    try clear c15
    try clear c18
    try clear c20
    try clear hcz11_0
    try clear hcz11_1
    try clear hcz13_0
    try clear hcz13_1
    try clear hcz16_0
    try clear hcz16_1
    try clear hcz18_0
    try clear hcz18_1
    try clear hcz21_0
    try clear hcz21_1
    try clear hfz11_0
    try clear hfz11_1
    try clear hfz13_0
    try clear hfz13_1
    try clear hfz16_0
    try clear hfz16_1
    try clear hfz18_0
    try clear hfz18_1
    try clear hfz21_0
    try clear hfz21_1
    obtain ⟨kq, x33_3, rfl, HA, HJ3, HO_759000, HO_759001, BK758, BK759, HB⟩ := hcut
    cases kq with
    | zero => exact absurd HA.out (by simp [flagstonelaw10_HandleFull.j0])
    | succ kj3 =>
      have H := HA.out
      clear HA
      simp only [flagstonelaw10_HandleFull.j0] at H
      by_cases c23 : x33_3 = true
      · subst c23
        have H1 : ((flagstonelaw10_shown.f kj3).bind fun t762 => (some t762)) = some r := by rw [if_pos rfl] at H; exact H
        clear H
        have H := H1
        clear H1
        replace H := Option.bind_eq_some_iff.mp H
        obtain ⟨t762, A240, H⟩ := H
        replace H : (some t762) = some r := H
        have A24 := Aside0.mk A240
        clear A240
        obtain rfl := Option.some.inj H
        go_wp2_with (first | ((with_reducible refine gate_callee (f := 11) rfl ?_); refine goesL_ (some 34) rfl rfl Try.func11 (by kernel_rfl) rfl #[] rfl (by (try simp only [List.map_toArray, List.map_cons, List.map_nil]); first | done | rfl | (simp only [List.length_drop, List.length_take]; rfl)) ?_; (with_reducible refine (flagstonelaw10_shown.calls kj3  t762 _ A24.out).mono ?_); rintro e w25 ⟨rfl, hb⟩; refine ⟨_, rfl, ?_⟩; have n0_ := Aside0.mk (Kd.V_below (by (with_reducible repeat (first | apply Kd.V_alloc | apply Kd.V_drewN | apply Kd.V_drew)); exact HO_759000.out) hb); have n1_ := Aside0.mk (Kd.V_below (by (with_reducible repeat (first | apply Kd.V_alloc | apply Kd.V_drewN | apply Kd.V_drew)); exact HO_759001.out) hb); have n2_ := Aside0.mk (blk_below (g := gb758) (o := .cells #[.slice A0_0 l0_0.length c0_0, .slice A0_1 l0_1.length c0_1] 25 (0, 0)) (by (with_reducible repeat (first | refine blk_drewN ?_ _ | refine blk_drew ?_ | refine blk_alloc ?_ _)); exact BK758.out) hb); have n3_ := Aside0.mk (blk_below (g := gb759) (o := .cells #[.int .i64 a2_0, .int .i64 a2_1, .bool a2_2, .bool a2_3, .int .i64 a2_4, .int .i64 a2_5] 38 (0, 0)) (by (with_reducible repeat (first | refine blk_drewN ?_ _ | refine blk_drew ?_ | refine blk_alloc ?_ _)); exact BK759.out) hb); have n4_ := Aside0.mk (below_step (by repeat (first | (with_reducible first | exact HB.out | apply below_alloc | apply pw_below_drewN | apply below_drew1 | refine below_set ?_ GE758.out | refine below_set ?_ GE759.out) | exact HB.out)) hb); clear HO_759000; clear HO_759001; clear BK758; clear BK759; clear HB; have HO_759000 := n0_; have HO_759001 := n1_; have BK758 := n2_; have BK759 := n3_; have HB := n4_; clear n0_ n1_ n2_ n3_ n4_; (try clear hb); (try clear hb2); (try clear hk); (try clear hi)))
        go_ret
        exact ⟨by first | rfl | (simp [errW_none, errW_some] <;> rfl) | (simp [*, errW_none, errW_some] <;> rfl), by repeat (first | (with_reducible first | exact HB.out | apply below_alloc | apply pw_below_drewN | apply below_drew1 | refine below_set ?_ GE758.out | refine below_set ?_ GE759.out) | exact HB.out)⟩
      · replace c23 := Bool.eq_false_iff.mpr c23
        subst c23
        have H1 : (if (l0_1.length : Int) = 0 then (none) else ((handle_Count.f kj3 l0_0 l0_1 (Int.tmod (wrap64 (a1)) (l0_1.length : Int))).bind fun t763 => (flagstonelaw10_HandleFull.l0 kj3 (Int.tmod (wrap64 (a1)) (l0_1.length : Int)) t763 (-1) 0 l0_0 l0_1 a2_0 a2_1 a2_2 a2_3 a2_4 a2_5))) = some r := by rw [if_neg (show ¬ (false = true) by decide)] at H; exact H
        clear H
        have H := H1
        clear H1
        by_cases c26 : (l0_1.length : Int) = 0
        · rw [if_pos c26] at H
          exact absurd H (by simp)
        · rw [if_neg c26] at H
          have c26b0 : ((l0_1.length : Int) == 0) = false := beq_eq_false_iff_ne.mpr c26
          have c26b1 : ((l0_1.length : Int) != 0) = true := bne_iff_ne.mpr c26
          have c26b2 : ¬ (l0_1 = []) := fun h_ => c26 (by rw [h_]; rfl)
          replace H := Option.bind_eq_some_iff.mp H
          obtain ⟨t763, A270, H⟩ := H
          replace H : (flagstonelaw10_HandleFull.l0 kj3 (Int.tmod (wrap64 (a1)) (l0_1.length : Int)) t763 (-1) 0 l0_0 l0_1 a2_0 a2_1 a2_2 a2_3 a2_4 a2_5) = some r := H
          have A27 := Aside0.mk A270
          clear A270
          have H' := Aside0.mk H
          clear H
          have hnb28 := NB758_759.out
          have hnc28 := NB759_758.out
          have hcz29_0 : wc.cell? ⟨gb758, 0, none⟩ = some (.slice A0_0 l0_0.length c0_0) := (blk_cell BK758.out 0).trans rfl
          have hcz29_1 : wc.cell? ⟨gb758, 1, none⟩ = some (.slice A0_1 l0_1.length c0_1) := (blk_cell BK758.out 1).trans rfl
          have hfz29_0 := blk_frozen BK758.out 0
          have hfz29_1 := blk_frozen BK758.out 1
          go_wp2_with (first | ((with_reducible refine gate_callee (f := 22) rfl ?_); refine goesL_ (some 43) rfl rfl Try.func22 (by kernel_rfl) rfl #[.agg #[.slice A0_0 l0_0.length c0_0, .slice A0_1 l0_1.length c0_1], .int .i64 (Int.tmod (wrap64 (a1)) (l0_1.length : Int))] rfl (by (try simp only [List.map_toArray, List.map_cons, List.map_nil]); first | done | rfl | (simp only [List.length_drop, List.length_take]; rfl)) ?_; (with_reducible refine (handle_Count.calls kj3 _ _ l0_0 _ _ l0_1 (Int.tmod (wrap64 (a1)) (l0_1.length : Int)) t763 _ ?side1 ?side2 ?side3 ?side4 A27.out).mono ?_); (case side1 => repeat (first | exact (Kd.V_reads' HO_759000.out).2.2 | (with_reducible refine Kd.C_alloc ?_ _) | (with_reducible refine Kd.C_drewN ?_ _) | (with_reducible refine Kd.C_drew ?_))); (case side2 => exact (Kd.V_reads' HO_759000.out).2.1); (case side3 => repeat (first | exact (Kd.V_reads' HO_759001.out).2.2 | (with_reducible refine Kd.C_alloc ?_ _) | (with_reducible refine Kd.C_drewN ?_ _) | (with_reducible refine Kd.C_drew ?_))); (case side4 => exact (Kd.V_reads' HO_759001.out).2.1); rintro e w30 ⟨rfl, hb⟩; refine ⟨_, rfl, ?_⟩; have n0_ := Aside0.mk (Kd.V_below (by (with_reducible repeat (first | apply Kd.V_alloc | apply Kd.V_drewN | apply Kd.V_drew)); exact HO_759000.out) hb); have n1_ := Aside0.mk (Kd.V_below (by (with_reducible repeat (first | apply Kd.V_alloc | apply Kd.V_drewN | apply Kd.V_drew)); exact HO_759001.out) hb); have n2_ := Aside0.mk (blk_below (g := gb758) (o := .cells #[.slice A0_0 l0_0.length c0_0, .slice A0_1 l0_1.length c0_1] 25 (0, 0)) (by (with_reducible repeat (first | refine blk_drewN ?_ _ | refine blk_drew ?_ | refine blk_alloc ?_ _)); exact BK758.out) hb); have n3_ := Aside0.mk (blk_below (g := gb759) (o := .cells #[.int .i64 a2_0, .int .i64 a2_1, .bool a2_2, .bool a2_3, .int .i64 a2_4, .int .i64 a2_5] 38 (0, 0)) (by (with_reducible repeat (first | refine blk_drewN ?_ _ | refine blk_drew ?_ | refine blk_alloc ?_ _)); exact BK759.out) hb); have n4_ := Aside0.mk (below_step (by repeat (first | (with_reducible first | exact HB.out | apply below_alloc | apply pw_below_drewN | apply below_drew1 | refine below_set ?_ GE758.out | refine below_set ?_ GE759.out) | exact HB.out)) hb); clear HO_759000; clear HO_759001; clear BK758; clear BK759; clear HB; have HO_759000 := n0_; have HO_759001 := n1_; have BK758 := n2_; have BK759 := n3_; have HB := n4_; clear n0_ n1_ n2_ n3_ n4_; (try clear hb); (try clear hb2); (try clear hk); (try clear hi)))
          go_loopg [8, 9, 10] kj3 (fun kq v8 v9 v10 w' => ∃ (x8_2 : Int) (x9_2 : Int) (x10_2 : Int) (x759000_2 : List (S38)) (x759001_2 : List (List Int)) (u759000 : Value) (u759001 : Value), v8 = .int .i64 x8_2 ∧ v9 = .int .i64 x9_2 ∧ v10 = .int .i64 x10_2 ∧ Aside0 (flagstonelaw10_HandleFull.l0 kq (Int.tmod (wrap64 (a1)) (l0_1.length : Int)) x8_2 x9_2 x10_2 x759000_2 x759001_2 a2_0 a2_1 a2_2 a2_3 a2_4 a2_5 = some r) ∧ Aside0 (kq ≤ kj3) ∧ Aside0 (Kd.V k38 38 w' w.heap.size (fun k_ => ((P0_0_ k_ ∨ P0_1_ k_) ∨ w.heap.size ≤ k_) ∧ k_ ≠ gb758 ∧ k_ ≠ gb759) u759000 x759000_2) ∧ Aside0 (Kd.V (Kd.slice 3 (Kd.int .i64)) 64 w' w.heap.size (fun k_ => ((P0_0_ k_ ∨ P0_1_ k_) ∨ w.heap.size ≤ k_) ∧ k_ ≠ gb758 ∧ k_ ≠ gb759) u759001 x759001_2) ∧ Aside0 (w'.heap[gb758]? = some (.cells #[u759000, u759001] 25 (0, 0))) ∧ Aside0 (w'.heap[gb759]? = some (.cells #[.int .i64 a2_0, .int .i64 a2_1, .bool a2_2, .bool a2_3, .int .i64 a2_4, .int .i64 a2_5] 38 (0, 0))) ∧ Aside0 (Below w.heap.size w w'))
          case atStart => exact ⟨(t763), ((-1)), (0), (l0_0), (l0_1), (.slice A0_0 l0_0.length c0_0), (.slice A0_1 l0_1.length c0_1), (by first | rfl | (simp; done) | (simp [*]; done)), (by first | rfl | (simp; done) | (simp [*]; done)), (by first | rfl | (simp; done) | (simp [*]; done)), H', ⟨Nat.le_refl _⟩, ⟨by (with_reducible repeat (first | apply Kd.V_alloc | apply Kd.V_drewN | apply Kd.V_drew)); exact HO_759000.out⟩, ⟨by (with_reducible repeat (first | apply Kd.V_alloc | apply Kd.V_drewN | apply Kd.V_drew)); exact HO_759001.out⟩, ⟨by (with_reducible repeat (first | refine blk_drewN ?_ _ | refine blk_drew ?_ | refine blk_alloc ?_ _)); exact BK758.out⟩, ⟨by (with_reducible repeat (first | refine blk_drewN ?_ _ | refine blk_drew ?_ | refine blk_alloc ?_ _)); exact BK759.out⟩, ⟨by repeat (first | (with_reducible first | exact HB.out | apply below_alloc | apply pw_below_drewN | apply below_drew1 | refine below_set ?_ GE758.out | refine below_set ?_ GE759.out) | exact HB.out)⟩⟩
          case round =>
            clear H'
            try clear c1
            try clear c2
            try clear p2
            try clear c5
            try clear p6
            try clear c8
            try clear c9
            try clear c9b0
            try clear c9b1
            try clear c9b2
            try clear c10
            try clear c11
            try clear c15
            try clear c18
            try clear c20
            try clear c22
            try clear c23
            try clear c26
            try clear c26b0
            try clear c26b1
            try clear c26b2
            try clear c28
            try clear hcz11_0
            try clear hcz11_1
            try clear hcz13_0
            try clear hcz13_1
            try clear hcz16_0
            try clear hcz16_1
            try clear hcz18_0
            try clear hcz18_1
            try clear hcz21_0
            try clear hcz21_1
            try clear hcz29_0
            try clear hcz29_1
            try clear hfz11_0
            try clear hfz11_1
            try clear hfz13_0
            try clear hfz13_1
            try clear hfz16_0
            try clear hfz16_1
            try clear hfz18_0
            try clear hfz18_1
            try clear hfz21_0
            try clear hfz21_1
            try clear hfz29_0
            try clear hfz29_1
            try clear p2
            obtain ⟨x8_2, x9_2, x10_2, x759000_2, x759001_2, u759000, u759001, rfl, rfl, rfl, HA, HK2, HO_759000, HO_759001, BK758, BK759, HB⟩ := hrel
            cases gk with
            | zero => exact absurd HA.out (by simp [flagstonelaw10_HandleFull.l0])
            | succ k2 =>
              have H := HA.out
              clear HA
              simp only [flagstonelaw10_HandleFull.l0] at H
              by_cases c31 : x10_2 < 10
              · rw [if_pos c31] at H
                have c31b0 : decide (x10_2 < 10) = true := decide_eq_true c31
                clear c31
                replace H := Option.bind_eq_some_iff.mp H
                obtain ⟨⟨t764, t767, t770, t771⟩, A320, H⟩ := H
                replace H : (if t771 = 0 then ((handle_Get.f x759000_2 x759001_2 (Int.tmod (wrap64 (a1)) (l0_1.length : Int)) t770).bind fun bt773 => (if bt773.2.2.2.2.2.2.2 = true then (flagstonelaw10_HandleFull.j2 k2 (Int.tmod (wrap64 (a1)) (l0_1.length : Int)) x8_2 x10_2 t770 true x759000_2 x759001_2 a2_0 a2_1 a2_2 a2_3 a2_4 a2_5 t764 t767) else (if t770 ≤ x9_2 then (flagstonelaw10_HandleFull.j2 k2 (Int.tmod (wrap64 (a1)) (l0_1.length : Int)) x8_2 x10_2 t770 true x759000_2 x759001_2 a2_0 a2_1 a2_2 a2_3 a2_4 a2_5 t764 t767) else (if t770 > 7 then (flagstonelaw10_HandleFull.j2 k2 (Int.tmod (wrap64 (a1)) (l0_1.length : Int)) x8_2 x10_2 t770 true x759000_2 x759001_2 a2_0 a2_1 a2_2 a2_3 a2_4 a2_5 t764 t767) else (flagstonelaw10_HandleFull.j2 k2 (Int.tmod (wrap64 (a1)) (l0_1.length : Int)) x8_2 x10_2 t770 (decide (x8_2 ≥ 8)) x759000_2 x759001_2 a2_0 a2_1 a2_2 a2_3 a2_4 a2_5 t764 t767))))) else (if t771 = 13 then (some (x8_2 == 8)) else (none))) = some r := H
                have A32 := Aside0.mk A320
                clear A320
                by_cases c33 : t771 = 0
                · rw [if_pos c33] at H
                  have c33b0 : (t771 == 0) = true := beq_iff_eq.mpr c33
                  have c33b1 : (t771 != 0) = false := bne_eq_false_iff_eq.mpr c33
                  clear c33
                  replace H := Option.bind_eq_some_iff.mp H
                  obtain ⟨⟨t773, t774, t775, t776, t777, t778, t779, t780⟩, A340, H⟩ := H
                  replace H : (if t780 = true then (flagstonelaw10_HandleFull.j2 k2 (Int.tmod (wrap64 (a1)) (l0_1.length : Int)) x8_2 x10_2 t770 true x759000_2 x759001_2 a2_0 a2_1 a2_2 a2_3 a2_4 a2_5 t764 t767) else (if t770 ≤ x9_2 then (flagstonelaw10_HandleFull.j2 k2 (Int.tmod (wrap64 (a1)) (l0_1.length : Int)) x8_2 x10_2 t770 true x759000_2 x759001_2 a2_0 a2_1 a2_2 a2_3 a2_4 a2_5 t764 t767) else (if t770 > 7 then (flagstonelaw10_HandleFull.j2 k2 (Int.tmod (wrap64 (a1)) (l0_1.length : Int)) x8_2 x10_2 t770 true x759000_2 x759001_2 a2_0 a2_1 a2_2 a2_3 a2_4 a2_5 t764 t767) else (flagstonelaw10_HandleFull.j2 k2 (Int.tmod (wrap64 (a1)) (l0_1.length : Int)) x8_2 x10_2 t770 (decide (x8_2 ≥ 8)) x759000_2 x759001_2 a2_0 a2_1 a2_2 a2_3 a2_4 a2_5 t764 t767)))) = some r := H
                  have A34 := Aside0.mk A340
                  clear A340
                  have HC35 := Aside0.mk H
                  clear H
                  have hnb36 := NB758_759.out
                  have hnc36 := NB759_758.out
                  have hcz37_0 : wr.cell? ⟨gb758, 0, none⟩ = some (u759000) := (blk_cell BK758.out 0).trans rfl
                  have hcz37_1 : wr.cell? ⟨gb758, 1, none⟩ = some (u759001) := (blk_cell BK758.out 1).trans rfl
                  have hfz37_0 := blk_frozen BK758.out 0
                  have hfz37_1 := blk_frozen BK758.out 1
                  have hcz38_0 : wr.cell? ⟨gb759, 0, none⟩ = some (.int .i64 a2_0) := (blk_cell BK759.out 0).trans rfl
                  have hcz38_1 : wr.cell? ⟨gb759, 1, none⟩ = some (.int .i64 a2_1) := (blk_cell BK759.out 1).trans rfl
                  have hcz38_2 : wr.cell? ⟨gb759, 2, none⟩ = some (.bool a2_2) := (blk_cell BK759.out 2).trans rfl
                  have hcz38_3 : wr.cell? ⟨gb759, 3, none⟩ = some (.bool a2_3) := (blk_cell BK759.out 3).trans rfl
                  have hcz38_4 : wr.cell? ⟨gb759, 4, none⟩ = some (.int .i64 a2_4) := (blk_cell BK759.out 4).trans rfl
                  have hcz38_5 : wr.cell? ⟨gb759, 5, none⟩ = some (.int .i64 a2_5) := (blk_cell BK759.out 5).trans rfl
                  have hfz38_0 := blk_frozen BK759.out 0
                  have hfz38_1 := blk_frozen BK759.out 1
                  have hfz38_2 := blk_frozen BK759.out 2
                  have hfz38_3 := blk_frozen BK759.out 3
                  have hfz38_4 := blk_frozen BK759.out 4
                  have hfz38_5 := blk_frozen BK759.out 5
                  obtain ⟨Ao39, co39, eo39⟩ := Kd.V_slice HO_759000.out
                  subst eo39
                  obtain ⟨Ao40, co40, eo40⟩ := Kd.V_slice HO_759001.out
                  subst eo40
                  go_upto_region 13 with (first | ((with_reducible refine gate_callee (f := 19) rfl ?_); refine goesL_ (some 52) rfl rfl Try.func19 (by kernel_rfl) rfl #[.agg #[.slice Ao39 x759000_2.length co39, .slice Ao40 x759001_2.length co40], .int .i64 (Int.tmod (wrap64 (a1)) (l0_1.length : Int)), .agg #[.int .i64 a2_0, .int .i64 a2_1, .bool a2_2, .bool a2_3, .int .i64 a2_4, .int .i64 a2_5]] rfl (by (try simp only [List.map_toArray, List.map_cons, List.map_nil]); first | done | rfl | (simp only [List.length_drop, List.length_take]; rfl)) ?_; (with_reducible refine (handle_Open.calls (fun k_ => (((P0_0_ k_ ∨ P0_1_ k_) ∨ w.heap.size ≤ k_) ∧ (k_ ≠ gb758 ∧ k_ ≠ gb759))) _ _ x759000_2 (fun k_ => (((P0_0_ k_ ∨ P0_1_ k_) ∨ w.heap.size ≤ k_) ∧ (k_ ≠ gb758 ∧ k_ ≠ gb759))) _ _ x759001_2 (Int.tmod (wrap64 (a1)) (l0_1.length : Int)) a2_0 a2_1 a2_2 a2_3 a2_4 a2_5 t764 t767 t770 t771 _ ?side1 ?side2 A32.out).mono ?_); (case side1 => exact HO_759000.out); (case side2 => exact HO_759001.out); rintro e w41 ⟨v765, v768, rfl, ho0, ho1, hb⟩; refine ⟨_, rfl, ?_⟩; have n0_ := Aside0.mk (Kd.V_below (by (with_reducible repeat (first | apply Kd.V_alloc | apply Kd.V_drewN | apply Kd.V_drew)); exact HO_759000.out) hb); have n1_ := Aside0.mk (Kd.V_below (by (with_reducible repeat (first | apply Kd.V_alloc | apply Kd.V_drewN | apply Kd.V_drew)); exact HO_759001.out) hb); have n2_ := Aside0.mk (Kd.V_lower (Kd.V_mono (ok' := fun k_ => ((P0_0_ k_ ∨ P0_1_ k_) ∨ w.heap.size ≤ k_) ∧ k_ ≠ gb758 ∧ k_ ≠ gb759) ho0 (fun k_ hk_ => ⟨Or.elim hk_ (fun hs_ => Or.elim hs_ (fun hs_ => hs_.1) (fun hs_ => hs_.1)) (fun hn_ => (.inr (Nat.le_trans (below_size (by repeat (first | (with_reducible first | exact HB.out | apply below_alloc | apply pw_below_drewN | apply below_drew1 | refine below_set ?_ GE758.out | refine below_set ?_ GE759.out) | exact HB.out))) hn_))), Or.elim hk_ (fun hs_ => Or.elim hs_ (fun hs_ => hs_.2.1) (fun hs_ => hs_.2.1)) (fun hn_ => (Kd.freshB (g := gb758) (o := .cells #[.slice Ao39 x759000_2.length co39, .slice Ao40 x759001_2.length co40] 25 (0, 0)) (by (with_reducible repeat (first | refine blk_drewN ?_ _ | refine blk_drew ?_ | refine blk_alloc ?_ _)); exact BK758.out) k_ hn_)), Or.elim hk_ (fun hs_ => Or.elim hs_ (fun hs_ => hs_.2.2) (fun hs_ => hs_.2.2)) (fun hn_ => (Kd.freshB (g := gb759) (o := .cells #[.int .i64 a2_0, .int .i64 a2_1, .bool a2_2, .bool a2_3, .int .i64 a2_4, .int .i64 a2_5] 38 (0, 0)) (by (with_reducible repeat (first | refine blk_drewN ?_ _ | refine blk_drew ?_ | refine blk_alloc ?_ _)); exact BK759.out) k_ hn_))⟩)) (below_size (by repeat (first | (with_reducible first | exact HB.out | apply below_alloc | apply pw_below_drewN | apply below_drew1 | refine below_set ?_ GE758.out | refine below_set ?_ GE759.out) | exact HB.out)))); have n3_ := Aside0.mk (Kd.V_lower (Kd.V_mono (ok' := fun k_ => ((P0_0_ k_ ∨ P0_1_ k_) ∨ w.heap.size ≤ k_) ∧ k_ ≠ gb758 ∧ k_ ≠ gb759) ho1 (fun k_ hk_ => ⟨Or.elim hk_ (fun hs_ => Or.elim hs_ (fun hs_ => hs_.1) (fun hs_ => hs_.1)) (fun hn_ => (.inr (Nat.le_trans (below_size (by repeat (first | (with_reducible first | exact HB.out | apply below_alloc | apply pw_below_drewN | apply below_drew1 | refine below_set ?_ GE758.out | refine below_set ?_ GE759.out) | exact HB.out))) hn_))), Or.elim hk_ (fun hs_ => Or.elim hs_ (fun hs_ => hs_.2.1) (fun hs_ => hs_.2.1)) (fun hn_ => (Kd.freshB (g := gb758) (o := .cells #[.slice Ao39 x759000_2.length co39, .slice Ao40 x759001_2.length co40] 25 (0, 0)) (by (with_reducible repeat (first | refine blk_drewN ?_ _ | refine blk_drew ?_ | refine blk_alloc ?_ _)); exact BK758.out) k_ hn_)), Or.elim hk_ (fun hs_ => Or.elim hs_ (fun hs_ => hs_.2.2) (fun hs_ => hs_.2.2)) (fun hn_ => (Kd.freshB (g := gb759) (o := .cells #[.int .i64 a2_0, .int .i64 a2_1, .bool a2_2, .bool a2_3, .int .i64 a2_4, .int .i64 a2_5] 38 (0, 0)) (by (with_reducible repeat (first | refine blk_drewN ?_ _ | refine blk_drew ?_ | refine blk_alloc ?_ _)); exact BK759.out) k_ hn_))⟩)) (below_size (by repeat (first | (with_reducible first | exact HB.out | apply below_alloc | apply pw_below_drewN | apply below_drew1 | refine below_set ?_ GE758.out | refine below_set ?_ GE759.out) | exact HB.out)))); have n4_ := Aside0.mk (blk_below (g := gb758) (o := .cells #[.slice Ao39 x759000_2.length co39, .slice Ao40 x759001_2.length co40] 25 (0, 0)) (by (with_reducible repeat (first | refine blk_drewN ?_ _ | refine blk_drew ?_ | refine blk_alloc ?_ _)); exact BK758.out) hb); have n5_ := Aside0.mk (blk_below (g := gb759) (o := .cells #[.int .i64 a2_0, .int .i64 a2_1, .bool a2_2, .bool a2_3, .int .i64 a2_4, .int .i64 a2_5] 38 (0, 0)) (by (with_reducible repeat (first | refine blk_drewN ?_ _ | refine blk_drew ?_ | refine blk_alloc ?_ _)); exact BK759.out) hb); have n6_ := Aside0.mk (below_step (by repeat (first | (with_reducible first | exact HB.out | apply below_alloc | apply pw_below_drewN | apply below_drew1 | refine below_set ?_ GE758.out | refine below_set ?_ GE759.out) | exact HB.out)) hb); clear HO_759000; clear HO_759001; clear BK758; clear BK759; clear HB; have HO_759000 := n0_; have HO_759001 := n1_; have HO766 := n2_; have HO769 := n3_; have BK758 := n4_; have BK759 := n5_; have HB := n6_; clear n0_ n1_ n2_ n3_ n4_ n5_ n6_; (try clear hb); (try clear hb2); (try clear hk); (try clear hi); (try clear ho0); (try clear ho1)) | ((with_reducible refine gate_dst (N := 11) rfl ?_); (try (refine gate_guard (by rfl) ?_; dsimp only)); refine box_event ?hg (N := 11) ?hd (cs := #[.slice none 0 0, .slice none 0 0]) (t := 25) ?hr ?_; (case hd => rfl); (case hg => rfl); (case hr => first | (go_simp; done) | (go_simp; rfl)); intro gb772 hg w42 hbox hb; have n0_ := Aside0.mk (Kd.V_below (Kd.V_elderB (by (with_reducible repeat (first | apply Kd.V_alloc | apply Kd.V_drewN | apply Kd.V_drew)); exact HO_759000.out) gb772 (Nat.le_of_eq hg.symm)) hb); have n1_ := Aside0.mk (Kd.V_below (Kd.V_elderB (by (with_reducible repeat (first | apply Kd.V_alloc | apply Kd.V_drewN | apply Kd.V_drew)); exact HO_759001.out) gb772 (Nat.le_of_eq hg.symm)) hb); have n2_ := Aside0.mk (Kd.V_below (Kd.V_elderB (by (with_reducible repeat (first | apply Kd.V_alloc | apply Kd.V_drewN | apply Kd.V_drew)); exact HO766.out) gb772 (Nat.le_of_eq hg.symm)) hb); have n3_ := Aside0.mk (Kd.V_below (Kd.V_elderB (by (with_reducible repeat (first | apply Kd.V_alloc | apply Kd.V_drewN | apply Kd.V_drew)); exact HO769.out) gb772 (Nat.le_of_eq hg.symm)) hb); have n4_ := Aside0.mk (blk_below (g := gb758) (o := .cells #[.slice Ao39 x759000_2.length co39, .slice Ao40 x759001_2.length co40] 25 (0, 0)) (by (with_reducible repeat (first | refine blk_drewN ?_ _ | refine blk_drew ?_ | refine blk_alloc ?_ _)); exact BK758.out) hb); have n5_ := Aside0.mk (blk_below (g := gb759) (o := .cells #[.int .i64 a2_0, .int .i64 a2_1, .bool a2_2, .bool a2_3, .int .i64 a2_4, .int .i64 a2_5] 38 (0, 0)) (by (with_reducible repeat (first | refine blk_drewN ?_ _ | refine blk_drew ?_ | refine blk_alloc ?_ _)); exact BK759.out) hb); have n6_ := Aside0.mk (below_step (by repeat (first | (with_reducible first | exact HB.out | apply below_alloc | apply pw_below_drewN | apply below_drew1 | refine below_set ?_ GE758.out | refine below_set ?_ GE759.out) | exact HB.out)) hb); have n7_ := Aside0.mk (hbox); have n8_ := Aside0.mk ((by rw [hg]; exact (below_size (by repeat (first | (with_reducible first | exact HB.out | apply below_alloc | apply pw_below_drewN | apply below_drew1 | refine below_set ?_ GE758.out | refine below_set ?_ GE759.out) | exact HB.out))) : w.heap.size ≤ gb772)); have n9_ := Aside0.mk ((by rw [hg]; exact (below_size (by repeat (first | (with_reducible first | exact HB.out | apply below_alloc | apply pw_below_drewN | apply below_drew1 | refine below_set ?_ GE758.out | refine below_set ?_ GE759.out) | exact HB.out))) : w.heap.size ≤ gb772)); have n10_ := Aside0.mk ((by rw [hg]; exact Nat.ne_of_lt (blk_lt (g := gb758) (o := .cells #[.slice Ao39 x759000_2.length co39, .slice Ao40 x759001_2.length co40] 25 (0, 0)) (by (with_reducible repeat (first | refine blk_drewN ?_ _ | refine blk_drew ?_ | refine blk_alloc ?_ _)); exact BK758.out)) : gb758 ≠ gb772)); have n11_ := Aside0.mk ((by rw [hg]; exact Nat.ne_of_gt (blk_lt (g := gb758) (o := .cells #[.slice Ao39 x759000_2.length co39, .slice Ao40 x759001_2.length co40] 25 (0, 0)) (by (with_reducible repeat (first | refine blk_drewN ?_ _ | refine blk_drew ?_ | refine blk_alloc ?_ _)); exact BK758.out)) : gb772 ≠ gb758)); have n12_ := Aside0.mk ((by rw [hg]; exact Nat.ne_of_lt (blk_lt (g := gb759) (o := .cells #[.int .i64 a2_0, .int .i64 a2_1, .bool a2_2, .bool a2_3, .int .i64 a2_4, .int .i64 a2_5] 38 (0, 0)) (by (with_reducible repeat (first | refine blk_drewN ?_ _ | refine blk_drew ?_ | refine blk_alloc ?_ _)); exact BK759.out)) : gb759 ≠ gb772)); have n13_ := Aside0.mk ((by rw [hg]; exact Nat.ne_of_gt (blk_lt (g := gb759) (o := .cells #[.int .i64 a2_0, .int .i64 a2_1, .bool a2_2, .bool a2_3, .int .i64 a2_4, .int .i64 a2_5] 38 (0, 0)) (by (with_reducible repeat (first | refine blk_drewN ?_ _ | refine blk_drew ?_ | refine blk_alloc ?_ _)); exact BK759.out)) : gb772 ≠ gb759)); clear HO_759000; clear HO_759001; clear HO766; clear HO769; clear BK758; clear BK759; clear HB; have HO_759000 := n0_; have HO_759001 := n1_; have HO766 := n2_; have HO769 := n3_; have BK758 := n4_; have BK759 := n5_; have HB := n6_; have BK772 := n7_; have GW772 := n8_; have GE772 := n9_; have NB758_772 := n10_; have NB772_758 := n11_; have NB759_772 := n12_; have NB772_759 := n13_; clear n0_ n1_ n2_ n3_ n4_ n5_ n6_ n7_ n8_ n9_ n10_ n11_ n12_ n13_; clear hb hbox hg; obtain ⟨Ao43, co43, eo43⟩ := Kd.V_slice HO766.out; subst eo43; have hnb44 := NB772_758.out; have hnc44 := NB758_772.out; have hnb45 := NB772_759.out; have hnc45 := NB759_772.out; have hcz46_0 : w42.cell? ⟨gb772, 0, none⟩ = some (.slice none 0 0) := (blk_cell BK772.out 0).trans rfl; have hcz46_1 : w42.cell? ⟨gb772, 1, none⟩ = some (.slice none 0 0) := (blk_cell BK772.out 1).trans rfl; have hfz46_0 := blk_frozen BK772.out 0; have hfz46_1 := blk_frozen BK772.out 1; obtain ⟨Ao47, co47, eo47⟩ := Kd.V_slice HO769.out; subst eo47; have hcz48_0 : w42.cell? ⟨gb758, 0, none⟩ = some (.slice Ao39 x759000_2.length co39) := (blk_cell BK758.out 0).trans rfl; have hcz48_1 : w42.cell? ⟨gb758, 1, none⟩ = some (.slice Ao40 x759001_2.length co40) := (blk_cell BK758.out 1).trans rfl; have hfz48_0 := blk_frozen BK758.out 0; have hfz48_1 := blk_frozen BK758.out 1) | ((with_reducible refine gate_callee (f := 20) rfl ?_); refine goesL_ (some 68) rfl rfl Try.func20 (by kernel_rfl) rfl #[.agg #[.slice Ao39 x759000_2.length co39, .slice Ao40 x759001_2.length co40], .int .i64 (Int.tmod (wrap64 (a1)) (l0_1.length : Int)), .int .i64 t770] rfl (by (try simp only [List.map_toArray, List.map_cons, List.map_nil]); first | done | rfl | (simp only [List.length_drop, List.length_take]; rfl)) ?_; (with_reducible refine (handle_Get.calls _ _ x759000_2 _ _ x759001_2 (Int.tmod (wrap64 (a1)) (l0_1.length : Int)) t770 t773 t774 t775 t776 t777 t778 t779 t780 _ ?side1 ?side2 ?side3 ?side4 A34.out).mono ?_); (case side1 => refine (Kd.V_reads' (e := 38) (base := w.heap.size) (ok := fun k_ => ((((P0_0_ k_ ∨ P0_1_ k_) ∨ w.heap.size ≤ k_) ∧ (k_ ≠ gb758 ∧ k_ ≠ gb759)) ∧ k_ ≠ gb772)) (n := x759000_2.length) (c := co39) ?_).2.2; exact (by (with_reducible repeat (first | apply Kd.V_alloc | apply Kd.V_drewN | apply Kd.V_drew)); exact (Kd.V_mono (Kd.V_far (p := ⟨gb772, 1, none⟩) (Kd.V_far (p := ⟨gb772, 0, none⟩) (Kd.V_mono HO_759000.out (fun k_ hk => (⟨hk, hk.2⟩ : _ ∧ k_ ≠ gb772))) (fun _ hk => hk.2) (.slice Ao43 t764.length co43)) (fun _ hk => hk.2) (.slice Ao47 t767.length co47)) (fun _ h_ => h_.1)))); (case side2 => exact (Kd.V_reads' HO_759000.out).2.1); (case side3 => refine (Kd.V_reads' (e := 64) (base := w.heap.size) (ok := fun k_ => ((((P0_0_ k_ ∨ P0_1_ k_) ∨ w.heap.size ≤ k_) ∧ (k_ ≠ gb758 ∧ k_ ≠ gb759)) ∧ k_ ≠ gb772)) (n := x759001_2.length) (c := co40) ?_).2.2; exact (by (with_reducible repeat (first | apply Kd.V_alloc | apply Kd.V_drewN | apply Kd.V_drew)); exact (Kd.V_mono (Kd.V_far (p := ⟨gb772, 1, none⟩) (Kd.V_far (p := ⟨gb772, 0, none⟩) (Kd.V_mono HO_759001.out (fun k_ hk => (⟨hk, hk.2⟩ : _ ∧ k_ ≠ gb772))) (fun _ hk => hk.2) (.slice Ao43 t764.length co43)) (fun _ hk => hk.2) (.slice Ao47 t767.length co47)) (fun _ h_ => h_.1)))); (case side4 => exact (Kd.V_reads' HO_759001.out).2.1); rintro e w49 ⟨rfl, hb⟩; refine ⟨_, rfl, ?_⟩; have n0_ := Aside0.mk (Kd.V_below (by (with_reducible repeat (first | apply Kd.V_alloc | apply Kd.V_drewN | apply Kd.V_drew)); exact (Kd.V_mono (Kd.V_far (p := ⟨gb772, 1, none⟩) (Kd.V_far (p := ⟨gb772, 0, none⟩) (Kd.V_mono HO_759000.out (fun k_ hk => (⟨hk, hk.2⟩ : _ ∧ k_ ≠ gb772))) (fun _ hk => hk.2) (.slice Ao43 t764.length co43)) (fun _ hk => hk.2) (.slice Ao47 t767.length co47)) (fun _ h_ => h_.1))) hb); have n1_ := Aside0.mk (Kd.V_below (by (with_reducible repeat (first | apply Kd.V_alloc | apply Kd.V_drewN | apply Kd.V_drew)); exact (Kd.V_mono (Kd.V_far (p := ⟨gb772, 1, none⟩) (Kd.V_far (p := ⟨gb772, 0, none⟩) (Kd.V_mono HO_759001.out (fun k_ hk => (⟨hk, hk.2⟩ : _ ∧ k_ ≠ gb772))) (fun _ hk => hk.2) (.slice Ao43 t764.length co43)) (fun _ hk => hk.2) (.slice Ao47 t767.length co47)) (fun _ h_ => h_.1))) hb); have n2_ := Aside0.mk (Kd.V_below (by (with_reducible repeat (first | apply Kd.V_alloc | apply Kd.V_drewN | apply Kd.V_drew)); exact (Kd.V_mono (Kd.V_far (p := ⟨gb772, 1, none⟩) (Kd.V_far (p := ⟨gb772, 0, none⟩) (Kd.V_mono HO766.out (fun k_ hk => (⟨hk, hk.2⟩ : _ ∧ k_ ≠ gb772))) (fun _ hk => hk.2) (.slice Ao43 t764.length co43)) (fun _ hk => hk.2) (.slice Ao47 t767.length co47)) (fun _ h_ => h_.1))) hb); have n3_ := Aside0.mk (Kd.V_below (by (with_reducible repeat (first | apply Kd.V_alloc | apply Kd.V_drewN | apply Kd.V_drew)); exact (Kd.V_mono (Kd.V_far (p := ⟨gb772, 1, none⟩) (Kd.V_far (p := ⟨gb772, 0, none⟩) (Kd.V_mono HO769.out (fun k_ hk => (⟨hk, hk.2⟩ : _ ∧ k_ ≠ gb772))) (fun _ hk => hk.2) (.slice Ao43 t764.length co43)) (fun _ hk => hk.2) (.slice Ao47 t767.length co47)) (fun _ h_ => h_.1))) hb); have n4_ := Aside0.mk (blk_below (g := gb758) (o := .cells #[.slice Ao39 x759000_2.length co39, .slice Ao40 x759001_2.length co40] 25 (0, 0)) (by (with_reducible repeat (first | refine blk_drewN ?_ _ | refine blk_drew ?_ | refine blk_alloc ?_ _)); refine blk_far ?_ NB758_772.out _; (with_reducible repeat (first | refine blk_drewN ?_ _ | refine blk_drew ?_ | refine blk_alloc ?_ _)); refine blk_far ?_ NB758_772.out _; (with_reducible repeat (first | refine blk_drewN ?_ _ | refine blk_drew ?_ | refine blk_alloc ?_ _)); exact BK758.out) hb); have n5_ := Aside0.mk (blk_below (g := gb759) (o := .cells #[.int .i64 a2_0, .int .i64 a2_1, .bool a2_2, .bool a2_3, .int .i64 a2_4, .int .i64 a2_5] 38 (0, 0)) (by (with_reducible repeat (first | refine blk_drewN ?_ _ | refine blk_drew ?_ | refine blk_alloc ?_ _)); refine blk_far ?_ NB759_772.out _; (with_reducible repeat (first | refine blk_drewN ?_ _ | refine blk_drew ?_ | refine blk_alloc ?_ _)); refine blk_far ?_ NB759_772.out _; (with_reducible repeat (first | refine blk_drewN ?_ _ | refine blk_drew ?_ | refine blk_alloc ?_ _)); exact BK759.out) hb); have n6_ := Aside0.mk (blk_below (g := gb772) (o := .cells #[.slice Ao43 t764.length co43, .slice Ao47 t767.length co47] 25 (0, 0)) (by (with_reducible repeat (first | refine blk_drewN ?_ _ | refine blk_drew ?_ | refine blk_alloc ?_ _)); refine blk_put (cs := #[.slice Ao43 t764.length co43, .slice none 0 0]) ?_ 1 _ rfl; (with_reducible repeat (first | refine blk_drewN ?_ _ | refine blk_drew ?_ | refine blk_alloc ?_ _)); refine blk_put (cs := #[.slice none 0 0, .slice none 0 0]) ?_ 0 _ rfl; (with_reducible repeat (first | refine blk_drewN ?_ _ | refine blk_drew ?_ | refine blk_alloc ?_ _)); exact BK772.out) hb); have n7_ := Aside0.mk (below_step (by repeat (first | (with_reducible first | exact HB.out | apply below_alloc | apply pw_below_drewN | apply below_drew1 | refine below_set ?_ GE758.out | refine below_set ?_ GE759.out | refine below_set ?_ GE772.out) | exact HB.out)) hb); clear HO_759000; clear HO_759001; clear HO766; clear HO769; clear BK758; clear BK759; clear BK772; clear HB; have HO_759000 := n0_; have HO_759001 := n1_; have HO766 := n2_; have HO769 := n3_; have BK758 := n4_; have BK759 := n5_; have BK772 := n6_; have HB := n7_; clear n0_ n1_ n2_ n3_ n4_ n5_ n6_ n7_; (try clear hb); (try clear hb2); (try clear hk); (try clear hi)) | ((with_reducible refine gate_dst (N := 15) rfl ?_); (try (refine gate_guard (by rfl) ?_; dsimp only)); refine box_event ?hg (N := 15) ?hd (cs := #[.int .i64 0, .int .i64 0, .bool false, .bool false, .int .i64 0, .int .i64 0]) (t := 38) ?hr ?_; (case hd => rfl); (case hg => rfl); (case hr => first | (go_simp; done) | (go_simp; rfl)); intro gb781 hg w50 hbox hb; have n0_ := Aside0.mk (Kd.V_below (Kd.V_elderB (by (with_reducible repeat (first | apply Kd.V_alloc | apply Kd.V_drewN | apply Kd.V_drew)); exact HO_759000.out) gb781 (Nat.le_of_eq hg.symm)) hb); have n1_ := Aside0.mk (Kd.V_below (Kd.V_elderB (by (with_reducible repeat (first | apply Kd.V_alloc | apply Kd.V_drewN | apply Kd.V_drew)); exact HO_759001.out) gb781 (Nat.le_of_eq hg.symm)) hb); have n2_ := Aside0.mk (Kd.V_below (Kd.V_elderB (by (with_reducible repeat (first | apply Kd.V_alloc | apply Kd.V_drewN | apply Kd.V_drew)); exact HO766.out) gb781 (Nat.le_of_eq hg.symm)) hb); have n3_ := Aside0.mk (Kd.V_below (Kd.V_elderB (by (with_reducible repeat (first | apply Kd.V_alloc | apply Kd.V_drewN | apply Kd.V_drew)); exact HO769.out) gb781 (Nat.le_of_eq hg.symm)) hb); have n4_ := Aside0.mk (blk_below (g := gb758) (o := .cells #[.slice Ao39 x759000_2.length co39, .slice Ao40 x759001_2.length co40] 25 (0, 0)) (by (with_reducible repeat (first | refine blk_drewN ?_ _ | refine blk_drew ?_ | refine blk_alloc ?_ _)); exact BK758.out) hb); have n5_ := Aside0.mk (blk_below (g := gb759) (o := .cells #[.int .i64 a2_0, .int .i64 a2_1, .bool a2_2, .bool a2_3, .int .i64 a2_4, .int .i64 a2_5] 38 (0, 0)) (by (with_reducible repeat (first | refine blk_drewN ?_ _ | refine blk_drew ?_ | refine blk_alloc ?_ _)); exact BK759.out) hb); have n6_ := Aside0.mk (blk_below (g := gb772) (o := .cells #[.slice Ao43 t764.length co43, .slice Ao47 t767.length co47] 25 (0, 0)) (by (with_reducible repeat (first | refine blk_drewN ?_ _ | refine blk_drew ?_ | refine blk_alloc ?_ _)); exact BK772.out) hb); have n7_ := Aside0.mk (below_step (by repeat (first | (with_reducible first | exact HB.out | apply below_alloc | apply pw_below_drewN | apply below_drew1 | refine below_set ?_ GE758.out | refine below_set ?_ GE759.out | refine below_set ?_ GE772.out) | exact HB.out)) hb); have n8_ := Aside0.mk (hbox); have n9_ := Aside0.mk ((by rw [hg]; exact (below_size (by repeat (first | (with_reducible first | exact HB.out | apply below_alloc | apply pw_below_drewN | apply below_drew1 | refine below_set ?_ GE758.out | refine below_set ?_ GE759.out | refine below_set ?_ GE772.out) | exact HB.out))) : w.heap.size ≤ gb781)); have n10_ := Aside0.mk ((by rw [hg]; exact (below_size (by repeat (first | (with_reducible first | exact HB.out | apply below_alloc | apply pw_below_drewN | apply below_drew1 | refine below_set ?_ GE758.out | refine below_set ?_ GE759.out | refine below_set ?_ GE772.out) | exact HB.out))) : w.heap.size ≤ gb781)); have n11_ := Aside0.mk ((by rw [hg]; exact Nat.ne_of_lt (blk_lt (g := gb758) (o := .cells #[.slice Ao39 x759000_2.length co39, .slice Ao40 x759001_2.length co40] 25 (0, 0)) (by (with_reducible repeat (first | refine blk_drewN ?_ _ | refine blk_drew ?_ | refine blk_alloc ?_ _)); exact BK758.out)) : gb758 ≠ gb781)); have n12_ := Aside0.mk ((by rw [hg]; exact Nat.ne_of_gt (blk_lt (g := gb758) (o := .cells #[.slice Ao39 x759000_2.length co39, .slice Ao40 x759001_2.length co40] 25 (0, 0)) (by (with_reducible repeat (first | refine blk_drewN ?_ _ | refine blk_drew ?_ | refine blk_alloc ?_ _)); exact BK758.out)) : gb781 ≠ gb758)); have n13_ := Aside0.mk ((by rw [hg]; exact Nat.ne_of_lt (blk_lt (g := gb759) (o := .cells #[.int .i64 a2_0, .int .i64 a2_1, .bool a2_2, .bool a2_3, .int .i64 a2_4, .int .i64 a2_5] 38 (0, 0)) (by (with_reducible repeat (first | refine blk_drewN ?_ _ | refine blk_drew ?_ | refine blk_alloc ?_ _)); exact BK759.out)) : gb759 ≠ gb781)); have n14_ := Aside0.mk ((by rw [hg]; exact Nat.ne_of_gt (blk_lt (g := gb759) (o := .cells #[.int .i64 a2_0, .int .i64 a2_1, .bool a2_2, .bool a2_3, .int .i64 a2_4, .int .i64 a2_5] 38 (0, 0)) (by (with_reducible repeat (first | refine blk_drewN ?_ _ | refine blk_drew ?_ | refine blk_alloc ?_ _)); exact BK759.out)) : gb781 ≠ gb759)); have n15_ := Aside0.mk ((by rw [hg]; exact Nat.ne_of_lt (blk_lt (g := gb772) (o := .cells #[.slice Ao43 t764.length co43, .slice Ao47 t767.length co47] 25 (0, 0)) (by (with_reducible repeat (first | refine blk_drewN ?_ _ | refine blk_drew ?_ | refine blk_alloc ?_ _)); exact BK772.out)) : gb772 ≠ gb781)); have n16_ := Aside0.mk ((by rw [hg]; exact Nat.ne_of_gt (blk_lt (g := gb772) (o := .cells #[.slice Ao43 t764.length co43, .slice Ao47 t767.length co47] 25 (0, 0)) (by (with_reducible repeat (first | refine blk_drewN ?_ _ | refine blk_drew ?_ | refine blk_alloc ?_ _)); exact BK772.out)) : gb781 ≠ gb772)); clear HO_759000; clear HO_759001; clear HO766; clear HO769; clear BK758; clear BK759; clear BK772; clear HB; have HO_759000 := n0_; have HO_759001 := n1_; have HO766 := n2_; have HO769 := n3_; have BK758 := n4_; have BK759 := n5_; have BK772 := n6_; have HB := n7_; have BK781 := n8_; have GW781 := n9_; have GE781 := n10_; have NB758_781 := n11_; have NB781_758 := n12_; have NB759_781 := n13_; have NB781_759 := n14_; have NB772_781 := n15_; have NB781_772 := n16_; clear n0_ n1_ n2_ n3_ n4_ n5_ n6_ n7_ n8_ n9_ n10_ n11_ n12_ n13_ n14_ n15_ n16_; clear hb hbox hg; have hnb51 := NB781_758.out; have hnc51 := NB758_781.out; have hnb52 := NB781_759.out; have hnc52 := NB759_781.out; have hnb53 := NB781_772.out; have hnc53 := NB772_781.out; have hcz54_0 : w50.cell? ⟨gb781, 0, none⟩ = some (.int .i64 0) := (blk_cell BK781.out 0).trans rfl; have hcz54_1 : w50.cell? ⟨gb781, 1, none⟩ = some (.int .i64 0) := (blk_cell BK781.out 1).trans rfl; have hcz54_2 : w50.cell? ⟨gb781, 2, none⟩ = some (.bool false) := (blk_cell BK781.out 2).trans rfl; have hcz54_3 : w50.cell? ⟨gb781, 3, none⟩ = some (.bool false) := (blk_cell BK781.out 3).trans rfl; have hcz54_4 : w50.cell? ⟨gb781, 4, none⟩ = some (.int .i64 0) := (blk_cell BK781.out 4).trans rfl; have hcz54_5 : w50.cell? ⟨gb781, 5, none⟩ = some (.int .i64 0) := (blk_cell BK781.out 5).trans rfl; have hfz54_0 := blk_frozen BK781.out 0; have hfz54_1 := blk_frozen BK781.out 1; have hfz54_2 := blk_frozen BK781.out 2; have hfz54_3 := blk_frozen BK781.out 3; have hfz54_4 := blk_frozen BK781.out 4; have hfz54_5 := blk_frozen BK781.out 5))
                  (try simp only [Act.put, List.setIfInBounds_toArray, List.set_cons_zero, List.set_cons_succ])
                  go_cut [85] (fun v85 wc => ∃ (kq : Nat) (x85_34 : Bool), v85 = .bool x85_34 ∧ Aside0 (flagstonelaw10_HandleFull.j2 kq (Int.tmod (wrap64 (a1)) (l0_1.length : Int)) x8_2 x10_2 t770 x85_34 x759000_2 x759001_2 a2_0 a2_1 a2_2 a2_3 a2_4 a2_5 t764 t767 = some r) ∧ Aside0 (kq ≤ k2) ∧ Aside0 (Kd.V k38 38 wc w.heap.size (fun k_ => ((P0_0_ k_ ∨ P0_1_ k_) ∨ w.heap.size ≤ k_) ∧ k_ ≠ gb758 ∧ k_ ≠ gb759 ∧ k_ ≠ gb772 ∧ k_ ≠ gb781) (.slice Ao39 x759000_2.length co39) x759000_2) ∧ Aside0 (Kd.V (Kd.slice 3 (Kd.int .i64)) 64 wc w.heap.size (fun k_ => ((P0_0_ k_ ∨ P0_1_ k_) ∨ w.heap.size ≤ k_) ∧ k_ ≠ gb758 ∧ k_ ≠ gb759 ∧ k_ ≠ gb772 ∧ k_ ≠ gb781) (.slice Ao40 x759001_2.length co40) x759001_2) ∧ Aside0 (Kd.V k38 38 wc w.heap.size (fun k_ => ((P0_0_ k_ ∨ P0_1_ k_) ∨ w.heap.size ≤ k_) ∧ k_ ≠ gb758 ∧ k_ ≠ gb759 ∧ k_ ≠ gb772 ∧ k_ ≠ gb781) (.slice Ao43 t764.length co43) t764) ∧ Aside0 (Kd.V (Kd.slice 3 (Kd.int .i64)) 64 wc w.heap.size (fun k_ => ((P0_0_ k_ ∨ P0_1_ k_) ∨ w.heap.size ≤ k_) ∧ k_ ≠ gb758 ∧ k_ ≠ gb759 ∧ k_ ≠ gb772 ∧ k_ ≠ gb781) (.slice Ao47 t767.length co47) t767) ∧ Aside0 (wc.heap[gb758]? = some (.cells #[(.slice Ao39 x759000_2.length co39), (.slice Ao40 x759001_2.length co40)] 25 (0, 0))) ∧ Aside0 (wc.heap[gb759]? = some (.cells #[.int .i64 a2_0, .int .i64 a2_1, .bool a2_2, .bool a2_3, .int .i64 a2_4, .int .i64 a2_5] 38 (0, 0))) ∧ Aside0 (wc.heap[gb772]? = some (.cells #[(.slice Ao43 t764.length co43), (.slice Ao47 t767.length co47)] 25 (0, 0))) ∧ Aside0 (wc.heap[gb781]? = some (.cells #[.int .i64 t774, .int .i64 t775, .bool t776, .bool t777, .int .i64 t778, .int .i64 t779] 38 (0, 0))) ∧ Aside0 (Below w.heap.size w wc))
                  case first =>
                    have H := HC35.out
                    clear HC35
                    by_cases c55 : t780 = true
                    · subst c55
                      have H1 : (flagstonelaw10_HandleFull.j2 k2 (Int.tmod (wrap64 (a1)) (l0_1.length : Int)) x8_2 x10_2 t770 true x759000_2 x759001_2 a2_0 a2_1 a2_2 a2_3 a2_4 a2_5 t764 t767) = some r := by rw [if_pos rfl] at H; exact H
                      clear H
                      have H := H1
                      clear H1
                      have H' := Aside0.mk H
                      clear H
                      go_wp2
                      go_meet
                      case rel => exact ⟨_, (true), (by first | rfl | (simp; done) | (simp [*]; done)), H', ⟨by have := HJ3.out; have := HK2.out; first | omega | exact Nat.le_refl _⟩, ⟨by (with_reducible repeat (first | apply Kd.V_alloc | apply Kd.V_drewN | apply Kd.V_drew)); exact Kd.V_mono (Kd.V_far (p := ⟨gb781, 5, none⟩) (Kd.V_far (p := ⟨gb781, 4, none⟩) (Kd.V_far (p := ⟨gb781, 3, none⟩) (Kd.V_far (p := ⟨gb781, 2, none⟩) (Kd.V_far (p := ⟨gb781, 1, none⟩) (Kd.V_far (p := ⟨gb781, 0, none⟩) (Kd.V_mono HO_759000.out (fun k_ hk => (⟨hk, hk.2⟩ : _ ∧ k_ ≠ gb781))) (fun _ hk => hk.2) (.int .i64 t774)) (fun _ hk => hk.2) (.int .i64 t775)) (fun _ hk => hk.2) (.bool t776)) (fun _ hk => hk.2) (.bool t777)) (fun _ hk => hk.2) (.int .i64 t778)) (fun _ hk => hk.2) (.int .i64 t779)) (fun _ hk => ⟨hk.1.1.1.1, ⟨hk.1.1.1.2.1, ⟨hk.1.1.1.2.2, ⟨hk.1.1.2, hk.1.2⟩⟩⟩⟩)⟩, ⟨by (with_reducible repeat (first | apply Kd.V_alloc | apply Kd.V_drewN | apply Kd.V_drew)); exact Kd.V_mono (Kd.V_far (p := ⟨gb781, 5, none⟩) (Kd.V_far (p := ⟨gb781, 4, none⟩) (Kd.V_far (p := ⟨gb781, 3, none⟩) (Kd.V_far (p := ⟨gb781, 2, none⟩) (Kd.V_far (p := ⟨gb781, 1, none⟩) (Kd.V_far (p := ⟨gb781, 0, none⟩) (Kd.V_mono HO_759001.out (fun k_ hk => (⟨hk, hk.2⟩ : _ ∧ k_ ≠ gb781))) (fun _ hk => hk.2) (.int .i64 t774)) (fun _ hk => hk.2) (.int .i64 t775)) (fun _ hk => hk.2) (.bool t776)) (fun _ hk => hk.2) (.bool t777)) (fun _ hk => hk.2) (.int .i64 t778)) (fun _ hk => hk.2) (.int .i64 t779)) (fun _ hk => ⟨hk.1.1.1.1, ⟨hk.1.1.1.2.1, ⟨hk.1.1.1.2.2, ⟨hk.1.1.2, hk.1.2⟩⟩⟩⟩)⟩, ⟨by (with_reducible repeat (first | apply Kd.V_alloc | apply Kd.V_drewN | apply Kd.V_drew)); exact Kd.V_mono (Kd.V_far (p := ⟨gb781, 5, none⟩) (Kd.V_far (p := ⟨gb781, 4, none⟩) (Kd.V_far (p := ⟨gb781, 3, none⟩) (Kd.V_far (p := ⟨gb781, 2, none⟩) (Kd.V_far (p := ⟨gb781, 1, none⟩) (Kd.V_far (p := ⟨gb781, 0, none⟩) (Kd.V_mono HO766.out (fun k_ hk => (⟨hk, hk.2⟩ : _ ∧ k_ ≠ gb781))) (fun _ hk => hk.2) (.int .i64 t774)) (fun _ hk => hk.2) (.int .i64 t775)) (fun _ hk => hk.2) (.bool t776)) (fun _ hk => hk.2) (.bool t777)) (fun _ hk => hk.2) (.int .i64 t778)) (fun _ hk => hk.2) (.int .i64 t779)) (fun _ hk => ⟨hk.1.1.1.1, ⟨hk.1.1.1.2.1, ⟨hk.1.1.1.2.2, ⟨hk.1.1.2, hk.1.2⟩⟩⟩⟩)⟩, ⟨by (with_reducible repeat (first | apply Kd.V_alloc | apply Kd.V_drewN | apply Kd.V_drew)); exact Kd.V_mono (Kd.V_far (p := ⟨gb781, 5, none⟩) (Kd.V_far (p := ⟨gb781, 4, none⟩) (Kd.V_far (p := ⟨gb781, 3, none⟩) (Kd.V_far (p := ⟨gb781, 2, none⟩) (Kd.V_far (p := ⟨gb781, 1, none⟩) (Kd.V_far (p := ⟨gb781, 0, none⟩) (Kd.V_mono HO769.out (fun k_ hk => (⟨hk, hk.2⟩ : _ ∧ k_ ≠ gb781))) (fun _ hk => hk.2) (.int .i64 t774)) (fun _ hk => hk.2) (.int .i64 t775)) (fun _ hk => hk.2) (.bool t776)) (fun _ hk => hk.2) (.bool t777)) (fun _ hk => hk.2) (.int .i64 t778)) (fun _ hk => hk.2) (.int .i64 t779)) (fun _ hk => ⟨hk.1.1.1.1, ⟨hk.1.1.1.2.1, ⟨hk.1.1.1.2.2, ⟨hk.1.1.2, hk.1.2⟩⟩⟩⟩)⟩, ⟨by (with_reducible repeat (first | refine blk_drewN ?_ _ | refine blk_drew ?_ | refine blk_alloc ?_ _)); refine blk_far ?_ NB758_781.out _; (with_reducible repeat (first | refine blk_drewN ?_ _ | refine blk_drew ?_ | refine blk_alloc ?_ _)); refine blk_far ?_ NB758_781.out _; (with_reducible repeat (first | refine blk_drewN ?_ _ | refine blk_drew ?_ | refine blk_alloc ?_ _)); refine blk_far ?_ NB758_781.out _; (with_reducible repeat (first | refine blk_drewN ?_ _ | refine blk_drew ?_ | refine blk_alloc ?_ _)); refine blk_far ?_ NB758_781.out _; (with_reducible repeat (first | refine blk_drewN ?_ _ | refine blk_drew ?_ | refine blk_alloc ?_ _)); refine blk_far ?_ NB758_781.out _; (with_reducible repeat (first | refine blk_drewN ?_ _ | refine blk_drew ?_ | refine blk_alloc ?_ _)); refine blk_far ?_ NB758_781.out _; (with_reducible repeat (first | refine blk_drewN ?_ _ | refine blk_drew ?_ | refine blk_alloc ?_ _)); exact BK758.out⟩, ⟨by (with_reducible repeat (first | refine blk_drewN ?_ _ | refine blk_drew ?_ | refine blk_alloc ?_ _)); refine blk_far ?_ NB759_781.out _; (with_reducible repeat (first | refine blk_drewN ?_ _ | refine blk_drew ?_ | refine blk_alloc ?_ _)); refine blk_far ?_ NB759_781.out _; (with_reducible repeat (first | refine blk_drewN ?_ _ | refine blk_drew ?_ | refine blk_alloc ?_ _)); refine blk_far ?_ NB759_781.out _; (with_reducible repeat (first | refine blk_drewN ?_ _ | refine blk_drew ?_ | refine blk_alloc ?_ _)); refine blk_far ?_ NB759_781.out _; (with_reducible repeat (first | refine blk_drewN ?_ _ | refine blk_drew ?_ | refine blk_alloc ?_ _)); refine blk_far ?_ NB759_781.out _; (with_reducible repeat (first | refine blk_drewN ?_ _ | refine blk_drew ?_ | refine blk_alloc ?_ _)); refine blk_far ?_ NB759_781.out _; (with_reducible repeat (first | refine blk_drewN ?_ _ | refine blk_drew ?_ | refine blk_alloc ?_ _)); exact BK759.out⟩, ⟨by (with_reducible repeat (first | refine blk_drewN ?_ _ | refine blk_drew ?_ | refine blk_alloc ?_ _)); refine blk_far ?_ NB772_781.out _; (with_reducible repeat (first | refine blk_drewN ?_ _ | refine blk_drew ?_ | refine blk_alloc ?_ _)); refine blk_far ?_ NB772_781.out _; (with_reducible repeat (first | refine blk_drewN ?_ _ | refine blk_drew ?_ | refine blk_alloc ?_ _)); refine blk_far ?_ NB772_781.out _; (with_reducible repeat (first | refine blk_drewN ?_ _ | refine blk_drew ?_ | refine blk_alloc ?_ _)); refine blk_far ?_ NB772_781.out _; (with_reducible repeat (first | refine blk_drewN ?_ _ | refine blk_drew ?_ | refine blk_alloc ?_ _)); refine blk_far ?_ NB772_781.out _; (with_reducible repeat (first | refine blk_drewN ?_ _ | refine blk_drew ?_ | refine blk_alloc ?_ _)); refine blk_far ?_ NB772_781.out _; (with_reducible repeat (first | refine blk_drewN ?_ _ | refine blk_drew ?_ | refine blk_alloc ?_ _)); exact BK772.out⟩, ⟨by (with_reducible repeat (first | refine blk_drewN ?_ _ | refine blk_drew ?_ | refine blk_alloc ?_ _)); refine blk_put (cs := #[.int .i64 t774, .int .i64 t775, .bool t776, .bool t777, .int .i64 t778, .int .i64 0]) ?_ 5 _ rfl; (with_reducible repeat (first | refine blk_drewN ?_ _ | refine blk_drew ?_ | refine blk_alloc ?_ _)); refine blk_put (cs := #[.int .i64 t774, .int .i64 t775, .bool t776, .bool t777, .int .i64 0, .int .i64 0]) ?_ 4 _ rfl; (with_reducible repeat (first | refine blk_drewN ?_ _ | refine blk_drew ?_ | refine blk_alloc ?_ _)); refine blk_put (cs := #[.int .i64 t774, .int .i64 t775, .bool t776, .bool false, .int .i64 0, .int .i64 0]) ?_ 3 _ rfl; (with_reducible repeat (first | refine blk_drewN ?_ _ | refine blk_drew ?_ | refine blk_alloc ?_ _)); refine blk_put (cs := #[.int .i64 t774, .int .i64 t775, .bool false, .bool false, .int .i64 0, .int .i64 0]) ?_ 2 _ rfl; (with_reducible repeat (first | refine blk_drewN ?_ _ | refine blk_drew ?_ | refine blk_alloc ?_ _)); refine blk_put (cs := #[.int .i64 t774, .int .i64 0, .bool false, .bool false, .int .i64 0, .int .i64 0]) ?_ 1 _ rfl; (with_reducible repeat (first | refine blk_drewN ?_ _ | refine blk_drew ?_ | refine blk_alloc ?_ _)); refine blk_put (cs := #[.int .i64 0, .int .i64 0, .bool false, .bool false, .int .i64 0, .int .i64 0]) ?_ 0 _ rfl; (with_reducible repeat (first | refine blk_drewN ?_ _ | refine blk_drew ?_ | refine blk_alloc ?_ _)); exact BK781.out⟩, ⟨by repeat (first | (with_reducible first | exact HB.out | apply below_alloc | apply pw_below_drewN | apply below_drew1 | refine below_set ?_ GE758.out | refine below_set ?_ GE759.out | refine below_set ?_ GE772.out | refine below_set ?_ GE781.out) | exact HB.out)⟩⟩
                    · replace c55 := Bool.eq_false_iff.mpr c55
                      subst c55
                      have H1 : (if t770 ≤ x9_2 then (flagstonelaw10_HandleFull.j2 k2 (Int.tmod (wrap64 (a1)) (l0_1.length : Int)) x8_2 x10_2 t770 true x759000_2 x759001_2 a2_0 a2_1 a2_2 a2_3 a2_4 a2_5 t764 t767) else (if t770 > 7 then (flagstonelaw10_HandleFull.j2 k2 (Int.tmod (wrap64 (a1)) (l0_1.length : Int)) x8_2 x10_2 t770 true x759000_2 x759001_2 a2_0 a2_1 a2_2 a2_3 a2_4 a2_5 t764 t767) else (flagstonelaw10_HandleFull.j2 k2 (Int.tmod (wrap64 (a1)) (l0_1.length : Int)) x8_2 x10_2 t770 (decide (x8_2 ≥ 8)) x759000_2 x759001_2 a2_0 a2_1 a2_2 a2_3 a2_4 a2_5 t764 t767))) = some r := by rw [if_neg (show ¬ (false = true) by decide)] at H; exact H
                      clear H
                      have H := H1
                      clear H1
                      by_cases c56 : t770 ≤ x9_2
                      · rw [if_pos c56] at H
                        have c56b0 : decide (t770 ≤ x9_2) = true := decide_eq_true c56
                        clear c56
                        (first | rw [c56b0] | (simp only [i64_w, i32_w]; rw [c56b0]) | skip)
                        have H' := Aside0.mk H
                        clear H
                        go_wp2
                        go_meet
                        case rel => exact ⟨_, (true), (by first | rfl | (simp; done) | (simp [*]; done)), H', ⟨by have := HJ3.out; have := HK2.out; first | omega | exact Nat.le_refl _⟩, ⟨by (with_reducible repeat (first | apply Kd.V_alloc | apply Kd.V_drewN | apply Kd.V_drew)); exact Kd.V_mono (Kd.V_far (p := ⟨gb781, 5, none⟩) (Kd.V_far (p := ⟨gb781, 4, none⟩) (Kd.V_far (p := ⟨gb781, 3, none⟩) (Kd.V_far (p := ⟨gb781, 2, none⟩) (Kd.V_far (p := ⟨gb781, 1, none⟩) (Kd.V_far (p := ⟨gb781, 0, none⟩) (Kd.V_mono HO_759000.out (fun k_ hk => (⟨hk, hk.2⟩ : _ ∧ k_ ≠ gb781))) (fun _ hk => hk.2) (.int .i64 t774)) (fun _ hk => hk.2) (.int .i64 t775)) (fun _ hk => hk.2) (.bool t776)) (fun _ hk => hk.2) (.bool t777)) (fun _ hk => hk.2) (.int .i64 t778)) (fun _ hk => hk.2) (.int .i64 t779)) (fun _ hk => ⟨hk.1.1.1.1, ⟨hk.1.1.1.2.1, ⟨hk.1.1.1.2.2, ⟨hk.1.1.2, hk.1.2⟩⟩⟩⟩)⟩, ⟨by (with_reducible repeat (first | apply Kd.V_alloc | apply Kd.V_drewN | apply Kd.V_drew)); exact Kd.V_mono (Kd.V_far (p := ⟨gb781, 5, none⟩) (Kd.V_far (p := ⟨gb781, 4, none⟩) (Kd.V_far (p := ⟨gb781, 3, none⟩) (Kd.V_far (p := ⟨gb781, 2, none⟩) (Kd.V_far (p := ⟨gb781, 1, none⟩) (Kd.V_far (p := ⟨gb781, 0, none⟩) (Kd.V_mono HO_759001.out (fun k_ hk => (⟨hk, hk.2⟩ : _ ∧ k_ ≠ gb781))) (fun _ hk => hk.2) (.int .i64 t774)) (fun _ hk => hk.2) (.int .i64 t775)) (fun _ hk => hk.2) (.bool t776)) (fun _ hk => hk.2) (.bool t777)) (fun _ hk => hk.2) (.int .i64 t778)) (fun _ hk => hk.2) (.int .i64 t779)) (fun _ hk => ⟨hk.1.1.1.1, ⟨hk.1.1.1.2.1, ⟨hk.1.1.1.2.2, ⟨hk.1.1.2, hk.1.2⟩⟩⟩⟩)⟩, ⟨by (with_reducible repeat (first | apply Kd.V_alloc | apply Kd.V_drewN | apply Kd.V_drew)); exact Kd.V_mono (Kd.V_far (p := ⟨gb781, 5, none⟩) (Kd.V_far (p := ⟨gb781, 4, none⟩) (Kd.V_far (p := ⟨gb781, 3, none⟩) (Kd.V_far (p := ⟨gb781, 2, none⟩) (Kd.V_far (p := ⟨gb781, 1, none⟩) (Kd.V_far (p := ⟨gb781, 0, none⟩) (Kd.V_mono HO766.out (fun k_ hk => (⟨hk, hk.2⟩ : _ ∧ k_ ≠ gb781))) (fun _ hk => hk.2) (.int .i64 t774)) (fun _ hk => hk.2) (.int .i64 t775)) (fun _ hk => hk.2) (.bool t776)) (fun _ hk => hk.2) (.bool t777)) (fun _ hk => hk.2) (.int .i64 t778)) (fun _ hk => hk.2) (.int .i64 t779)) (fun _ hk => ⟨hk.1.1.1.1, ⟨hk.1.1.1.2.1, ⟨hk.1.1.1.2.2, ⟨hk.1.1.2, hk.1.2⟩⟩⟩⟩)⟩, ⟨by (with_reducible repeat (first | apply Kd.V_alloc | apply Kd.V_drewN | apply Kd.V_drew)); exact Kd.V_mono (Kd.V_far (p := ⟨gb781, 5, none⟩) (Kd.V_far (p := ⟨gb781, 4, none⟩) (Kd.V_far (p := ⟨gb781, 3, none⟩) (Kd.V_far (p := ⟨gb781, 2, none⟩) (Kd.V_far (p := ⟨gb781, 1, none⟩) (Kd.V_far (p := ⟨gb781, 0, none⟩) (Kd.V_mono HO769.out (fun k_ hk => (⟨hk, hk.2⟩ : _ ∧ k_ ≠ gb781))) (fun _ hk => hk.2) (.int .i64 t774)) (fun _ hk => hk.2) (.int .i64 t775)) (fun _ hk => hk.2) (.bool t776)) (fun _ hk => hk.2) (.bool t777)) (fun _ hk => hk.2) (.int .i64 t778)) (fun _ hk => hk.2) (.int .i64 t779)) (fun _ hk => ⟨hk.1.1.1.1, ⟨hk.1.1.1.2.1, ⟨hk.1.1.1.2.2, ⟨hk.1.1.2, hk.1.2⟩⟩⟩⟩)⟩, ⟨by (with_reducible repeat (first | refine blk_drewN ?_ _ | refine blk_drew ?_ | refine blk_alloc ?_ _)); refine blk_far ?_ NB758_781.out _; (with_reducible repeat (first | refine blk_drewN ?_ _ | refine blk_drew ?_ | refine blk_alloc ?_ _)); refine blk_far ?_ NB758_781.out _; (with_reducible repeat (first | refine blk_drewN ?_ _ | refine blk_drew ?_ | refine blk_alloc ?_ _)); refine blk_far ?_ NB758_781.out _; (with_reducible repeat (first | refine blk_drewN ?_ _ | refine blk_drew ?_ | refine blk_alloc ?_ _)); refine blk_far ?_ NB758_781.out _; (with_reducible repeat (first | refine blk_drewN ?_ _ | refine blk_drew ?_ | refine blk_alloc ?_ _)); refine blk_far ?_ NB758_781.out _; (with_reducible repeat (first | refine blk_drewN ?_ _ | refine blk_drew ?_ | refine blk_alloc ?_ _)); refine blk_far ?_ NB758_781.out _; (with_reducible repeat (first | refine blk_drewN ?_ _ | refine blk_drew ?_ | refine blk_alloc ?_ _)); exact BK758.out⟩, ⟨by (with_reducible repeat (first | refine blk_drewN ?_ _ | refine blk_drew ?_ | refine blk_alloc ?_ _)); refine blk_far ?_ NB759_781.out _; (with_reducible repeat (first | refine blk_drewN ?_ _ | refine blk_drew ?_ | refine blk_alloc ?_ _)); refine blk_far ?_ NB759_781.out _; (with_reducible repeat (first | refine blk_drewN ?_ _ | refine blk_drew ?_ | refine blk_alloc ?_ _)); refine blk_far ?_ NB759_781.out _; (with_reducible repeat (first | refine blk_drewN ?_ _ | refine blk_drew ?_ | refine blk_alloc ?_ _)); refine blk_far ?_ NB759_781.out _; (with_reducible repeat (first | refine blk_drewN ?_ _ | refine blk_drew ?_ | refine blk_alloc ?_ _)); refine blk_far ?_ NB759_781.out _; (with_reducible repeat (first | refine blk_drewN ?_ _ | refine blk_drew ?_ | refine blk_alloc ?_ _)); refine blk_far ?_ NB759_781.out _; (with_reducible repeat (first | refine blk_drewN ?_ _ | refine blk_drew ?_ | refine blk_alloc ?_ _)); exact BK759.out⟩, ⟨by (with_reducible repeat (first | refine blk_drewN ?_ _ | refine blk_drew ?_ | refine blk_alloc ?_ _)); refine blk_far ?_ NB772_781.out _; (with_reducible repeat (first | refine blk_drewN ?_ _ | refine blk_drew ?_ | refine blk_alloc ?_ _)); refine blk_far ?_ NB772_781.out _; (with_reducible repeat (first | refine blk_drewN ?_ _ | refine blk_drew ?_ | refine blk_alloc ?_ _)); refine blk_far ?_ NB772_781.out _; (with_reducible repeat (first | refine blk_drewN ?_ _ | refine blk_drew ?_ | refine blk_alloc ?_ _)); refine blk_far ?_ NB772_781.out _; (with_reducible repeat (first | refine blk_drewN ?_ _ | refine blk_drew ?_ | refine blk_alloc ?_ _)); refine blk_far ?_ NB772_781.out _; (with_reducible repeat (first | refine blk_drewN ?_ _ | refine blk_drew ?_ | refine blk_alloc ?_ _)); refine blk_far ?_ NB772_781.out _; (with_reducible repeat (first | refine blk_drewN ?_ _ | refine blk_drew ?_ | refine blk_alloc ?_ _)); exact BK772.out⟩, ⟨by (with_reducible repeat (first | refine blk_drewN ?_ _ | refine blk_drew ?_ | refine blk_alloc ?_ _)); refine blk_put (cs := #[.int .i64 t774, .int .i64 t775, .bool t776, .bool t777, .int .i64 t778, .int .i64 0]) ?_ 5 _ rfl; (with_reducible repeat (first | refine blk_drewN ?_ _ | refine blk_drew ?_ | refine blk_alloc ?_ _)); refine blk_put (cs := #[.int .i64 t774, .int .i64 t775, .bool t776, .bool t777, .int .i64 0, .int .i64 0]) ?_ 4 _ rfl; (with_reducible repeat (first | refine blk_drewN ?_ _ | refine blk_drew ?_ | refine blk_alloc ?_ _)); refine blk_put (cs := #[.int .i64 t774, .int .i64 t775, .bool t776, .bool false, .int .i64 0, .int .i64 0]) ?_ 3 _ rfl; (with_reducible repeat (first | refine blk_drewN ?_ _ | refine blk_drew ?_ | refine blk_alloc ?_ _)); refine blk_put (cs := #[.int .i64 t774, .int .i64 t775, .bool false, .bool false, .int .i64 0, .int .i64 0]) ?_ 2 _ rfl; (with_reducible repeat (first | refine blk_drewN ?_ _ | refine blk_drew ?_ | refine blk_alloc ?_ _)); refine blk_put (cs := #[.int .i64 t774, .int .i64 0, .bool false, .bool false, .int .i64 0, .int .i64 0]) ?_ 1 _ rfl; (with_reducible repeat (first | refine blk_drewN ?_ _ | refine blk_drew ?_ | refine blk_alloc ?_ _)); refine blk_put (cs := #[.int .i64 0, .int .i64 0, .bool false, .bool false, .int .i64 0, .int .i64 0]) ?_ 0 _ rfl; (with_reducible repeat (first | refine blk_drewN ?_ _ | refine blk_drew ?_ | refine blk_alloc ?_ _)); exact BK781.out⟩, ⟨by repeat (first | (with_reducible first | exact HB.out | apply below_alloc | apply pw_below_drewN | apply below_drew1 | refine below_set ?_ GE758.out | refine below_set ?_ GE759.out | refine below_set ?_ GE772.out | refine below_set ?_ GE781.out) | exact HB.out)⟩⟩
                      · rw [if_neg c56] at H
                        have c56b0 : decide (t770 ≤ x9_2) = false := decide_eq_false c56
                        clear c56
                        (first | rw [c56b0] | (simp only [i64_w, i32_w]; rw [c56b0]) | skip)
                        by_cases c57 : t770 > 7
                        · rw [if_pos c57] at H
                          have c57b0 : decide (7 < t770) = true := decide_eq_true c57
                          clear c57
                          have H' := Aside0.mk H
                          clear H
                          go_wp2
                          go_meet
                          case rel => exact ⟨_, (true), (by first | rfl | (simp; done) | (simp [*]; done)), H', ⟨by have := HJ3.out; have := HK2.out; first | omega | exact Nat.le_refl _⟩, ⟨by (with_reducible repeat (first | apply Kd.V_alloc | apply Kd.V_drewN | apply Kd.V_drew)); exact Kd.V_mono (Kd.V_far (p := ⟨gb781, 5, none⟩) (Kd.V_far (p := ⟨gb781, 4, none⟩) (Kd.V_far (p := ⟨gb781, 3, none⟩) (Kd.V_far (p := ⟨gb781, 2, none⟩) (Kd.V_far (p := ⟨gb781, 1, none⟩) (Kd.V_far (p := ⟨gb781, 0, none⟩) (Kd.V_mono HO_759000.out (fun k_ hk => (⟨hk, hk.2⟩ : _ ∧ k_ ≠ gb781))) (fun _ hk => hk.2) (.int .i64 t774)) (fun _ hk => hk.2) (.int .i64 t775)) (fun _ hk => hk.2) (.bool t776)) (fun _ hk => hk.2) (.bool t777)) (fun _ hk => hk.2) (.int .i64 t778)) (fun _ hk => hk.2) (.int .i64 t779)) (fun _ hk => ⟨hk.1.1.1.1, ⟨hk.1.1.1.2.1, ⟨hk.1.1.1.2.2, ⟨hk.1.1.2, hk.1.2⟩⟩⟩⟩)⟩, ⟨by (with_reducible repeat (first | apply Kd.V_alloc | apply Kd.V_drewN | apply Kd.V_drew)); exact Kd.V_mono (Kd.V_far (p := ⟨gb781, 5, none⟩) (Kd.V_far (p := ⟨gb781, 4, none⟩) (Kd.V_far (p := ⟨gb781, 3, none⟩) (Kd.V_far (p := ⟨gb781, 2, none⟩) (Kd.V_far (p := ⟨gb781, 1, none⟩) (Kd.V_far (p := ⟨gb781, 0, none⟩) (Kd.V_mono HO_759001.out (fun k_ hk => (⟨hk, hk.2⟩ : _ ∧ k_ ≠ gb781))) (fun _ hk => hk.2) (.int .i64 t774)) (fun _ hk => hk.2) (.int .i64 t775)) (fun _ hk => hk.2) (.bool t776)) (fun _ hk => hk.2) (.bool t777)) (fun _ hk => hk.2) (.int .i64 t778)) (fun _ hk => hk.2) (.int .i64 t779)) (fun _ hk => ⟨hk.1.1.1.1, ⟨hk.1.1.1.2.1, ⟨hk.1.1.1.2.2, ⟨hk.1.1.2, hk.1.2⟩⟩⟩⟩)⟩, ⟨by (with_reducible repeat (first | apply Kd.V_alloc | apply Kd.V_drewN | apply Kd.V_drew)); exact Kd.V_mono (Kd.V_far (p := ⟨gb781, 5, none⟩) (Kd.V_far (p := ⟨gb781, 4, none⟩) (Kd.V_far (p := ⟨gb781, 3, none⟩) (Kd.V_far (p := ⟨gb781, 2, none⟩) (Kd.V_far (p := ⟨gb781, 1, none⟩) (Kd.V_far (p := ⟨gb781, 0, none⟩) (Kd.V_mono HO766.out (fun k_ hk => (⟨hk, hk.2⟩ : _ ∧ k_ ≠ gb781))) (fun _ hk => hk.2) (.int .i64 t774)) (fun _ hk => hk.2) (.int .i64 t775)) (fun _ hk => hk.2) (.bool t776)) (fun _ hk => hk.2) (.bool t777)) (fun _ hk => hk.2) (.int .i64 t778)) (fun _ hk => hk.2) (.int .i64 t779)) (fun _ hk => ⟨hk.1.1.1.1, ⟨hk.1.1.1.2.1, ⟨hk.1.1.1.2.2, ⟨hk.1.1.2, hk.1.2⟩⟩⟩⟩)⟩, ⟨by (with_reducible repeat (first | apply Kd.V_alloc | apply Kd.V_drewN | apply Kd.V_drew)); exact Kd.V_mono (Kd.V_far (p := ⟨gb781, 5, none⟩) (Kd.V_far (p := ⟨gb781, 4, none⟩) (Kd.V_far (p := ⟨gb781, 3, none⟩) (Kd.V_far (p := ⟨gb781, 2, none⟩) (Kd.V_far (p := ⟨gb781, 1, none⟩) (Kd.V_far (p := ⟨gb781, 0, none⟩) (Kd.V_mono HO769.out (fun k_ hk => (⟨hk, hk.2⟩ : _ ∧ k_ ≠ gb781))) (fun _ hk => hk.2) (.int .i64 t774)) (fun _ hk => hk.2) (.int .i64 t775)) (fun _ hk => hk.2) (.bool t776)) (fun _ hk => hk.2) (.bool t777)) (fun _ hk => hk.2) (.int .i64 t778)) (fun _ hk => hk.2) (.int .i64 t779)) (fun _ hk => ⟨hk.1.1.1.1, ⟨hk.1.1.1.2.1, ⟨hk.1.1.1.2.2, ⟨hk.1.1.2, hk.1.2⟩⟩⟩⟩)⟩, ⟨by (with_reducible repeat (first | refine blk_drewN ?_ _ | refine blk_drew ?_ | refine blk_alloc ?_ _)); refine blk_far ?_ NB758_781.out _; (with_reducible repeat (first | refine blk_drewN ?_ _ | refine blk_drew ?_ | refine blk_alloc ?_ _)); refine blk_far ?_ NB758_781.out _; (with_reducible repeat (first | refine blk_drewN ?_ _ | refine blk_drew ?_ | refine blk_alloc ?_ _)); refine blk_far ?_ NB758_781.out _; (with_reducible repeat (first | refine blk_drewN ?_ _ | refine blk_drew ?_ | refine blk_alloc ?_ _)); refine blk_far ?_ NB758_781.out _; (with_reducible repeat (first | refine blk_drewN ?_ _ | refine blk_drew ?_ | refine blk_alloc ?_ _)); refine blk_far ?_ NB758_781.out _; (with_reducible repeat (first | refine blk_drewN ?_ _ | refine blk_drew ?_ | refine blk_alloc ?_ _)); refine blk_far ?_ NB758_781.out _; (with_reducible repeat (first | refine blk_drewN ?_ _ | refine blk_drew ?_ | refine blk_alloc ?_ _)); exact BK758.out⟩, ⟨by (with_reducible repeat (first | refine blk_drewN ?_ _ | refine blk_drew ?_ | refine blk_alloc ?_ _)); refine blk_far ?_ NB759_781.out _; (with_reducible repeat (first | refine blk_drewN ?_ _ | refine blk_drew ?_ | refine blk_alloc ?_ _)); refine blk_far ?_ NB759_781.out _; (with_reducible repeat (first | refine blk_drewN ?_ _ | refine blk_drew ?_ | refine blk_alloc ?_ _)); refine blk_far ?_ NB759_781.out _; (with_reducible repeat (first | refine blk_drewN ?_ _ | refine blk_drew ?_ | refine blk_alloc ?_ _)); refine blk_far ?_ NB759_781.out _; (with_reducible repeat (first | refine blk_drewN ?_ _ | refine blk_drew ?_ | refine blk_alloc ?_ _)); refine blk_far ?_ NB759_781.out _; (with_reducible repeat (first | refine blk_drewN ?_ _ | refine blk_drew ?_ | refine blk_alloc ?_ _)); refine blk_far ?_ NB759_781.out _; (with_reducible repeat (first | refine blk_drewN ?_ _ | refine blk_drew ?_ | refine blk_alloc ?_ _)); exact BK759.out⟩, ⟨by (with_reducible repeat (first | refine blk_drewN ?_ _ | refine blk_drew ?_ | refine blk_alloc ?_ _)); refine blk_far ?_ NB772_781.out _; (with_reducible repeat (first | refine blk_drewN ?_ _ | refine blk_drew ?_ | refine blk_alloc ?_ _)); refine blk_far ?_ NB772_781.out _; (with_reducible repeat (first | refine blk_drewN ?_ _ | refine blk_drew ?_ | refine blk_alloc ?_ _)); refine blk_far ?_ NB772_781.out _; (with_reducible repeat (first | refine blk_drewN ?_ _ | refine blk_drew ?_ | refine blk_alloc ?_ _)); refine blk_far ?_ NB772_781.out _; (with_reducible repeat (first | refine blk_drewN ?_ _ | refine blk_drew ?_ | refine blk_alloc ?_ _)); refine blk_far ?_ NB772_781.out _; (with_reducible repeat (first | refine blk_drewN ?_ _ | refine blk_drew ?_ | refine blk_alloc ?_ _)); refine blk_far ?_ NB772_781.out _; (with_reducible repeat (first | refine blk_drewN ?_ _ | refine blk_drew ?_ | refine blk_alloc ?_ _)); exact BK772.out⟩, ⟨by (with_reducible repeat (first | refine blk_drewN ?_ _ | refine blk_drew ?_ | refine blk_alloc ?_ _)); refine blk_put (cs := #[.int .i64 t774, .int .i64 t775, .bool t776, .bool t777, .int .i64 t778, .int .i64 0]) ?_ 5 _ rfl; (with_reducible repeat (first | refine blk_drewN ?_ _ | refine blk_drew ?_ | refine blk_alloc ?_ _)); refine blk_put (cs := #[.int .i64 t774, .int .i64 t775, .bool t776, .bool t777, .int .i64 0, .int .i64 0]) ?_ 4 _ rfl; (with_reducible repeat (first | refine blk_drewN ?_ _ | refine blk_drew ?_ | refine blk_alloc ?_ _)); refine blk_put (cs := #[.int .i64 t774, .int .i64 t775, .bool t776, .bool false, .int .i64 0, .int .i64 0]) ?_ 3 _ rfl; (with_reducible repeat (first | refine blk_drewN ?_ _ | refine blk_drew ?_ | refine blk_alloc ?_ _)); refine blk_put (cs := #[.int .i64 t774, .int .i64 t775, .bool false, .bool false, .int .i64 0, .int .i64 0]) ?_ 2 _ rfl; (with_reducible repeat (first | refine blk_drewN ?_ _ | refine blk_drew ?_ | refine blk_alloc ?_ _)); refine blk_put (cs := #[.int .i64 t774, .int .i64 0, .bool false, .bool false, .int .i64 0, .int .i64 0]) ?_ 1 _ rfl; (with_reducible repeat (first | refine blk_drewN ?_ _ | refine blk_drew ?_ | refine blk_alloc ?_ _)); refine blk_put (cs := #[.int .i64 0, .int .i64 0, .bool false, .bool false, .int .i64 0, .int .i64 0]) ?_ 0 _ rfl; (with_reducible repeat (first | refine blk_drewN ?_ _ | refine blk_drew ?_ | refine blk_alloc ?_ _)); exact BK781.out⟩, ⟨by repeat (first | (with_reducible first | exact HB.out | apply below_alloc | apply pw_below_drewN | apply below_drew1 | refine below_set ?_ GE758.out | refine below_set ?_ GE759.out | refine below_set ?_ GE772.out | refine below_set ?_ GE781.out) | exact HB.out)⟩⟩
                        · rw [if_neg c57] at H
                          have c57b0 : decide (7 < t770) = false := decide_eq_false c57
                          clear c57
                          have H' := Aside0.mk H
                          clear H
                          go_wp2
                          go_meet
                          case rel => exact ⟨_, (decide (x8_2 ≥ 8)), (by first | rfl | (simp; done) | (simp [*]; done)), H', ⟨by have := HJ3.out; have := HK2.out; first | omega | exact Nat.le_refl _⟩, ⟨by (with_reducible repeat (first | apply Kd.V_alloc | apply Kd.V_drewN | apply Kd.V_drew)); exact Kd.V_mono (Kd.V_far (p := ⟨gb781, 5, none⟩) (Kd.V_far (p := ⟨gb781, 4, none⟩) (Kd.V_far (p := ⟨gb781, 3, none⟩) (Kd.V_far (p := ⟨gb781, 2, none⟩) (Kd.V_far (p := ⟨gb781, 1, none⟩) (Kd.V_far (p := ⟨gb781, 0, none⟩) (Kd.V_mono HO_759000.out (fun k_ hk => (⟨hk, hk.2⟩ : _ ∧ k_ ≠ gb781))) (fun _ hk => hk.2) (.int .i64 t774)) (fun _ hk => hk.2) (.int .i64 t775)) (fun _ hk => hk.2) (.bool t776)) (fun _ hk => hk.2) (.bool t777)) (fun _ hk => hk.2) (.int .i64 t778)) (fun _ hk => hk.2) (.int .i64 t779)) (fun _ hk => ⟨hk.1.1.1.1, ⟨hk.1.1.1.2.1, ⟨hk.1.1.1.2.2, ⟨hk.1.1.2, hk.1.2⟩⟩⟩⟩)⟩, ⟨by (with_reducible repeat (first | apply Kd.V_alloc | apply Kd.V_drewN | apply Kd.V_drew)); exact Kd.V_mono (Kd.V_far (p := ⟨gb781, 5, none⟩) (Kd.V_far (p := ⟨gb781, 4, none⟩) (Kd.V_far (p := ⟨gb781, 3, none⟩) (Kd.V_far (p := ⟨gb781, 2, none⟩) (Kd.V_far (p := ⟨gb781, 1, none⟩) (Kd.V_far (p := ⟨gb781, 0, none⟩) (Kd.V_mono HO_759001.out (fun k_ hk => (⟨hk, hk.2⟩ : _ ∧ k_ ≠ gb781))) (fun _ hk => hk.2) (.int .i64 t774)) (fun _ hk => hk.2) (.int .i64 t775)) (fun _ hk => hk.2) (.bool t776)) (fun _ hk => hk.2) (.bool t777)) (fun _ hk => hk.2) (.int .i64 t778)) (fun _ hk => hk.2) (.int .i64 t779)) (fun _ hk => ⟨hk.1.1.1.1, ⟨hk.1.1.1.2.1, ⟨hk.1.1.1.2.2, ⟨hk.1.1.2, hk.1.2⟩⟩⟩⟩)⟩, ⟨by (with_reducible repeat (first | apply Kd.V_alloc | apply Kd.V_drewN | apply Kd.V_drew)); exact Kd.V_mono (Kd.V_far (p := ⟨gb781, 5, none⟩) (Kd.V_far (p := ⟨gb781, 4, none⟩) (Kd.V_far (p := ⟨gb781, 3, none⟩) (Kd.V_far (p := ⟨gb781, 2, none⟩) (Kd.V_far (p := ⟨gb781, 1, none⟩) (Kd.V_far (p := ⟨gb781, 0, none⟩) (Kd.V_mono HO766.out (fun k_ hk => (⟨hk, hk.2⟩ : _ ∧ k_ ≠ gb781))) (fun _ hk => hk.2) (.int .i64 t774)) (fun _ hk => hk.2) (.int .i64 t775)) (fun _ hk => hk.2) (.bool t776)) (fun _ hk => hk.2) (.bool t777)) (fun _ hk => hk.2) (.int .i64 t778)) (fun _ hk => hk.2) (.int .i64 t779)) (fun _ hk => ⟨hk.1.1.1.1, ⟨hk.1.1.1.2.1, ⟨hk.1.1.1.2.2, ⟨hk.1.1.2, hk.1.2⟩⟩⟩⟩)⟩, ⟨by (with_reducible repeat (first | apply Kd.V_alloc | apply Kd.V_drewN | apply Kd.V_drew)); exact Kd.V_mono (Kd.V_far (p := ⟨gb781, 5, none⟩) (Kd.V_far (p := ⟨gb781, 4, none⟩) (Kd.V_far (p := ⟨gb781, 3, none⟩) (Kd.V_far (p := ⟨gb781, 2, none⟩) (Kd.V_far (p := ⟨gb781, 1, none⟩) (Kd.V_far (p := ⟨gb781, 0, none⟩) (Kd.V_mono HO769.out (fun k_ hk => (⟨hk, hk.2⟩ : _ ∧ k_ ≠ gb781))) (fun _ hk => hk.2) (.int .i64 t774)) (fun _ hk => hk.2) (.int .i64 t775)) (fun _ hk => hk.2) (.bool t776)) (fun _ hk => hk.2) (.bool t777)) (fun _ hk => hk.2) (.int .i64 t778)) (fun _ hk => hk.2) (.int .i64 t779)) (fun _ hk => ⟨hk.1.1.1.1, ⟨hk.1.1.1.2.1, ⟨hk.1.1.1.2.2, ⟨hk.1.1.2, hk.1.2⟩⟩⟩⟩)⟩, ⟨by (with_reducible repeat (first | refine blk_drewN ?_ _ | refine blk_drew ?_ | refine blk_alloc ?_ _)); refine blk_far ?_ NB758_781.out _; (with_reducible repeat (first | refine blk_drewN ?_ _ | refine blk_drew ?_ | refine blk_alloc ?_ _)); refine blk_far ?_ NB758_781.out _; (with_reducible repeat (first | refine blk_drewN ?_ _ | refine blk_drew ?_ | refine blk_alloc ?_ _)); refine blk_far ?_ NB758_781.out _; (with_reducible repeat (first | refine blk_drewN ?_ _ | refine blk_drew ?_ | refine blk_alloc ?_ _)); refine blk_far ?_ NB758_781.out _; (with_reducible repeat (first | refine blk_drewN ?_ _ | refine blk_drew ?_ | refine blk_alloc ?_ _)); refine blk_far ?_ NB758_781.out _; (with_reducible repeat (first | refine blk_drewN ?_ _ | refine blk_drew ?_ | refine blk_alloc ?_ _)); refine blk_far ?_ NB758_781.out _; (with_reducible repeat (first | refine blk_drewN ?_ _ | refine blk_drew ?_ | refine blk_alloc ?_ _)); exact BK758.out⟩, ⟨by (with_reducible repeat (first | refine blk_drewN ?_ _ | refine blk_drew ?_ | refine blk_alloc ?_ _)); refine blk_far ?_ NB759_781.out _; (with_reducible repeat (first | refine blk_drewN ?_ _ | refine blk_drew ?_ | refine blk_alloc ?_ _)); refine blk_far ?_ NB759_781.out _; (with_reducible repeat (first | refine blk_drewN ?_ _ | refine blk_drew ?_ | refine blk_alloc ?_ _)); refine blk_far ?_ NB759_781.out _; (with_reducible repeat (first | refine blk_drewN ?_ _ | refine blk_drew ?_ | refine blk_alloc ?_ _)); refine blk_far ?_ NB759_781.out _; (with_reducible repeat (first | refine blk_drewN ?_ _ | refine blk_drew ?_ | refine blk_alloc ?_ _)); refine blk_far ?_ NB759_781.out _; (with_reducible repeat (first | refine blk_drewN ?_ _ | refine blk_drew ?_ | refine blk_alloc ?_ _)); refine blk_far ?_ NB759_781.out _; (with_reducible repeat (first | refine blk_drewN ?_ _ | refine blk_drew ?_ | refine blk_alloc ?_ _)); exact BK759.out⟩, ⟨by (with_reducible repeat (first | refine blk_drewN ?_ _ | refine blk_drew ?_ | refine blk_alloc ?_ _)); refine blk_far ?_ NB772_781.out _; (with_reducible repeat (first | refine blk_drewN ?_ _ | refine blk_drew ?_ | refine blk_alloc ?_ _)); refine blk_far ?_ NB772_781.out _; (with_reducible repeat (first | refine blk_drewN ?_ _ | refine blk_drew ?_ | refine blk_alloc ?_ _)); refine blk_far ?_ NB772_781.out _; (with_reducible repeat (first | refine blk_drewN ?_ _ | refine blk_drew ?_ | refine blk_alloc ?_ _)); refine blk_far ?_ NB772_781.out _; (with_reducible repeat (first | refine blk_drewN ?_ _ | refine blk_drew ?_ | refine blk_alloc ?_ _)); refine blk_far ?_ NB772_781.out _; (with_reducible repeat (first | refine blk_drewN ?_ _ | refine blk_drew ?_ | refine blk_alloc ?_ _)); refine blk_far ?_ NB772_781.out _; (with_reducible repeat (first | refine blk_drewN ?_ _ | refine blk_drew ?_ | refine blk_alloc ?_ _)); exact BK772.out⟩, ⟨by (with_reducible repeat (first | refine blk_drewN ?_ _ | refine blk_drew ?_ | refine blk_alloc ?_ _)); refine blk_put (cs := #[.int .i64 t774, .int .i64 t775, .bool t776, .bool t777, .int .i64 t778, .int .i64 0]) ?_ 5 _ rfl; (with_reducible repeat (first | refine blk_drewN ?_ _ | refine blk_drew ?_ | refine blk_alloc ?_ _)); refine blk_put (cs := #[.int .i64 t774, .int .i64 t775, .bool t776, .bool t777, .int .i64 0, .int .i64 0]) ?_ 4 _ rfl; (with_reducible repeat (first | refine blk_drewN ?_ _ | refine blk_drew ?_ | refine blk_alloc ?_ _)); refine blk_put (cs := #[.int .i64 t774, .int .i64 t775, .bool t776, .bool false, .int .i64 0, .int .i64 0]) ?_ 3 _ rfl; (with_reducible repeat (first | refine blk_drewN ?_ _ | refine blk_drew ?_ | refine blk_alloc ?_ _)); refine blk_put (cs := #[.int .i64 t774, .int .i64 t775, .bool false, .bool false, .int .i64 0, .int .i64 0]) ?_ 2 _ rfl; (with_reducible repeat (first | refine blk_drewN ?_ _ | refine blk_drew ?_ | refine blk_alloc ?_ _)); refine blk_put (cs := #[.int .i64 t774, .int .i64 0, .bool false, .bool false, .int .i64 0, .int .i64 0]) ?_ 1 _ rfl; (with_reducible repeat (first | refine blk_drewN ?_ _ | refine blk_drew ?_ | refine blk_alloc ?_ _)); refine blk_put (cs := #[.int .i64 0, .int .i64 0, .bool false, .bool false, .int .i64 0, .int .i64 0]) ?_ 0 _ rfl; (with_reducible repeat (first | refine blk_drewN ?_ _ | refine blk_drew ?_ | refine blk_alloc ?_ _)); exact BK781.out⟩, ⟨by repeat (first | (with_reducible first | exact HB.out | apply below_alloc | apply pw_below_drewN | apply below_drew1 | refine below_set ?_ GE758.out | refine below_set ?_ GE759.out | refine below_set ?_ GE772.out | refine below_set ?_ GE781.out) | exact HB.out)⟩⟩
                  case rest =>
                    clear HC35
                    try clear c1
                    try clear c2
                    try clear p2
                    try clear c3
                    try clear c4
                    try clear c5
                    try clear p6
                    try clear c8
                    try clear c9
                    try clear c9b0
                    try clear c9b1
                    try clear c9b2
                    try clear c10
                    try clear c11
                    try clear c15
                    try clear c18
                    try clear c19
                    try clear c20
                    try clear c22
                    try clear c23
                    try clear c26
                    try clear c26b0
                    try clear c26b1
                    try clear c26b2
                    try clear c28
                    try clear c31
                    try clear c31b0
                    try clear c33
                    try clear c33b0
                    try clear c33b1
                    try clear c36
                    try clear c44
                    try clear c45
                    try clear c51
                    try clear c52
                    try clear c53
                    try clear c55
                    try clear c56
                    try clear c56b0
                    try clear c57
                    try clear c57b0
                    try clear hcz11_0
                    try clear hcz11_1
                    try clear hcz13_0
                    try clear hcz13_1
                    try clear hcz16_0
                    try clear hcz16_1
                    try clear hcz18_0
                    try clear hcz18_1
                    try clear hcz21_0
                    try clear hcz21_1
                    try clear hcz29_0
                    try clear hcz29_1
                    try clear hcz37_0
                    try clear hcz37_1
                    try clear hcz38_0
                    try clear hcz38_1
                    try clear hcz38_2
                    try clear hcz38_3
                    try clear hcz38_4
                    try clear hcz38_5
                    try clear hcz46_0
                    try clear hcz46_1
                    try clear hcz48_0
                    try clear hcz48_1
                    try clear hcz54_0
                    try clear hcz54_1
                    try clear hcz54_2
                    try clear hcz54_3
                    try clear hcz54_4
                    try clear hcz54_5
                    try clear hfz11_0
                    try clear hfz11_1
                    try clear hfz13_0
                    try clear hfz13_1
                    try clear hfz16_0
                    try clear hfz16_1
                    try clear hfz18_0
                    try clear hfz18_1
                    try clear hfz21_0
                    try clear hfz21_1
                    try clear hfz29_0
                    try clear hfz29_1
                    try clear hfz37_0
                    try clear hfz37_1
                    try clear hfz38_0
                    try clear hfz38_1
                    try clear hfz38_2
                    try clear hfz38_3
                    try clear hfz38_4
                    try clear hfz38_5
                    try clear hfz46_0
                    try clear hfz46_1
                    try clear hfz48_0
                    try clear hfz48_1
                    try clear hfz54_0
                    try clear hfz54_1
                    try clear hfz54_2
                    try clear hfz54_3
                    try clear hfz54_4
                    try clear hfz54_5
                    try clear p2
                    try clear p6
                    obtain ⟨kq, x85_34, rfl, HA, HJ34, HO_759000, HO_759001, HO_773000, HO_773001, BK758, BK759, BK772, BK781, HB⟩ := hcut
                    cases kq with
                    | zero => exact absurd HA.out (by simp [flagstonelaw10_HandleFull.j2])
                    | succ kj34 =>
                      have H := HA.out
                      clear HA
                      simp only [flagstonelaw10_HandleFull.j2] at H
                      by_cases c58 : x85_34 = true
                      · subst c58
                        have H1 : (none) = some r := by rw [if_pos rfl] at H; exact H
                        clear H
                        have H := H1
                        clear H1
                        exact absurd H (by simp)
                      · replace c58 := Bool.eq_false_iff.mpr c58
                        subst c58
                        have H1 : (flagstonelaw10_HandleFull.l1 kj34 (Int.tmod (wrap64 (a1)) (l0_1.length : Int)) x8_2 x10_2 t770 0 x759000_2 x759001_2 a2_0 a2_1 a2_2 a2_3 a2_4 a2_5 t764 t767) = some r := by rw [if_neg (show ¬ (false = true) by decide)] at H; exact H
                        clear H
                        have H := H1
                        clear H1
                        have H' := Aside0.mk H
                        clear H
                        go_wp2
                        go_loopg [17] kj34 (fun kq v17 w' => ∃ (x17_4 : Int), v17 = .int .i64 x17_4 ∧ Aside0 (flagstonelaw10_HandleFull.l1 kq (Int.tmod (wrap64 (a1)) (l0_1.length : Int)) x8_2 x10_2 t770 x17_4 x759000_2 x759001_2 a2_0 a2_1 a2_2 a2_3 a2_4 a2_5 t764 t767 = some r) ∧ Aside0 (kq ≤ kj34) ∧ Aside0 (Kd.V k38 38 w' w.heap.size (fun k_ => ((P0_0_ k_ ∨ P0_1_ k_) ∨ w.heap.size ≤ k_) ∧ k_ ≠ gb758 ∧ k_ ≠ gb759 ∧ k_ ≠ gb772 ∧ k_ ≠ gb781) (.slice Ao39 x759000_2.length co39) x759000_2) ∧ Aside0 (Kd.V (Kd.slice 3 (Kd.int .i64)) 64 w' w.heap.size (fun k_ => ((P0_0_ k_ ∨ P0_1_ k_) ∨ w.heap.size ≤ k_) ∧ k_ ≠ gb758 ∧ k_ ≠ gb759 ∧ k_ ≠ gb772 ∧ k_ ≠ gb781) (.slice Ao40 x759001_2.length co40) x759001_2) ∧ Aside0 (Kd.V k38 38 w' w.heap.size (fun k_ => ((P0_0_ k_ ∨ P0_1_ k_) ∨ w.heap.size ≤ k_) ∧ k_ ≠ gb758 ∧ k_ ≠ gb759 ∧ k_ ≠ gb772 ∧ k_ ≠ gb781) (.slice Ao43 t764.length co43) t764) ∧ Aside0 (Kd.V (Kd.slice 3 (Kd.int .i64)) 64 w' w.heap.size (fun k_ => ((P0_0_ k_ ∨ P0_1_ k_) ∨ w.heap.size ≤ k_) ∧ k_ ≠ gb758 ∧ k_ ≠ gb759 ∧ k_ ≠ gb772 ∧ k_ ≠ gb781) (.slice Ao47 t767.length co47) t767) ∧ Aside0 (w'.heap[gb758]? = some (.cells #[(.slice Ao39 x759000_2.length co39), (.slice Ao40 x759001_2.length co40)] 25 (0, 0))) ∧ Aside0 (w'.heap[gb759]? = some (.cells #[.int .i64 a2_0, .int .i64 a2_1, .bool a2_2, .bool a2_3, .int .i64 a2_4, .int .i64 a2_5] 38 (0, 0))) ∧ Aside0 (w'.heap[gb772]? = some (.cells #[(.slice Ao43 t764.length co43), (.slice Ao47 t767.length co47)] 25 (0, 0))) ∧ Aside0 (w'.heap[gb781]? = some (.cells #[.int .i64 t774, .int .i64 t775, .bool t776, .bool t777, .int .i64 t778, .int .i64 t779] 38 (0, 0))) ∧ Aside0 (Below w.heap.size w w'))
                        case atStart => exact ⟨(0), (by first | rfl | (simp; done) | (simp [*]; done)), H', ⟨Nat.le_refl _⟩, ⟨by (with_reducible repeat (first | apply Kd.V_alloc | apply Kd.V_drewN | apply Kd.V_drew)); exact HO_759000.out⟩, ⟨by (with_reducible repeat (first | apply Kd.V_alloc | apply Kd.V_drewN | apply Kd.V_drew)); exact HO_759001.out⟩, ⟨by (with_reducible repeat (first | apply Kd.V_alloc | apply Kd.V_drewN | apply Kd.V_drew)); exact HO_773000.out⟩, ⟨by (with_reducible repeat (first | apply Kd.V_alloc | apply Kd.V_drewN | apply Kd.V_drew)); exact HO_773001.out⟩, ⟨by (with_reducible repeat (first | refine blk_drewN ?_ _ | refine blk_drew ?_ | refine blk_alloc ?_ _)); exact BK758.out⟩, ⟨by (with_reducible repeat (first | refine blk_drewN ?_ _ | refine blk_drew ?_ | refine blk_alloc ?_ _)); exact BK759.out⟩, ⟨by (with_reducible repeat (first | refine blk_drewN ?_ _ | refine blk_drew ?_ | refine blk_alloc ?_ _)); exact BK772.out⟩, ⟨by (with_reducible repeat (first | refine blk_drewN ?_ _ | refine blk_drew ?_ | refine blk_alloc ?_ _)); exact BK781.out⟩, ⟨by repeat (first | (with_reducible first | exact HB.out | apply below_alloc | apply pw_below_drewN | apply below_drew1 | refine below_set ?_ GE758.out | refine below_set ?_ GE759.out | refine below_set ?_ GE772.out | refine below_set ?_ GE781.out) | exact HB.out)⟩⟩
                        case round =>
                          clear H'
                          try clear c1
                          try clear c2
                          try clear p2
                          try clear c3
                          try clear c4
                          try clear c5
                          try clear p6
                          try clear c8
                          try clear c9
                          try clear c9b0
                          try clear c9b1
                          try clear c9b2
                          try clear c10
                          try clear c11
                          try clear c15
                          try clear c18
                          try clear c19
                          try clear c20
                          try clear c22
                          try clear c23
                          try clear c26
                          try clear c26b0
                          try clear c26b1
                          try clear c26b2
                          try clear c28
                          try clear c31
                          try clear c31b0
                          try clear c33
                          try clear c33b0
                          try clear c33b1
                          try clear c36
                          try clear c44
                          try clear c45
                          try clear c51
                          try clear c52
                          try clear c53
                          try clear c55
                          try clear c56
                          try clear c56b0
                          try clear c57
                          try clear c57b0
                          try clear c58
                          try clear hcz11_0
                          try clear hcz11_1
                          try clear hcz13_0
                          try clear hcz13_1
                          try clear hcz16_0
                          try clear hcz16_1
                          try clear hcz18_0
                          try clear hcz18_1
                          try clear hcz21_0
                          try clear hcz21_1
                          try clear hcz29_0
                          try clear hcz29_1
                          try clear hcz37_0
                          try clear hcz37_1
                          try clear hcz38_0
                          try clear hcz38_1
                          try clear hcz38_2
                          try clear hcz38_3
                          try clear hcz38_4
                          try clear hcz38_5
                          try clear hcz46_0
                          try clear hcz46_1
                          try clear hcz48_0
                          try clear hcz48_1
                          try clear hcz54_0
                          try clear hcz54_1
                          try clear hcz54_2
                          try clear hcz54_3
                          try clear hcz54_4
                          try clear hcz54_5
                          try clear hfz11_0
                          try clear hfz11_1
                          try clear hfz13_0
                          try clear hfz13_1
                          try clear hfz16_0
                          try clear hfz16_1
                          try clear hfz18_0
                          try clear hfz18_1
                          try clear hfz21_0
                          try clear hfz21_1
                          try clear hfz29_0
                          try clear hfz29_1
                          try clear hfz37_0
                          try clear hfz37_1
                          try clear hfz38_0
                          try clear hfz38_1
                          try clear hfz38_2
                          try clear hfz38_3
                          try clear hfz38_4
                          try clear hfz38_5
                          try clear hfz46_0
                          try clear hfz46_1
                          try clear hfz48_0
                          try clear hfz48_1
                          try clear hfz54_0
                          try clear hfz54_1
                          try clear hfz54_2
                          try clear hfz54_3
                          try clear hfz54_4
                          try clear hfz54_5
                          try clear p2
                          try clear p6
                          obtain ⟨x17_4, rfl, HA, HK4, HO_759000, HO_759001, HO_773000, HO_773001, BK758, BK759, BK772, BK781, HB⟩ := hrel
                          cases gk with
                          | zero => exact absurd HA.out (by simp [flagstonelaw10_HandleFull.l1])
                          | succ k4 =>
                            have H := HA.out
                            clear HA
                            simp only [flagstonelaw10_HandleFull.l1] at H
                            by_cases c59 : x17_4 < t770
                            · rw [if_pos c59] at H
                              have c59b0 : decide (x17_4 < t770) = true := decide_eq_true c59
                              clear c59
                              replace H := Option.bind_eq_some_iff.mp H
                              obtain ⟨⟨t782, t783, t784, t785, t786, t787, t788, t789⟩, A600, H⟩ := H
                              replace H : (if t789 = true then (flagstonelaw10_HandleFull.l1 k4 (Int.tmod (wrap64 (a1)) (l0_1.length : Int)) x8_2 x10_2 t770 (wrap64 (x17_4 + 1)) x759000_2 x759001_2 a2_0 a2_1 a2_2 a2_3 a2_4 a2_5 t764 t767) else (none)) = some r := H
                              have A60 := Aside0.mk A600
                              clear A600
                              by_cases c61 : t789 = true
                              · subst c61
                                have H1 : (flagstonelaw10_HandleFull.l1 k4 (Int.tmod (wrap64 (a1)) (l0_1.length : Int)) x8_2 x10_2 t770 (wrap64 (x17_4 + 1)) x759000_2 x759001_2 a2_0 a2_1 a2_2 a2_3 a2_4 a2_5 t764 t767) = some r := by rw [if_pos rfl] at H; exact H
                                clear H
                                have H := H1
                                clear H1
                                have H' := Aside0.mk H
                                clear H
                                have hnb62 := NB758_759.out
                                have hnc62 := NB759_758.out
                                have hnb63 := NB758_772.out
                                have hnc63 := NB772_758.out
                                have hnb64 := NB758_781.out
                                have hnc64 := NB781_758.out
                                have hcz65_0 : wr.cell? ⟨gb758, 0, none⟩ = some (.slice Ao39 x759000_2.length co39) := (blk_cell BK758.out 0).trans rfl
                                have hcz65_1 : wr.cell? ⟨gb758, 1, none⟩ = some (.slice Ao40 x759001_2.length co40) := (blk_cell BK758.out 1).trans rfl
                                have hfz65_0 := blk_frozen BK758.out 0
                                have hfz65_1 := blk_frozen BK758.out 1
                                go_wp2_with (first | ((with_reducible refine gate_callee (f := 20) rfl ?_); refine goesL_ (some 95) rfl rfl Try.func20 (by kernel_rfl) rfl #[.agg #[.slice Ao39 x759000_2.length co39, .slice Ao40 x759001_2.length co40], .int .i64 (Int.tmod (wrap64 (a1)) (l0_1.length : Int)), .int .i64 x17_4] rfl (by (try simp only [List.map_toArray, List.map_cons, List.map_nil]); first | done | rfl | (simp only [List.length_drop, List.length_take]; rfl)) ?_; (with_reducible refine (handle_Get.calls _ _ x759000_2 _ _ x759001_2 (Int.tmod (wrap64 (a1)) (l0_1.length : Int)) x17_4 t782 t783 t784 t785 t786 t787 t788 true _ ?side1 ?side2 ?side3 ?side4 A60.out).mono ?_); (case side1 => repeat (first | exact (Kd.V_reads' HO_759000.out).2.2 | (with_reducible refine Kd.C_alloc ?_ _) | (with_reducible refine Kd.C_drewN ?_ _) | (with_reducible refine Kd.C_drew ?_))); (case side2 => exact (Kd.V_reads' HO_759000.out).2.1); (case side3 => repeat (first | exact (Kd.V_reads' HO_759001.out).2.2 | (with_reducible refine Kd.C_alloc ?_ _) | (with_reducible refine Kd.C_drewN ?_ _) | (with_reducible refine Kd.C_drew ?_))); (case side4 => exact (Kd.V_reads' HO_759001.out).2.1); rintro e w66 ⟨rfl, hb⟩; refine ⟨_, rfl, ?_⟩; have n0_ := Aside0.mk (Kd.V_below (by (with_reducible repeat (first | apply Kd.V_alloc | apply Kd.V_drewN | apply Kd.V_drew)); exact HO_759000.out) hb); have n1_ := Aside0.mk (Kd.V_below (by (with_reducible repeat (first | apply Kd.V_alloc | apply Kd.V_drewN | apply Kd.V_drew)); exact HO_759001.out) hb); have n2_ := Aside0.mk (Kd.V_below (by (with_reducible repeat (first | apply Kd.V_alloc | apply Kd.V_drewN | apply Kd.V_drew)); exact HO_773000.out) hb); have n3_ := Aside0.mk (Kd.V_below (by (with_reducible repeat (first | apply Kd.V_alloc | apply Kd.V_drewN | apply Kd.V_drew)); exact HO_773001.out) hb); have n4_ := Aside0.mk (blk_below (g := gb758) (o := .cells #[.slice Ao39 x759000_2.length co39, .slice Ao40 x759001_2.length co40] 25 (0, 0)) (by (with_reducible repeat (first | refine blk_drewN ?_ _ | refine blk_drew ?_ | refine blk_alloc ?_ _)); exact BK758.out) hb); have n5_ := Aside0.mk (blk_below (g := gb759) (o := .cells #[.int .i64 a2_0, .int .i64 a2_1, .bool a2_2, .bool a2_3, .int .i64 a2_4, .int .i64 a2_5] 38 (0, 0)) (by (with_reducible repeat (first | refine blk_drewN ?_ _ | refine blk_drew ?_ | refine blk_alloc ?_ _)); exact BK759.out) hb); have n6_ := Aside0.mk (blk_below (g := gb772) (o := .cells #[.slice Ao43 t764.length co43, .slice Ao47 t767.length co47] 25 (0, 0)) (by (with_reducible repeat (first | refine blk_drewN ?_ _ | refine blk_drew ?_ | refine blk_alloc ?_ _)); exact BK772.out) hb); have n7_ := Aside0.mk (blk_below (g := gb781) (o := .cells #[.int .i64 t774, .int .i64 t775, .bool t776, .bool t777, .int .i64 t778, .int .i64 t779] 38 (0, 0)) (by (with_reducible repeat (first | refine blk_drewN ?_ _ | refine blk_drew ?_ | refine blk_alloc ?_ _)); exact BK781.out) hb); have n8_ := Aside0.mk (below_step (by repeat (first | (with_reducible first | exact HB.out | apply below_alloc | apply pw_below_drewN | apply below_drew1 | refine below_set ?_ GE758.out | refine below_set ?_ GE759.out | refine below_set ?_ GE772.out | refine below_set ?_ GE781.out) | exact HB.out)) hb); clear HO_759000; clear HO_759001; clear HO_773000; clear HO_773001; clear BK758; clear BK759; clear BK772; clear BK781; clear HB; have HO_759000 := n0_; have HO_759001 := n1_; have HO_773000 := n2_; have HO_773001 := n3_; have BK758 := n4_; have BK759 := n5_; have BK772 := n6_; have BK781 := n7_; have HB := n8_; clear n0_ n1_ n2_ n3_ n4_ n5_ n6_ n7_ n8_; (try clear hb); (try clear hb2); (try clear hk); (try clear hi)) | ((with_reducible refine gate_dst (N := 19) rfl ?_); (try (refine gate_guard (by rfl) ?_; dsimp only)); refine box_event ?hg (N := 19) ?hd (cs := #[.int .i64 0, .int .i64 0, .bool false, .bool false, .int .i64 0, .int .i64 0]) (t := 38) ?hr ?_; (case hd => rfl); (case hg => rfl); (case hr => first | (go_simp; done) | (go_simp; rfl)); intro gb790 hg w67 hbox hb; have n0_ := Aside0.mk (Kd.V_below (Kd.V_elderB (by (with_reducible repeat (first | apply Kd.V_alloc | apply Kd.V_drewN | apply Kd.V_drew)); exact HO_759000.out) gb790 (Nat.le_of_eq hg.symm)) hb); have n1_ := Aside0.mk (Kd.V_below (Kd.V_elderB (by (with_reducible repeat (first | apply Kd.V_alloc | apply Kd.V_drewN | apply Kd.V_drew)); exact HO_759001.out) gb790 (Nat.le_of_eq hg.symm)) hb); have n2_ := Aside0.mk (Kd.V_below (Kd.V_elderB (by (with_reducible repeat (first | apply Kd.V_alloc | apply Kd.V_drewN | apply Kd.V_drew)); exact HO_773000.out) gb790 (Nat.le_of_eq hg.symm)) hb); have n3_ := Aside0.mk (Kd.V_below (Kd.V_elderB (by (with_reducible repeat (first | apply Kd.V_alloc | apply Kd.V_drewN | apply Kd.V_drew)); exact HO_773001.out) gb790 (Nat.le_of_eq hg.symm)) hb); have n4_ := Aside0.mk (blk_below (g := gb758) (o := .cells #[.slice Ao39 x759000_2.length co39, .slice Ao40 x759001_2.length co40] 25 (0, 0)) (by (with_reducible repeat (first | refine blk_drewN ?_ _ | refine blk_drew ?_ | refine blk_alloc ?_ _)); exact BK758.out) hb); have n5_ := Aside0.mk (blk_below (g := gb759) (o := .cells #[.int .i64 a2_0, .int .i64 a2_1, .bool a2_2, .bool a2_3, .int .i64 a2_4, .int .i64 a2_5] 38 (0, 0)) (by (with_reducible repeat (first | refine blk_drewN ?_ _ | refine blk_drew ?_ | refine blk_alloc ?_ _)); exact BK759.out) hb); have n6_ := Aside0.mk (blk_below (g := gb772) (o := .cells #[.slice Ao43 t764.length co43, .slice Ao47 t767.length co47] 25 (0, 0)) (by (with_reducible repeat (first | refine blk_drewN ?_ _ | refine blk_drew ?_ | refine blk_alloc ?_ _)); exact BK772.out) hb); have n7_ := Aside0.mk (blk_below (g := gb781) (o := .cells #[.int .i64 t774, .int .i64 t775, .bool t776, .bool t777, .int .i64 t778, .int .i64 t779] 38 (0, 0)) (by (with_reducible repeat (first | refine blk_drewN ?_ _ | refine blk_drew ?_ | refine blk_alloc ?_ _)); exact BK781.out) hb); have n8_ := Aside0.mk (below_step (by repeat (first | (with_reducible first | exact HB.out | apply below_alloc | apply pw_below_drewN | apply below_drew1 | refine below_set ?_ GE758.out | refine below_set ?_ GE759.out | refine below_set ?_ GE772.out | refine below_set ?_ GE781.out) | exact HB.out)) hb); have n9_ := Aside0.mk (hbox); have n10_ := Aside0.mk ((by rw [hg]; exact (below_size (by repeat (first | (with_reducible first | exact HB.out | apply below_alloc | apply pw_below_drewN | apply below_drew1 | refine below_set ?_ GE758.out | refine below_set ?_ GE759.out | refine below_set ?_ GE772.out | refine below_set ?_ GE781.out) | exact HB.out))) : w.heap.size ≤ gb790)); have n11_ := Aside0.mk ((by rw [hg]; exact (below_size (by repeat (first | (with_reducible first | exact HB.out | apply below_alloc | apply pw_below_drewN | apply below_drew1 | refine below_set ?_ GE758.out | refine below_set ?_ GE759.out | refine below_set ?_ GE772.out | refine below_set ?_ GE781.out) | exact HB.out))) : w.heap.size ≤ gb790)); have n12_ := Aside0.mk ((by rw [hg]; exact Nat.ne_of_lt (blk_lt (g := gb758) (o := .cells #[.slice Ao39 x759000_2.length co39, .slice Ao40 x759001_2.length co40] 25 (0, 0)) (by (with_reducible repeat (first | refine blk_drewN ?_ _ | refine blk_drew ?_ | refine blk_alloc ?_ _)); exact BK758.out)) : gb758 ≠ gb790)); have n13_ := Aside0.mk ((by rw [hg]; exact Nat.ne_of_gt (blk_lt (g := gb758) (o := .cells #[.slice Ao39 x759000_2.length co39, .slice Ao40 x759001_2.length co40] 25 (0, 0)) (by (with_reducible repeat (first | refine blk_drewN ?_ _ | refine blk_drew ?_ | refine blk_alloc ?_ _)); exact BK758.out)) : gb790 ≠ gb758)); have n14_ := Aside0.mk ((by rw [hg]; exact Nat.ne_of_lt (blk_lt (g := gb759) (o := .cells #[.int .i64 a2_0, .int .i64 a2_1, .bool a2_2, .bool a2_3, .int .i64 a2_4, .int .i64 a2_5] 38 (0, 0)) (by (with_reducible repeat (first | refine blk_drewN ?_ _ | refine blk_drew ?_ | refine blk_alloc ?_ _)); exact BK759.out)) : gb759 ≠ gb790)); have n15_ := Aside0.mk ((by rw [hg]; exact Nat.ne_of_gt (blk_lt (g := gb759) (o := .cells #[.int .i64 a2_0, .int .i64 a2_1, .bool a2_2, .bool a2_3, .int .i64 a2_4, .int .i64 a2_5] 38 (0, 0)) (by (with_reducible repeat (first | refine blk_drewN ?_ _ | refine blk_drew ?_ | refine blk_alloc ?_ _)); exact BK759.out)) : gb790 ≠ gb759)); have n16_ := Aside0.mk ((by rw [hg]; exact Nat.ne_of_lt (blk_lt (g := gb772) (o := .cells #[.slice Ao43 t764.length co43, .slice Ao47 t767.length co47] 25 (0, 0)) (by (with_reducible repeat (first | refine blk_drewN ?_ _ | refine blk_drew ?_ | refine blk_alloc ?_ _)); exact BK772.out)) : gb772 ≠ gb790)); have n17_ := Aside0.mk ((by rw [hg]; exact Nat.ne_of_gt (blk_lt (g := gb772) (o := .cells #[.slice Ao43 t764.length co43, .slice Ao47 t767.length co47] 25 (0, 0)) (by (with_reducible repeat (first | refine blk_drewN ?_ _ | refine blk_drew ?_ | refine blk_alloc ?_ _)); exact BK772.out)) : gb790 ≠ gb772)); have n18_ := Aside0.mk ((by rw [hg]; exact Nat.ne_of_lt (blk_lt (g := gb781) (o := .cells #[.int .i64 t774, .int .i64 t775, .bool t776, .bool t777, .int .i64 t778, .int .i64 t779] 38 (0, 0)) (by (with_reducible repeat (first | refine blk_drewN ?_ _ | refine blk_drew ?_ | refine blk_alloc ?_ _)); exact BK781.out)) : gb781 ≠ gb790)); have n19_ := Aside0.mk ((by rw [hg]; exact Nat.ne_of_gt (blk_lt (g := gb781) (o := .cells #[.int .i64 t774, .int .i64 t775, .bool t776, .bool t777, .int .i64 t778, .int .i64 t779] 38 (0, 0)) (by (with_reducible repeat (first | refine blk_drewN ?_ _ | refine blk_drew ?_ | refine blk_alloc ?_ _)); exact BK781.out)) : gb790 ≠ gb781)); clear HO_759000; clear HO_759001; clear HO_773000; clear HO_773001; clear BK758; clear BK759; clear BK772; clear BK781; clear HB; have HO_759000 := n0_; have HO_759001 := n1_; have HO_773000 := n2_; have HO_773001 := n3_; have BK758 := n4_; have BK759 := n5_; have BK772 := n6_; have BK781 := n7_; have HB := n8_; have BK790 := n9_; have GW790 := n10_; have GE790 := n11_; have NB758_790 := n12_; have NB790_758 := n13_; have NB759_790 := n14_; have NB790_759 := n15_; have NB772_790 := n16_; have NB790_772 := n17_; have NB781_790 := n18_; have NB790_781 := n19_; clear n0_ n1_ n2_ n3_ n4_ n5_ n6_ n7_ n8_ n9_ n10_ n11_ n12_ n13_ n14_ n15_ n16_ n17_ n18_ n19_; clear hb hbox hg; have hnb68 := NB790_758.out; have hnc68 := NB758_790.out; have hnb69 := NB790_759.out; have hnc69 := NB759_790.out; have hnb70 := NB790_772.out; have hnc70 := NB772_790.out; have hnb71 := NB790_781.out; have hnc71 := NB781_790.out; have hcz72_0 : w67.cell? ⟨gb790, 0, none⟩ = some (.int .i64 0) := (blk_cell BK790.out 0).trans rfl; have hcz72_1 : w67.cell? ⟨gb790, 1, none⟩ = some (.int .i64 0) := (blk_cell BK790.out 1).trans rfl; have hcz72_2 : w67.cell? ⟨gb790, 2, none⟩ = some (.bool false) := (blk_cell BK790.out 2).trans rfl; have hcz72_3 : w67.cell? ⟨gb790, 3, none⟩ = some (.bool false) := (blk_cell BK790.out 3).trans rfl; have hcz72_4 : w67.cell? ⟨gb790, 4, none⟩ = some (.int .i64 0) := (blk_cell BK790.out 4).trans rfl; have hcz72_5 : w67.cell? ⟨gb790, 5, none⟩ = some (.int .i64 0) := (blk_cell BK790.out 5).trans rfl; have hfz72_0 := blk_frozen BK790.out 0; have hfz72_1 := blk_frozen BK790.out 1; have hfz72_2 := blk_frozen BK790.out 2; have hfz72_3 := blk_frozen BK790.out 3; have hfz72_4 := blk_frozen BK790.out 4; have hfz72_5 := blk_frozen BK790.out 5))
                                go_roundg k4
                                case measure => have := HJ3.out; have := HK2.out; have := HJ34.out; have := HK4.out; omega
                                case rel => exact ⟨(wrap64 (x17_4 + 1)), (by first | rfl | (simp; done) | (simp [*]; done)), H', ⟨by have := HJ3.out; have := HK2.out; have := HJ34.out; have := HK4.out; omega⟩, ⟨by (with_reducible repeat (first | apply Kd.V_alloc | apply Kd.V_drewN | apply Kd.V_drew)); exact Kd.V_mono (Kd.V_far (p := ⟨gb790, 5, none⟩) (Kd.V_far (p := ⟨gb790, 4, none⟩) (Kd.V_far (p := ⟨gb790, 3, none⟩) (Kd.V_far (p := ⟨gb790, 2, none⟩) (Kd.V_far (p := ⟨gb790, 1, none⟩) (Kd.V_far (p := ⟨gb790, 0, none⟩) (Kd.V_mono HO_759000.out (fun k_ hk => (⟨hk, hk.2⟩ : _ ∧ k_ ≠ gb790))) (fun _ hk => hk.2) (.int .i64 t783)) (fun _ hk => hk.2) (.int .i64 t784)) (fun _ hk => hk.2) (.bool t785)) (fun _ hk => hk.2) (.bool t786)) (fun _ hk => hk.2) (.int .i64 t787)) (fun _ hk => hk.2) (.int .i64 t788)) (fun _ hk => ⟨hk.1.1.1, ⟨hk.1.1.2.1, ⟨hk.1.1.2.2.1, ⟨hk.1.1.2.2.2.1, hk.1.1.2.2.2.2⟩⟩⟩⟩)⟩, ⟨by (with_reducible repeat (first | apply Kd.V_alloc | apply Kd.V_drewN | apply Kd.V_drew)); exact Kd.V_mono (Kd.V_far (p := ⟨gb790, 5, none⟩) (Kd.V_far (p := ⟨gb790, 4, none⟩) (Kd.V_far (p := ⟨gb790, 3, none⟩) (Kd.V_far (p := ⟨gb790, 2, none⟩) (Kd.V_far (p := ⟨gb790, 1, none⟩) (Kd.V_far (p := ⟨gb790, 0, none⟩) (Kd.V_mono HO_759001.out (fun k_ hk => (⟨hk, hk.2⟩ : _ ∧ k_ ≠ gb790))) (fun _ hk => hk.2) (.int .i64 t783)) (fun _ hk => hk.2) (.int .i64 t784)) (fun _ hk => hk.2) (.bool t785)) (fun _ hk => hk.2) (.bool t786)) (fun _ hk => hk.2) (.int .i64 t787)) (fun _ hk => hk.2) (.int .i64 t788)) (fun _ hk => ⟨hk.1.1.1, ⟨hk.1.1.2.1, ⟨hk.1.1.2.2.1, ⟨hk.1.1.2.2.2.1, hk.1.1.2.2.2.2⟩⟩⟩⟩)⟩, ⟨by (with_reducible repeat (first | apply Kd.V_alloc | apply Kd.V_drewN | apply Kd.V_drew)); exact Kd.V_mono (Kd.V_far (p := ⟨gb790, 5, none⟩) (Kd.V_far (p := ⟨gb790, 4, none⟩) (Kd.V_far (p := ⟨gb790, 3, none⟩) (Kd.V_far (p := ⟨gb790, 2, none⟩) (Kd.V_far (p := ⟨gb790, 1, none⟩) (Kd.V_far (p := ⟨gb790, 0, none⟩) (Kd.V_mono HO_773000.out (fun k_ hk => (⟨hk, hk.2⟩ : _ ∧ k_ ≠ gb790))) (fun _ hk => hk.2) (.int .i64 t783)) (fun _ hk => hk.2) (.int .i64 t784)) (fun _ hk => hk.2) (.bool t785)) (fun _ hk => hk.2) (.bool t786)) (fun _ hk => hk.2) (.int .i64 t787)) (fun _ hk => hk.2) (.int .i64 t788)) (fun _ hk => ⟨hk.1.1.1, ⟨hk.1.1.2.1, ⟨hk.1.1.2.2.1, ⟨hk.1.1.2.2.2.1, hk.1.1.2.2.2.2⟩⟩⟩⟩)⟩, ⟨by (with_reducible repeat (first | apply Kd.V_alloc | apply Kd.V_drewN | apply Kd.V_drew)); exact Kd.V_mono (Kd.V_far (p := ⟨gb790, 5, none⟩) (Kd.V_far (p := ⟨gb790, 4, none⟩) (Kd.V_far (p := ⟨gb790, 3, none⟩) (Kd.V_far (p := ⟨gb790, 2, none⟩) (Kd.V_far (p := ⟨gb790, 1, none⟩) (Kd.V_far (p := ⟨gb790, 0, none⟩) (Kd.V_mono HO_773001.out (fun k_ hk => (⟨hk, hk.2⟩ : _ ∧ k_ ≠ gb790))) (fun _ hk => hk.2) (.int .i64 t783)) (fun _ hk => hk.2) (.int .i64 t784)) (fun _ hk => hk.2) (.bool t785)) (fun _ hk => hk.2) (.bool t786)) (fun _ hk => hk.2) (.int .i64 t787)) (fun _ hk => hk.2) (.int .i64 t788)) (fun _ hk => ⟨hk.1.1.1, ⟨hk.1.1.2.1, ⟨hk.1.1.2.2.1, ⟨hk.1.1.2.2.2.1, hk.1.1.2.2.2.2⟩⟩⟩⟩)⟩, ⟨by (with_reducible repeat (first | refine blk_drewN ?_ _ | refine blk_drew ?_ | refine blk_alloc ?_ _)); refine blk_far ?_ NB758_790.out _; (with_reducible repeat (first | refine blk_drewN ?_ _ | refine blk_drew ?_ | refine blk_alloc ?_ _)); refine blk_far ?_ NB758_790.out _; (with_reducible repeat (first | refine blk_drewN ?_ _ | refine blk_drew ?_ | refine blk_alloc ?_ _)); refine blk_far ?_ NB758_790.out _; (with_reducible repeat (first | refine blk_drewN ?_ _ | refine blk_drew ?_ | refine blk_alloc ?_ _)); refine blk_far ?_ NB758_790.out _; (with_reducible repeat (first | refine blk_drewN ?_ _ | refine blk_drew ?_ | refine blk_alloc ?_ _)); refine blk_far ?_ NB758_790.out _; (with_reducible repeat (first | refine blk_drewN ?_ _ | refine blk_drew ?_ | refine blk_alloc ?_ _)); refine blk_far ?_ NB758_790.out _; (with_reducible repeat (first | refine blk_drewN ?_ _ | refine blk_drew ?_ | refine blk_alloc ?_ _)); exact BK758.out⟩, ⟨by (with_reducible repeat (first | refine blk_drewN ?_ _ | refine blk_drew ?_ | refine blk_alloc ?_ _)); refine blk_far ?_ NB759_790.out _; (with_reducible repeat (first | refine blk_drewN ?_ _ | refine blk_drew ?_ | refine blk_alloc ?_ _)); refine blk_far ?_ NB759_790.out _; (with_reducible repeat (first | refine blk_drewN ?_ _ | refine blk_drew ?_ | refine blk_alloc ?_ _)); refine blk_far ?_ NB759_790.out _; (with_reducible repeat (first | refine blk_drewN ?_ _ | refine blk_drew ?_ | refine blk_alloc ?_ _)); refine blk_far ?_ NB759_790.out _; (with_reducible repeat (first | refine blk_drewN ?_ _ | refine blk_drew ?_ | refine blk_alloc ?_ _)); refine blk_far ?_ NB759_790.out _; (with_reducible repeat (first | refine blk_drewN ?_ _ | refine blk_drew ?_ | refine blk_alloc ?_ _)); refine blk_far ?_ NB759_790.out _; (with_reducible repeat (first | refine blk_drewN ?_ _ | refine blk_drew ?_ | refine blk_alloc ?_ _)); exact BK759.out⟩, ⟨by (with_reducible repeat (first | refine blk_drewN ?_ _ | refine blk_drew ?_ | refine blk_alloc ?_ _)); refine blk_far ?_ NB772_790.out _; (with_reducible repeat (first | refine blk_drewN ?_ _ | refine blk_drew ?_ | refine blk_alloc ?_ _)); refine blk_far ?_ NB772_790.out _; (with_reducible repeat (first | refine blk_drewN ?_ _ | refine blk_drew ?_ | refine blk_alloc ?_ _)); refine blk_far ?_ NB772_790.out _; (with_reducible repeat (first | refine blk_drewN ?_ _ | refine blk_drew ?_ | refine blk_alloc ?_ _)); refine blk_far ?_ NB772_790.out _; (with_reducible repeat (first | refine blk_drewN ?_ _ | refine blk_drew ?_ | refine blk_alloc ?_ _)); refine blk_far ?_ NB772_790.out _; (with_reducible repeat (first | refine blk_drewN ?_ _ | refine blk_drew ?_ | refine blk_alloc ?_ _)); refine blk_far ?_ NB772_790.out _; (with_reducible repeat (first | refine blk_drewN ?_ _ | refine blk_drew ?_ | refine blk_alloc ?_ _)); exact BK772.out⟩, ⟨by (with_reducible repeat (first | refine blk_drewN ?_ _ | refine blk_drew ?_ | refine blk_alloc ?_ _)); refine blk_far ?_ NB781_790.out _; (with_reducible repeat (first | refine blk_drewN ?_ _ | refine blk_drew ?_ | refine blk_alloc ?_ _)); refine blk_far ?_ NB781_790.out _; (with_reducible repeat (first | refine blk_drewN ?_ _ | refine blk_drew ?_ | refine blk_alloc ?_ _)); refine blk_far ?_ NB781_790.out _; (with_reducible repeat (first | refine blk_drewN ?_ _ | refine blk_drew ?_ | refine blk_alloc ?_ _)); refine blk_far ?_ NB781_790.out _; (with_reducible repeat (first | refine blk_drewN ?_ _ | refine blk_drew ?_ | refine blk_alloc ?_ _)); refine blk_far ?_ NB781_790.out _; (with_reducible repeat (first | refine blk_drewN ?_ _ | refine blk_drew ?_ | refine blk_alloc ?_ _)); refine blk_far ?_ NB781_790.out _; (with_reducible repeat (first | refine blk_drewN ?_ _ | refine blk_drew ?_ | refine blk_alloc ?_ _)); exact BK781.out⟩, ⟨by repeat (first | (with_reducible first | exact HB.out | apply below_alloc | apply pw_below_drewN | apply below_drew1 | refine below_set ?_ GE758.out | refine below_set ?_ GE759.out | refine below_set ?_ GE772.out | refine below_set ?_ GE781.out | refine below_set ?_ GE790.out) | exact HB.out)⟩⟩
                              · replace c61 := Bool.eq_false_iff.mpr c61
                                subst c61
                                have H1 : (none) = some r := by rw [if_neg (show ¬ (false = true) by decide)] at H; exact H
                                clear H
                                have H := H1
                                clear H1
                                exact absurd H (by simp)
                            · rw [if_neg c59] at H
                              have c59b0 : decide (x17_4 < t770) = false := decide_eq_false c59
                              clear c59
                              have H' := Aside0.mk H
                              clear H
                              have hnb73 := NB772_758.out
                              have hnc73 := NB758_772.out
                              have hnb74 := NB772_759.out
                              have hnc74 := NB759_772.out
                              have hnb75 := NB772_781.out
                              have hnc75 := NB781_772.out
                              have hcz76_0 : wr.cell? ⟨gb772, 0, none⟩ = some (.slice Ao43 t764.length co43) := (blk_cell BK772.out 0).trans rfl
                              have hcz76_1 : wr.cell? ⟨gb772, 1, none⟩ = some (.slice Ao47 t767.length co47) := (blk_cell BK772.out 1).trans rfl
                              have hfz76_0 := blk_frozen BK772.out 0
                              have hfz76_1 := blk_frozen BK772.out 1
                              have hnb77 := NB758_759.out
                              have hnc77 := NB759_758.out
                              have hnb78 := NB758_781.out
                              have hnc78 := NB781_758.out
                              have hcz79_0 : wr.cell? ⟨gb758, 0, none⟩ = some (.slice Ao39 x759000_2.length co39) := (blk_cell BK758.out 0).trans rfl
                              have hcz79_1 : wr.cell? ⟨gb758, 1, none⟩ = some (.slice Ao40 x759001_2.length co40) := (blk_cell BK758.out 1).trans rfl
                              have hfz79_0 := blk_frozen BK758.out 0
                              have hfz79_1 := blk_frozen BK758.out 1
                              go_wp2
                              go_roundg k4
                              case measure => have := HJ3.out; have := HK2.out; have := HJ34.out; have := HK4.out; omega
                              case rel => exact ⟨(wrap64 (x8_2 + 1)), (t770), (wrap64 (x10_2 + 1)), (t764), (t767), (.slice Ao43 t764.length co43), (.slice Ao47 t767.length co47), (by first | rfl | (simp; done) | (simp [*]; done)), (by first | rfl | (simp; done) | (simp [*]; done)), (by first | rfl | (simp; done) | (simp [*]; done)), H', ⟨by have := HJ3.out; have := HK2.out; have := HJ34.out; have := HK4.out; omega⟩, ⟨by (with_reducible repeat (first | apply Kd.V_alloc | apply Kd.V_drewN | apply Kd.V_drew)); exact Kd.V_mono (Kd.V_far (p := ⟨gb758, 1, none⟩) (Kd.V_far (p := ⟨gb758, 0, none⟩) (Kd.V_mono HO_773000.out (fun k_ hk => (⟨hk, hk.2.1⟩ : _ ∧ k_ ≠ gb758))) (fun _ hk => hk.2) (.slice Ao43 t764.length co43)) (fun _ hk => hk.2) (.slice Ao47 t767.length co47)) (fun _ hk => ⟨hk.1.1, ⟨hk.1.2.1, hk.1.2.2.1⟩⟩)⟩, ⟨by (with_reducible repeat (first | apply Kd.V_alloc | apply Kd.V_drewN | apply Kd.V_drew)); exact Kd.V_mono (Kd.V_far (p := ⟨gb758, 1, none⟩) (Kd.V_far (p := ⟨gb758, 0, none⟩) (Kd.V_mono HO_773001.out (fun k_ hk => (⟨hk, hk.2.1⟩ : _ ∧ k_ ≠ gb758))) (fun _ hk => hk.2) (.slice Ao43 t764.length co43)) (fun _ hk => hk.2) (.slice Ao47 t767.length co47)) (fun _ hk => ⟨hk.1.1, ⟨hk.1.2.1, hk.1.2.2.1⟩⟩)⟩, ⟨by (with_reducible repeat (first | refine blk_drewN ?_ _ | refine blk_drew ?_ | refine blk_alloc ?_ _)); refine blk_put (cs := #[.slice Ao43 t764.length co43, .slice Ao40 x759001_2.length co40]) ?_ 1 _ rfl; (with_reducible repeat (first | refine blk_drewN ?_ _ | refine blk_drew ?_ | refine blk_alloc ?_ _)); refine blk_put (cs := #[.slice Ao39 x759000_2.length co39, .slice Ao40 x759001_2.length co40]) ?_ 0 _ rfl; (with_reducible repeat (first | refine blk_drewN ?_ _ | refine blk_drew ?_ | refine blk_alloc ?_ _)); exact BK758.out⟩, ⟨by (with_reducible repeat (first | refine blk_drewN ?_ _ | refine blk_drew ?_ | refine blk_alloc ?_ _)); refine blk_far ?_ NB759_758.out _; (with_reducible repeat (first | refine blk_drewN ?_ _ | refine blk_drew ?_ | refine blk_alloc ?_ _)); refine blk_far ?_ NB759_758.out _; (with_reducible repeat (first | refine blk_drewN ?_ _ | refine blk_drew ?_ | refine blk_alloc ?_ _)); exact BK759.out⟩, ⟨by repeat (first | (with_reducible first | exact HB.out | apply below_alloc | apply pw_below_drewN | apply below_drew1 | refine below_set ?_ GE758.out | refine below_set ?_ GE759.out | refine below_set ?_ GE772.out | refine below_set ?_ GE781.out) | exact HB.out)⟩⟩
                · rw [if_neg c33] at H
                  have c33b0 : (t771 == 0) = false := beq_eq_false_iff_ne.mpr c33
                  have c33b1 : (t771 != 0) = true := bne_iff_ne.mpr c33
                  by_cases c80 : t771 = 13
                  · rw [if_pos c80] at H
                    have c80b0 : (t771 == 13) = true := beq_iff_eq.mpr c80
                    have c80b1 : (t771 != 13) = false := bne_eq_false_iff_eq.mpr c80
                    clear c80
                    obtain rfl := Option.some.inj H
                    have hnb81 := NB758_759.out
                    have hnc81 := NB759_758.out
                    have hcz82_0 : wr.cell? ⟨gb758, 0, none⟩ = some (u759000) := (blk_cell BK758.out 0).trans rfl
                    have hcz82_1 : wr.cell? ⟨gb758, 1, none⟩ = some (u759001) := (blk_cell BK758.out 1).trans rfl
                    have hfz82_0 := blk_frozen BK758.out 0
                    have hfz82_1 := blk_frozen BK758.out 1
                    have hcz83_0 : wr.cell? ⟨gb759, 0, none⟩ = some (.int .i64 a2_0) := (blk_cell BK759.out 0).trans rfl
                    have hcz83_1 : wr.cell? ⟨gb759, 1, none⟩ = some (.int .i64 a2_1) := (blk_cell BK759.out 1).trans rfl
                    have hcz83_2 : wr.cell? ⟨gb759, 2, none⟩ = some (.bool a2_2) := (blk_cell BK759.out 2).trans rfl
                    have hcz83_3 : wr.cell? ⟨gb759, 3, none⟩ = some (.bool a2_3) := (blk_cell BK759.out 3).trans rfl
                    have hcz83_4 : wr.cell? ⟨gb759, 4, none⟩ = some (.int .i64 a2_4) := (blk_cell BK759.out 4).trans rfl
                    have hcz83_5 : wr.cell? ⟨gb759, 5, none⟩ = some (.int .i64 a2_5) := (blk_cell BK759.out 5).trans rfl
                    have hfz83_0 := blk_frozen BK759.out 0
                    have hfz83_1 := blk_frozen BK759.out 1
                    have hfz83_2 := blk_frozen BK759.out 2
                    have hfz83_3 := blk_frozen BK759.out 3
                    have hfz83_4 := blk_frozen BK759.out 4
                    have hfz83_5 := blk_frozen BK759.out 5
                    obtain ⟨Ao84, co84, eo84⟩ := Kd.V_slice HO_759000.out
                    subst eo84
                    obtain ⟨Ao85, co85, eo85⟩ := Kd.V_slice HO_759001.out
                    subst eo85
                    go_wp2_with (first | ((with_reducible refine gate_callee (f := 19) rfl ?_); refine goesL_ (some 52) rfl rfl Try.func19 (by kernel_rfl) rfl #[.agg #[.slice Ao84 x759000_2.length co84, .slice Ao85 x759001_2.length co85], .int .i64 (Int.tmod (wrap64 (a1)) (l0_1.length : Int)), .agg #[.int .i64 a2_0, .int .i64 a2_1, .bool a2_2, .bool a2_3, .int .i64 a2_4, .int .i64 a2_5]] rfl (by (try simp only [List.map_toArray, List.map_cons, List.map_nil]); first | done | rfl | (simp only [List.length_drop, List.length_take]; rfl)) ?_; (with_reducible refine (handle_Open.calls (fun k_ => (((P0_0_ k_ ∨ P0_1_ k_) ∨ w.heap.size ≤ k_) ∧ (k_ ≠ gb758 ∧ k_ ≠ gb759))) _ _ x759000_2 (fun k_ => (((P0_0_ k_ ∨ P0_1_ k_) ∨ w.heap.size ≤ k_) ∧ (k_ ≠ gb758 ∧ k_ ≠ gb759))) _ _ x759001_2 (Int.tmod (wrap64 (a1)) (l0_1.length : Int)) a2_0 a2_1 a2_2 a2_3 a2_4 a2_5 t764 t767 t770 t771 _ ?side1 ?side2 A32.out).mono ?_); (case side1 => exact HO_759000.out); (case side2 => exact HO_759001.out); rintro e w86 ⟨v765, v768, rfl, ho0, ho1, hb⟩; refine ⟨_, rfl, ?_⟩; have n0_ := Aside0.mk (Kd.V_below (by (with_reducible repeat (first | apply Kd.V_alloc | apply Kd.V_drewN | apply Kd.V_drew)); exact HO_759000.out) hb); have n1_ := Aside0.mk (Kd.V_below (by (with_reducible repeat (first | apply Kd.V_alloc | apply Kd.V_drewN | apply Kd.V_drew)); exact HO_759001.out) hb); have n2_ := Aside0.mk (Kd.V_lower (Kd.V_mono (ok' := fun k_ => ((P0_0_ k_ ∨ P0_1_ k_) ∨ w.heap.size ≤ k_) ∧ k_ ≠ gb758 ∧ k_ ≠ gb759) ho0 (fun k_ hk_ => ⟨Or.elim hk_ (fun hs_ => Or.elim hs_ (fun hs_ => hs_.1) (fun hs_ => hs_.1)) (fun hn_ => (.inr (Nat.le_trans (below_size (by repeat (first | (with_reducible first | exact HB.out | apply below_alloc | apply pw_below_drewN | apply below_drew1 | refine below_set ?_ GE758.out | refine below_set ?_ GE759.out) | exact HB.out))) hn_))), Or.elim hk_ (fun hs_ => Or.elim hs_ (fun hs_ => hs_.2.1) (fun hs_ => hs_.2.1)) (fun hn_ => (Kd.freshB (g := gb758) (o := .cells #[.slice Ao84 x759000_2.length co84, .slice Ao85 x759001_2.length co85] 25 (0, 0)) (by (with_reducible repeat (first | refine blk_drewN ?_ _ | refine blk_drew ?_ | refine blk_alloc ?_ _)); exact BK758.out) k_ hn_)), Or.elim hk_ (fun hs_ => Or.elim hs_ (fun hs_ => hs_.2.2) (fun hs_ => hs_.2.2)) (fun hn_ => (Kd.freshB (g := gb759) (o := .cells #[.int .i64 a2_0, .int .i64 a2_1, .bool a2_2, .bool a2_3, .int .i64 a2_4, .int .i64 a2_5] 38 (0, 0)) (by (with_reducible repeat (first | refine blk_drewN ?_ _ | refine blk_drew ?_ | refine blk_alloc ?_ _)); exact BK759.out) k_ hn_))⟩)) (below_size (by repeat (first | (with_reducible first | exact HB.out | apply below_alloc | apply pw_below_drewN | apply below_drew1 | refine below_set ?_ GE758.out | refine below_set ?_ GE759.out) | exact HB.out)))); have n3_ := Aside0.mk (Kd.V_lower (Kd.V_mono (ok' := fun k_ => ((P0_0_ k_ ∨ P0_1_ k_) ∨ w.heap.size ≤ k_) ∧ k_ ≠ gb758 ∧ k_ ≠ gb759) ho1 (fun k_ hk_ => ⟨Or.elim hk_ (fun hs_ => Or.elim hs_ (fun hs_ => hs_.1) (fun hs_ => hs_.1)) (fun hn_ => (.inr (Nat.le_trans (below_size (by repeat (first | (with_reducible first | exact HB.out | apply below_alloc | apply pw_below_drewN | apply below_drew1 | refine below_set ?_ GE758.out | refine below_set ?_ GE759.out) | exact HB.out))) hn_))), Or.elim hk_ (fun hs_ => Or.elim hs_ (fun hs_ => hs_.2.1) (fun hs_ => hs_.2.1)) (fun hn_ => (Kd.freshB (g := gb758) (o := .cells #[.slice Ao84 x759000_2.length co84, .slice Ao85 x759001_2.length co85] 25 (0, 0)) (by (with_reducible repeat (first | refine blk_drewN ?_ _ | refine blk_drew ?_ | refine blk_alloc ?_ _)); exact BK758.out) k_ hn_)), Or.elim hk_ (fun hs_ => Or.elim hs_ (fun hs_ => hs_.2.2) (fun hs_ => hs_.2.2)) (fun hn_ => (Kd.freshB (g := gb759) (o := .cells #[.int .i64 a2_0, .int .i64 a2_1, .bool a2_2, .bool a2_3, .int .i64 a2_4, .int .i64 a2_5] 38 (0, 0)) (by (with_reducible repeat (first | refine blk_drewN ?_ _ | refine blk_drew ?_ | refine blk_alloc ?_ _)); exact BK759.out) k_ hn_))⟩)) (below_size (by repeat (first | (with_reducible first | exact HB.out | apply below_alloc | apply pw_below_drewN | apply below_drew1 | refine below_set ?_ GE758.out | refine below_set ?_ GE759.out) | exact HB.out)))); have n4_ := Aside0.mk (blk_below (g := gb758) (o := .cells #[.slice Ao84 x759000_2.length co84, .slice Ao85 x759001_2.length co85] 25 (0, 0)) (by (with_reducible repeat (first | refine blk_drewN ?_ _ | refine blk_drew ?_ | refine blk_alloc ?_ _)); exact BK758.out) hb); have n5_ := Aside0.mk (blk_below (g := gb759) (o := .cells #[.int .i64 a2_0, .int .i64 a2_1, .bool a2_2, .bool a2_3, .int .i64 a2_4, .int .i64 a2_5] 38 (0, 0)) (by (with_reducible repeat (first | refine blk_drewN ?_ _ | refine blk_drew ?_ | refine blk_alloc ?_ _)); exact BK759.out) hb); have n6_ := Aside0.mk (below_step (by repeat (first | (with_reducible first | exact HB.out | apply below_alloc | apply pw_below_drewN | apply below_drew1 | refine below_set ?_ GE758.out | refine below_set ?_ GE759.out) | exact HB.out)) hb); clear HO_759000; clear HO_759001; clear BK758; clear BK759; clear HB; have HO_759000 := n0_; have HO_759001 := n1_; have HO766 := n2_; have HO769 := n3_; have BK758 := n4_; have BK759 := n5_; have HB := n6_; clear n0_ n1_ n2_ n3_ n4_ n5_ n6_; (try clear hb); (try clear hb2); (try clear hk); (try clear hi); (try clear ho0); (try clear ho1)) | ((with_reducible refine gate_dst (N := 11) rfl ?_); (try (refine gate_guard (by rfl) ?_; dsimp only)); refine box_event ?hg (N := 11) ?hd (cs := #[.slice none 0 0, .slice none 0 0]) (t := 25) ?hr ?_; (case hd => rfl); (case hg => rfl); (case hr => first | (go_simp; done) | (go_simp; rfl)); intro gb772 hg w87 hbox hb; have n0_ := Aside0.mk (Kd.V_below (Kd.V_elderB (by (with_reducible repeat (first | apply Kd.V_alloc | apply Kd.V_drewN | apply Kd.V_drew)); exact HO_759000.out) gb772 (Nat.le_of_eq hg.symm)) hb); have n1_ := Aside0.mk (Kd.V_below (Kd.V_elderB (by (with_reducible repeat (first | apply Kd.V_alloc | apply Kd.V_drewN | apply Kd.V_drew)); exact HO_759001.out) gb772 (Nat.le_of_eq hg.symm)) hb); have n2_ := Aside0.mk (Kd.V_below (Kd.V_elderB (by (with_reducible repeat (first | apply Kd.V_alloc | apply Kd.V_drewN | apply Kd.V_drew)); exact HO766.out) gb772 (Nat.le_of_eq hg.symm)) hb); have n3_ := Aside0.mk (Kd.V_below (Kd.V_elderB (by (with_reducible repeat (first | apply Kd.V_alloc | apply Kd.V_drewN | apply Kd.V_drew)); exact HO769.out) gb772 (Nat.le_of_eq hg.symm)) hb); have n4_ := Aside0.mk (blk_below (g := gb758) (o := .cells #[.slice Ao84 x759000_2.length co84, .slice Ao85 x759001_2.length co85] 25 (0, 0)) (by (with_reducible repeat (first | refine blk_drewN ?_ _ | refine blk_drew ?_ | refine blk_alloc ?_ _)); exact BK758.out) hb); have n5_ := Aside0.mk (blk_below (g := gb759) (o := .cells #[.int .i64 a2_0, .int .i64 a2_1, .bool a2_2, .bool a2_3, .int .i64 a2_4, .int .i64 a2_5] 38 (0, 0)) (by (with_reducible repeat (first | refine blk_drewN ?_ _ | refine blk_drew ?_ | refine blk_alloc ?_ _)); exact BK759.out) hb); have n6_ := Aside0.mk (below_step (by repeat (first | (with_reducible first | exact HB.out | apply below_alloc | apply pw_below_drewN | apply below_drew1 | refine below_set ?_ GE758.out | refine below_set ?_ GE759.out) | exact HB.out)) hb); have n7_ := Aside0.mk (hbox); have n8_ := Aside0.mk ((by rw [hg]; exact (below_size (by repeat (first | (with_reducible first | exact HB.out | apply below_alloc | apply pw_below_drewN | apply below_drew1 | refine below_set ?_ GE758.out | refine below_set ?_ GE759.out) | exact HB.out))) : w.heap.size ≤ gb772)); have n9_ := Aside0.mk ((by rw [hg]; exact (below_size (by repeat (first | (with_reducible first | exact HB.out | apply below_alloc | apply pw_below_drewN | apply below_drew1 | refine below_set ?_ GE758.out | refine below_set ?_ GE759.out) | exact HB.out))) : w.heap.size ≤ gb772)); have n10_ := Aside0.mk ((by rw [hg]; exact Nat.ne_of_lt (blk_lt (g := gb758) (o := .cells #[.slice Ao84 x759000_2.length co84, .slice Ao85 x759001_2.length co85] 25 (0, 0)) (by (with_reducible repeat (first | refine blk_drewN ?_ _ | refine blk_drew ?_ | refine blk_alloc ?_ _)); exact BK758.out)) : gb758 ≠ gb772)); have n11_ := Aside0.mk ((by rw [hg]; exact Nat.ne_of_gt (blk_lt (g := gb758) (o := .cells #[.slice Ao84 x759000_2.length co84, .slice Ao85 x759001_2.length co85] 25 (0, 0)) (by (with_reducible repeat (first | refine blk_drewN ?_ _ | refine blk_drew ?_ | refine blk_alloc ?_ _)); exact BK758.out)) : gb772 ≠ gb758)); have n12_ := Aside0.mk ((by rw [hg]; exact Nat.ne_of_lt (blk_lt (g := gb759) (o := .cells #[.int .i64 a2_0, .int .i64 a2_1, .bool a2_2, .bool a2_3, .int .i64 a2_4, .int .i64 a2_5] 38 (0, 0)) (by (with_reducible repeat (first | refine blk_drewN ?_ _ | refine blk_drew ?_ | refine blk_alloc ?_ _)); exact BK759.out)) : gb759 ≠ gb772)); have n13_ := Aside0.mk ((by rw [hg]; exact Nat.ne_of_gt (blk_lt (g := gb759) (o := .cells #[.int .i64 a2_0, .int .i64 a2_1, .bool a2_2, .bool a2_3, .int .i64 a2_4, .int .i64 a2_5] 38 (0, 0)) (by (with_reducible repeat (first | refine blk_drewN ?_ _ | refine blk_drew ?_ | refine blk_alloc ?_ _)); exact BK759.out)) : gb772 ≠ gb759)); clear HO_759000; clear HO_759001; clear HO766; clear HO769; clear BK758; clear BK759; clear HB; have HO_759000 := n0_; have HO_759001 := n1_; have HO766 := n2_; have HO769 := n3_; have BK758 := n4_; have BK759 := n5_; have HB := n6_; have BK772 := n7_; have GW772 := n8_; have GE772 := n9_; have NB758_772 := n10_; have NB772_758 := n11_; have NB759_772 := n12_; have NB772_759 := n13_; clear n0_ n1_ n2_ n3_ n4_ n5_ n6_ n7_ n8_ n9_ n10_ n11_ n12_ n13_; clear hb hbox hg; obtain ⟨Ao88, co88, eo88⟩ := Kd.V_slice HO766.out; subst eo88; have hnb89 := NB772_758.out; have hnc89 := NB758_772.out; have hnb90 := NB772_759.out; have hnc90 := NB759_772.out; have hcz91_0 : w87.cell? ⟨gb772, 0, none⟩ = some (.slice none 0 0) := (blk_cell BK772.out 0).trans rfl; have hcz91_1 : w87.cell? ⟨gb772, 1, none⟩ = some (.slice none 0 0) := (blk_cell BK772.out 1).trans rfl; have hfz91_0 := blk_frozen BK772.out 0; have hfz91_1 := blk_frozen BK772.out 1; obtain ⟨Ao92, co92, eo92⟩ := Kd.V_slice HO769.out; subst eo92))
                    go_ret
                    exact ⟨by first | rfl | (simp [errW_none, errW_some] <;> rfl) | (simp [*, errW_none, errW_some] <;> rfl), by repeat (first | (with_reducible first | exact HB.out | apply below_alloc | apply pw_below_drewN | apply below_drew1 | refine below_set ?_ GE758.out | refine below_set ?_ GE759.out | refine below_set ?_ GE772.out) | exact HB.out)⟩
                  · rw [if_neg c80] at H
                    exact absurd H (by simp)
              · rw [if_neg c31] at H
                exact absurd H (by simp)

end Go.Proofs.Ytkecfdljodiifaa.P
