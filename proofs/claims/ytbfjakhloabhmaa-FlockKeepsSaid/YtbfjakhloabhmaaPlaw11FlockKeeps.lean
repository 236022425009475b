-- Printed by a program of this session (inject.py) over the kit's print, with functions that were proved by hand in their places.
import Derived.Test.YtbfjakhloabhmaaPK
import Derived.Test.YtbfjakhloabhmaaPEq44
import Derived.Test.YtbfjakhloabhmaaPlaw11fine
import Derived.Test.YtbfjakhloabhmaaPflockLock
import Derived.Test.YtbfjakhloabhmaaPlaw11shown
namespace Go.Proofs.Ytbfjakhloabhmaa.P
open Go.RowKit Go.Proofs.YtbfjakhloabhmaaW.PrintWords Go.Proofs.YtbfjakhloabhmaaW.PrintLast Go.Proofs.YtbfjakhloabhmaaW.PrintMore
attribute [local go_sem] max2_int min2_int max_two min_two max_three min_three max_four min_four   -- for this text's walks alone
set_option linter.unusedVariables false
set_option linter.unusedSimpArgs false

attribute [local go_sem high] eqA44
/-! ### flagstonelaw11_FlockKeeps: function 8 -/
mutual
def flagstonelaw11_FlockKeeps.j0 : Nat → Int → Int → Bool → List (S44) → List (List Int) → Option (Bool)
  | 0, _, _, _, _, _ => none
  | k + 1, x1, x2, x17, x524000, x524001 => if x17 = true then ((flagstonelaw11_shown.f k).bind fun t526 => (some t526)) else ((flock_Lock.f x524000 x524001 x1 x2).bind fun bt527 => (if (bt527.1.length : Int) = (x524000.length : Int) then (flagstonelaw11_FlockKeeps.l0 k x1 0 x524000 x524001 bt527.1 bt527.2.1) else (none)))
def flagstonelaw11_FlockKeeps.l0 : Nat → Int → Int → List (S44) → List (List Int) → List (S44) → List (List Int) → Option (Bool)
  | 0, _, _, _, _, _, _ => none
  | k + 1, x1, x9, x524000, x524001, x535000, x535001 => if x9 < (x524000.length : Int) then (if 0 ≤ x9 then (if x9 < (x535000.length : Int) then (if x9 = x1 then (flagstonelaw11_FlockKeeps.j2 k x1 x9 x524000 x524001 x535000 x535001 ((rd_T44 x535000 x9).f0) ((rd_T44 x535000 x9).f1) ((rd_T44 x535000 x9).f2) ((rd_T44 x535000 x9).f3) ((rd_T44 x535000 x9).f4) ((rd_T44 x524000 x9).f5)) else (flagstonelaw11_FlockKeeps.j2 k x1 x9 x524000 x524001 x535000 x535001 ((rd_T44 x535000 x9).f0) ((rd_T44 x535000 x9).f1) ((rd_T44 x535000 x9).f2) ((rd_T44 x535000 x9).f3) ((rd_T44 x535000 x9).f4) ((rd_T44 x535000 x9).f5))) else (none)) else (none)) else (some true)
def flagstonelaw11_FlockKeeps.j2 : Nat → Int → Int → List (S44) → List (List Int) → List (S44) → List (List Int) → Int → Int → Bool → Bool → Int → Int → Option (Bool)
  | 0, _, _, _, _, _, _, _, _, _, _, _, _ => none
  | k + 1, x1, x9, x524000, x524001, x535000, x535001, x537000, x537001, x537002, x537003, x537004, x537005 => if 0 ≤ x9 then (if x9 < (x524000.length : Int) then (if (!(x537000 == ((rd_T44 x524000 x9).f0)) || (!(x537001 == ((rd_T44 x524000 x9).f1)) || (!(x537002 == ((rd_T44 x524000 x9).f2)) || (!(x537003 == ((rd_T44 x524000 x9).f3)) || (!(x537004 == ((rd_T44 x524000 x9).f4)) || (!(x537005 == ((rd_T44 x524000 x9).f5)))))))) = true then (none) else (flagstonelaw11_FlockKeeps.l0 k x1 (wrap64 (x9 + 1)) x524000 x524001 x535000 x535001)) else (none)) else (none)
end
def flagstonelaw11_FlockKeeps.f (k : Nat) (l0_0 : List (S44)) (l0_1 : List (List Int)) (a1 : Int) (a2 : Int) : Option (Bool) := (flagstonelaw11_fine.f k l0_0 l0_1).bind fun t524 => (if t524 = true then ((flagstonelaw11_shown.f k).bind fun t525 => (flagstonelaw11_FlockKeeps.j0 k a1 a2 (!t525) l0_0 l0_1)) else (flagstonelaw11_FlockKeeps.j0 k a1 a2 true l0_0 l0_1))
theorem flagstonelaw11_FlockKeeps.mono_l : ∀ k, (∀ y0 y1 y2 y3 y4, LeO (flagstonelaw11_FlockKeeps.j0 k y0 y1 y2 y3 y4) (flagstonelaw11_FlockKeeps.j0 (k + 1) y0 y1 y2 y3 y4)) ∧ (∀ y0 y1 y2 y3 y4 y5, LeO (flagstonelaw11_FlockKeeps.l0 k y0 y1 y2 y3 y4 y5) (flagstonelaw11_FlockKeeps.l0 (k + 1) y0 y1 y2 y3 y4 y5)) ∧ (∀ y0 y1 y2 y3 y4 y5 y6 y7 y8 y9 y10 y11, LeO (flagstonelaw11_FlockKeeps.j2 k y0 y1 y2 y3 y4 y5 y6 y7 y8 y9 y10 y11) (flagstonelaw11_FlockKeeps.j2 (k + 1) y0 y1 y2 y3 y4 y5 y6 y7 y8 y9 y10 y11))
  | 0 => ⟨fun _ _ _ _ _ r h => by simp [flagstonelaw11_FlockKeeps.j0] at h, fun _ _ _ _ _ _ r h => by simp [flagstonelaw11_FlockKeeps.l0] at h, fun _ _ _ _ _ _ _ _ _ _ _ _ r h => by simp [flagstonelaw11_FlockKeeps.j2] at h⟩
  | k + 1 => by
    obtain ⟨ih0, ih1, ih2⟩ := flagstonelaw11_FlockKeeps.mono_l k
    refine ⟨?_, ?_, ?_⟩
    · intro y0 y1 y2 y3 y4
      unfold flagstonelaw11_FlockKeeps.j0
      repeat' first
      | (with_reducible exact ih0 _ _ _ _ _)
      | (with_reducible exact ih1 _ _ _ _ _ _)
      | (with_reducible exact ih2 _ _ _ _ _ _ _ _ _ _ _ _)
      | (with_reducible exact flagstonelaw11_fine.mono _ _ _)
      | (with_reducible exact flagstonelaw11_shown.mono _)
      | (with_reducible exact LeO.refl _)
      | (with_reducible exact LeO.none _)
      | (with_reducible refine LeO.ite ?_ ?_)
      | (with_reducible refine LeO.bind ?_ (fun _ => ?_))
      | exact ih0 _ _ _ _ _
      | exact ih1 _ _ _ _ _ _
      | exact ih2 _ _ _ _ _ _ _ _ _ _ _ _
      | exact flagstonelaw11_fine.mono _ _ _
      | exact flagstonelaw11_shown.mono _
      | exact LeO.none _
      | refine LeO.ite ?_ ?_
      | refine LeO.bind ?_ (fun _ => ?_)
    · intro y0 y1 y2 y3 y4 y5
      unfold flagstonelaw11_FlockKeeps.l0
      repeat' first
      | (with_reducible exact ih0 _ _ _ _ _)
      | (with_reducible exact ih1 _ _ _ _ _ _)
      | (with_reducible exact ih2 _ _ _ _ _ _ _ _ _ _ _ _)
      | (with_reducible exact flagstonelaw11_fine.mono _ _ _)
      | (with_reducible exact flagstonelaw11_shown.mono _)
      | (with_reducible exact LeO.refl _)
      | (with_reducible exact LeO.none _)
      | (with_reducible refine LeO.ite ?_ ?_)
      | (with_reducible refine LeO.bind ?_ (fun _ => ?_))
      | exact ih0 _ _ _ _ _
      | exact ih1 _ _ _ _ _ _
      | exact ih2 _ _ _ _ _ _ _ _ _ _ _ _
      | exact flagstonelaw11_fine.mono _ _ _
      | exact flagstonelaw11_shown.mono _
      | exact LeO.none _
      | refine LeO.ite ?_ ?_
      | refine LeO.bind ?_ (fun _ => ?_)
    · intro y0 y1 y2 y3 y4 y5 y6 y7 y8 y9 y10 y11
      unfold flagstonelaw11_FlockKeeps.j2
      repeat' first
      | (with_reducible exact ih0 _ _ _ _ _)
      | (with_reducible exact ih1 _ _ _ _ _ _)
      | (with_reducible exact ih2 _ _ _ _ _ _ _ _ _ _ _ _)
      | (with_reducible exact flagstonelaw11_fine.mono _ _ _)
      | (with_reducible exact flagstonelaw11_shown.mono _)
      | (with_reducible exact LeO.refl _)
      | (with_reducible exact LeO.none _)
      | (with_reducible refine LeO.ite ?_ ?_)
      | (with_reducible refine LeO.bind ?_ (fun _ => ?_))
      | exact ih0 _ _ _ _ _
      | exact ih1 _ _ _ _ _ _
      | exact ih2 _ _ _ _ _ _ _ _ _ _ _ _
      | exact flagstonelaw11_fine.mono _ _ _
      | exact flagstonelaw11_shown.mono _
      | exact LeO.none _
      | refine LeO.ite ?_ ?_
      | refine LeO.bind ?_ (fun _ => ?_)
theorem flagstonelaw11_FlockKeeps.mono : ∀ a0 a1 a2 a3 k, LeO (flagstonelaw11_FlockKeeps.f k a0 a1 a2 a3) (flagstonelaw11_FlockKeeps.f (k + 1) a0 a1 a2 a3) := by
  intro a0 a1 a2 a3 k
  obtain ⟨ih0, ih1, ih2⟩ := flagstonelaw11_FlockKeeps.mono_l k
  unfold flagstonelaw11_FlockKeeps.f
  repeat' first
      | (with_reducible exact ih0 _ _ _ _ _)
      | (with_reducible exact ih1 _ _ _ _ _ _)
      | (with_reducible exact ih2 _ _ _ _ _ _ _ _ _ _ _ _)
      | (with_reducible exact flagstonelaw11_fine.mono _ _ _)
      | (with_reducible exact flagstonelaw11_shown.mono _)
      | (with_reducible exact LeO.refl _)
      | (with_reducible exact LeO.none _)
      | (with_reducible refine LeO.ite ?_ ?_)
      | (with_reducible refine LeO.bind ?_ (fun _ => ?_))
      | exact ih0 _ _ _ _ _
      | exact ih1 _ _ _ _ _ _
      | exact ih2 _ _ _ _ _ _ _ _ _ _ _ _
      | exact flagstonelaw11_fine.mono _ _ _
      | exact flagstonelaw11_shown.mono _
      | exact LeO.none _
      | refine LeO.ite ?_ ?_
      | refine LeO.bind ?_ (fun _ => ?_)
set_option maxHeartbeats 8000000 in
set_option maxRecDepth 100000 in
theorem flagstonelaw11_FlockKeeps.calls (k : Nat) (A0_0 : Option Addr) (c0_0 : Nat) (l0_0 : List (S44)) (A0_1 : Option Addr) (c0_1 : Nat) (l0_1 : List (List Int)) (a1 : Int) (a2 : Int) (r : Bool) (w : World) (hr0_0 : Kd.C k44 w A0_0 l0_0.length l0_0) (hc0_0 : l0_0.length ≤ c0_0) (hr0_1 : Kd.C (Kd.slice 3 (Kd.int .i64)) w A0_1 l0_1.length l0_1) (hc0_1 : l0_1.length ≤ c0_1) (h : flagstonelaw11_FlockKeeps.f k l0_0 l0_1 a1 a2 = some r) :
    Calls Try.prog 8 #[.agg #[.slice A0_0 l0_0.length c0_0, .slice A0_1 l0_1.length c0_1], .int .i64 a1, .int .i64 a2] w fun e w' => e = .returned (.bool r) ∧ Below w.heap.size w w' := by
  have hu25 := Try.underlying25
  have hu44 := Try.underlying44
  have HR0_0 := Aside0.mk hr0_0
  have HC0_0 := Aside0.mk hc0_0
  clear hr0_0 hc0_0
  have HR0_1 := Aside0.mk hr0_1
  have HC0_1 := Aside0.mk hc0_1
  clear hr0_1 hc0_1
  have HB := Aside0.mk (Below.refl w.heap.size w)
  have H : ((flagstonelaw11_fine.f k l0_0 l0_1).bind fun t524 => (if t524 = true then ((flagstonelaw11_shown.f k).bind fun t525 => (flagstonelaw11_FlockKeeps.j0 k a1 a2 (!t525) l0_0 l0_1)) else (flagstonelaw11_FlockKeeps.j0 k a1 a2 true l0_0 l0_1))) = some r := h
  clear h
  have HC4 := Aside0.mk H
  clear H
  go_enter Try.func8, Try.ntmps8
  go_upto_region 1 with (first | ((with_reducible refine gate_dst (N := 3) rfl ?_); refine box_event ?hg (N := 3) ?hd (cs := #[.slice A0_0 l0_0.length c0_0, .slice A0_1 l0_1.length c0_1]) (t := 25) ?hr ?_; (case hd => rfl); (case hg => rfl); (case hr => first | (go_simp; done) | (go_simp; rfl)); intro gb523 hg w5 hbox hb; have n0_ := Aside0.mk (below_step (by repeat (first | (with_reducible first | exact HB.out | apply below_alloc | apply pw_below_drewN | apply below_drew1) | exact HB.out)) hb); have n1_ := Aside0.mk (hbox); have n2_ := Aside0.mk ((by rw [hg]; exact (below_size (by repeat (first | (with_reducible first | exact HB.out | apply below_alloc | apply pw_below_drewN | apply below_drew1) | exact HB.out))) : w.heap.size ≤ gb523)); have n3_ := Aside0.mk ((by rw [hg]; exact (below_size (by repeat (first | (with_reducible first | exact HB.out | apply below_alloc | apply pw_below_drewN | apply below_drew1) | exact HB.out))) : w.heap.size ≤ gb523)); clear HB; have HB := n0_; have BK523 := n1_; have GW523 := n2_; have GE523 := n3_; clear n0_ n1_ n2_ n3_; clear hb hbox hg))
  repeat (go_quiet (first | ((with_reducible refine gate_dst (N := 3) rfl ?_); refine box_event ?hg (N := 3) ?hd (cs := #[.slice A0_0 l0_0.length c0_0, .slice A0_1 l0_1.length c0_1]) (t := 25) ?hr ?_; (case hd => rfl); (case hg => rfl); (case hr => first | (go_simp; done) | (go_simp; rfl)); intro gb523 hg w5 hbox hb; have n0_ := Aside0.mk (below_step (by repeat (first | (with_reducible first | exact HB.out | apply below_alloc | apply pw_below_drewN | apply below_drew1) | exact HB.out)) hb); have n1_ := Aside0.mk (hbox); have n2_ := Aside0.mk ((by rw [hg]; exact (below_size (by repeat (first | (with_reducible first | exact HB.out | apply below_alloc | apply pw_below_drewN | apply below_drew1) | exact HB.out))) : w.heap.size ≤ gb523)); have n3_ := Aside0.mk ((by rw [hg]; exact (below_size (by repeat (first | (with_reducible first | exact HB.out | apply below_alloc | apply pw_below_drewN | apply below_drew1) | exact HB.out))) : w.heap.size ≤ gb523)); clear HB; have HB := n0_; have BK523 := n1_; have GW523 := n2_; have GE523 := n3_; clear n0_ n1_ n2_ n3_; clear hb hbox hg)); go_upto_region 1 with (first | ((with_reducible refine gate_dst (N := 3) rfl ?_); refine box_event ?hg (N := 3) ?hd (cs := #[.slice A0_0 l0_0.length c0_0, .slice A0_1 l0_1.length c0_1]) (t := 25) ?hr ?_; (case hd => rfl); (case hg => rfl); (case hr => first | (go_simp; done) | (go_simp; rfl)); intro gb523 hg w5 hbox hb; have n0_ := Aside0.mk (below_step (by repeat (first | (with_reducible first | exact HB.out | apply below_alloc | apply pw_below_drewN | apply below_drew1) | exact HB.out)) hb); have n1_ := Aside0.mk (hbox); have n2_ := Aside0.mk ((by rw [hg]; exact (below_size (by repeat (first | (with_reducible first | exact HB.out | apply below_alloc | apply pw_below_drewN | apply below_drew1) | exact HB.out))) : w.heap.size ≤ gb523)); have n3_ := Aside0.mk ((by rw [hg]; exact (below_size (by repeat (first | (with_reducible first | exact HB.out | apply below_alloc | apply pw_below_drewN | apply below_drew1) | exact HB.out))) : w.heap.size ≤ gb523)); clear HB; have HB := n0_; have BK523 := n1_; have GW523 := n2_; have GE523 := n3_; clear n0_ n1_ n2_ n3_; clear hb hbox hg)))
  (try simp only [Act.put, List.setIfInBounds_toArray, List.set_cons_zero, List.set_cons_succ])
  go_cut [17] (fun v17 wc => ∃ (kq : Nat) (x17_3 : Bool), v17 = .bool x17_3 ∧ Aside0 (flagstonelaw11_FlockKeeps.j0 kq a1 a2 x17_3 l0_0 l0_1 = some r) ∧ Aside0 (kq ≤ k) ∧ Aside0 (wc.heap[gb523]? = some (.cells #[(.slice A0_0 l0_0.length c0_0), (.slice A0_1 l0_1.length c0_1)] 25 (0, 0))) ∧ Aside0 (Below w.heap.size w wc))
  case first =>
    have H := HC4.out
    clear HC4
    replace H := Option.bind_eq_some_iff.mp H
    obtain ⟨t524, A60, H⟩ := H
    replace H : (if t524 = true then ((flagstonelaw11_shown.f k).bind fun t525 => (flagstonelaw11_FlockKeeps.j0 k a1 a2 (!t525) l0_0 l0_1)) else (flagstonelaw11_FlockKeeps.j0 k a1 a2 true l0_0 l0_1)) = some r := H
    have A6 := Aside0.mk A60
    clear A60
    by_cases c7 : t524 = true
    · subst c7
      have H1 : ((flagstonelaw11_shown.f k).bind fun t525 => (flagstonelaw11_FlockKeeps.j0 k a1 a2 (!t525) l0_0 l0_1)) = some r := by rw [if_pos rfl] at H; exact H
      clear H
      have H := H1
      clear H1
      replace H := Option.bind_eq_some_iff.mp H
      obtain ⟨t525, A80, H⟩ := H
      replace H : (flagstonelaw11_FlockKeeps.j0 k a1 a2 (!t525) l0_0 l0_1) = some r := H
      have A8 := Aside0.mk A80
      clear A80
      have H' := Aside0.mk H
      clear H
      have hcz9_0 : w5.cell? ⟨gb523, 0, none⟩ = some (.slice A0_0 l0_0.length c0_0) := (blk_cell BK523.out 0).trans rfl
      have hcz9_1 : w5.cell? ⟨gb523, 1, none⟩ = some (.slice A0_1 l0_1.length c0_1) := (blk_cell BK523.out 1).trans rfl
      have hfz9_0 := blk_frozen BK523.out 0
      have hfz9_1 := blk_frozen BK523.out 1
      go_wp2_with (first | (go_at_call 9; (with_reducible refine (flagstonelaw11_fine.calls k _ _ l0_0 _ _ l0_1 true _ ?side1 ?side2 ?side3 ?side4 A6.out).mono ?_); (case side1 => repeat (first | exact (Kd.C_below HR0_0.out HB.out) | (with_reducible refine Kd.C_alloc ?_ _) | (with_reducible refine Kd.C_drewN ?_ _) | (with_reducible refine Kd.C_drew ?_))); (case side2 => exact HC0_0.out); (case side3 => repeat (first | exact (Kd.C_below HR0_1.out HB.out) | (with_reducible refine Kd.C_alloc ?_ _) | (with_reducible refine Kd.C_drewN ?_ _) | (with_reducible refine Kd.C_drew ?_))); (case side4 => exact HC0_1.out); rintro e w10 ⟨rfl, hb⟩; have n0_ := Aside0.mk (blk_below (g := gb523) (o := .cells #[.slice A0_0 l0_0.length c0_0, .slice A0_1 l0_1.length c0_1] 25 (0, 0)) (by (with_reducible repeat (first | refine blk_drewN ?_ _ | refine blk_drew ?_ | refine blk_alloc ?_ _)); exact BK523.out) hb); have n1_ := Aside0.mk (below_step (by repeat (first | (with_reducible first | exact HB.out | apply below_alloc | apply pw_below_drewN | apply below_drew1 | refine below_set ?_ GE523.out) | exact HB.out)) hb); clear BK523; clear HB; have BK523 := n0_; have HB := n1_; clear n0_ n1_; (try clear hb); (try clear hb2); (try clear hk); (try clear hi)) | (go_at_call 10; (with_reducible refine (flagstonelaw11_shown.calls k  t525 _ A8.out).mono ?_); rintro e w11 ⟨rfl, hb⟩; have n0_ := Aside0.mk (blk_below (g := gb523) (o := .cells #[.slice A0_0 l0_0.length c0_0, .slice A0_1 l0_1.length c0_1] 25 (0, 0)) (by (with_reducible repeat (first | refine blk_drewN ?_ _ | refine blk_drew ?_ | refine blk_alloc ?_ _)); exact BK523.out) hb); have n1_ := Aside0.mk (below_step (by repeat (first | (with_reducible first | exact HB.out | apply below_alloc | apply pw_below_drewN | apply below_drew1 | refine below_set ?_ GE523.out) | exact HB.out)) hb); clear BK523; clear HB; have BK523 := n0_; have HB := n1_; clear n0_ n1_; (try clear hb); (try clear hb2); (try clear hk); (try clear hi)))
      repeat (go_quiet (first | (go_at_call 9; (with_reducible refine (flagstonelaw11_fine.calls k _ _ l0_0 _ _ l0_1 true _ ?side1 ?side2 ?side3 ?side4 A6.out).mono ?_); (case side1 => repeat (first | exact (Kd.C_below HR0_0.out HB.out) | (with_reducible refine Kd.C_alloc ?_ _) | (with_reducible refine Kd.C_drewN ?_ _) | (with_reducible refine Kd.C_drew ?_))); (case side2 => exact HC0_0.out); (case side3 => repeat (first | exact (Kd.C_below HR0_1.out HB.out) | (with_reducible refine Kd.C_alloc ?_ _) | (with_reducible refine Kd.C_drewN ?_ _) | (with_reducible refine Kd.C_drew ?_))); (case side4 => exact HC0_1.out); rintro e w10 ⟨rfl, hb⟩; have n0_ := Aside0.mk (blk_below (g := gb523) (o := .cells #[.slice A0_0 l0_0.length c0_0, .slice A0_1 l0_1.length c0_1] 25 (0, 0)) (by (with_reducible repeat (first | refine blk_drewN ?_ _ | refine blk_drew ?_ | refine blk_alloc ?_ _)); exact BK523.out) hb); have n1_ := Aside0.mk (below_step (by repeat (first | (with_reducible first | exact HB.out | apply below_alloc | apply pw_below_drewN | apply below_drew1 | refine below_set ?_ GE523.out) | exact HB.out)) hb); clear BK523; clear HB; have BK523 := n0_; have HB := n1_; clear n0_ n1_; (try clear hb); (try clear hb2); (try clear hk); (try clear hi)) | (go_at_call 10; (with_reducible refine (flagstonelaw11_shown.calls k  t525 _ A8.out).mono ?_); rintro e w11 ⟨rfl, hb⟩; have n0_ := Aside0.mk (blk_below (g := gb523) (o := .cells #[.slice A0_0 l0_0.length c0_0, .slice A0_1 l0_1.length c0_1] 25 (0, 0)) (by (with_reducible repeat (first | refine blk_drewN ?_ _ | refine blk_drew ?_ | refine blk_alloc ?_ _)); exact BK523.out) hb); have n1_ := Aside0.mk (below_step (by repeat (first | (with_reducible first | exact HB.out | apply below_alloc | apply pw_below_drewN | apply below_drew1 | refine below_set ?_ GE523.out) | exact HB.out)) hb); clear BK523; clear HB; have BK523 := n0_; have HB := n1_; clear n0_ n1_; (try clear hb); (try clear hb2); (try clear hk); (try clear hi))); try go_wp2_with (first | (go_at_call 9; (with_reducible refine (flagstonelaw11_fine.calls k _ _ l0_0 _ _ l0_1 true _ ?side1 ?side2 ?side3 ?side4 A6.out).mono ?_); (case side1 => repeat (first | exact (Kd.C_below HR0_0.out HB.out) | (with_reducible refine Kd.C_alloc ?_ _) | (with_reducible refine Kd.C_drewN ?_ _) | (with_reducible refine Kd.C_drew ?_))); (case side2 => exact HC0_0.out); (case side3 => repeat (first | exact (Kd.C_below HR0_1.out HB.out) | (with_reducible refine Kd.C_alloc ?_ _) | (with_reducible refine Kd.C_drewN ?_ _) | (with_reducible refine Kd.C_drew ?_))); (case side4 => exact HC0_1.out); rintro e w10 ⟨rfl, hb⟩; have n0_ := Aside0.mk (blk_below (g := gb523) (o := .cells #[.slice A0_0 l0_0.length c0_0, .slice A0_1 l0_1.length c0_1] 25 (0, 0)) (by (with_reducible repeat (first | refine blk_drewN ?_ _ | refine blk_drew ?_ | refine blk_alloc ?_ _)); exact BK523.out) hb); have n1_ := Aside0.mk (below_step (by repeat (first | (with_reducible first | exact HB.out | apply below_alloc | apply pw_below_drewN | apply below_drew1 | refine below_set ?_ GE523.out) | exact HB.out)) hb); clear BK523; clear HB; have BK523 := n0_; have HB := n1_; clear n0_ n1_; (try clear hb); (try clear hb2); (try clear hk); (try clear hi)) | (go_at_call 10; (with_reducible refine (flagstonelaw11_shown.calls k  t525 _ A8.out).mono ?_); rintro e w11 ⟨rfl, hb⟩; have n0_ := Aside0.mk (blk_below (g := gb523) (o := .cells #[.slice A0_0 l0_0.length c0_0, .slice A0_1 l0_1.length c0_1] 25 (0, 0)) (by (with_reducible repeat (first | refine blk_drewN ?_ _ | refine blk_drew ?_ | refine blk_alloc ?_ _)); exact BK523.out) hb); have n1_ := Aside0.mk (below_step (by repeat (first | (with_reducible first | exact HB.out | apply below_alloc | apply pw_below_drewN | apply below_drew1 | refine below_set ?_ GE523.out) | exact HB.out)) hb); clear BK523; clear HB; have BK523 := n0_; have HB := n1_; clear n0_ n1_; (try clear hb); (try clear hb2); (try clear hk); (try clear hi))))
      go_meet
      case rel => exact ⟨_, (!t525), (by first | rfl | (simp; done) | (simp [*]; done)), H', ⟨by first | omega | exact Nat.le_refl _⟩, ⟨by (with_reducible repeat (first | refine blk_drewN ?_ _ | refine blk_drew ?_ | refine blk_alloc ?_ _)); exact BK523.out⟩, ⟨by repeat (first | (with_reducible first | exact HB.out | apply below_alloc | apply pw_below_drewN | apply below_drew1 | refine below_set ?_ GE523.out) | exact HB.out)⟩⟩
    · replace c7 := Bool.eq_false_iff.mpr c7
      subst c7
      have H1 : (flagstonelaw11_FlockKeeps.j0 k a1 a2 true l0_0 l0_1) = some r := by rw [if_neg (show ¬ (false = true) by decide)] at H; exact H
      clear H
      have H := H1
      clear H1
      have H' := Aside0.mk H
      clear H
      have hcz12_0 : w5.cell? ⟨gb523, 0, none⟩ = some (.slice A0_0 l0_0.length c0_0) := (blk_cell BK523.out 0).trans rfl
      have hcz12_1 : w5.cell? ⟨gb523, 1, none⟩ = some (.slice A0_1 l0_1.length c0_1) := (blk_cell BK523.out 1).trans rfl
      have hfz12_0 := blk_frozen BK523.out 0
      have hfz12_1 := blk_frozen BK523.out 1
      go_wp2_with (first | (go_at_call 9; (with_reducible refine (flagstonelaw11_fine.calls k _ _ l0_0 _ _ l0_1 false _ ?side1 ?side2 ?side3 ?side4 A6.out).mono ?_); (case side1 => repeat (first | exact (Kd.C_below HR0_0.out HB.out) | (with_reducible refine Kd.C_alloc ?_ _) | (with_reducible refine Kd.C_drewN ?_ _) | (with_reducible refine Kd.C_drew ?_))); (case side2 => exact HC0_0.out); (case side3 => repeat (first | exact (Kd.C_below HR0_1.out HB.out) | (with_reducible refine Kd.C_alloc ?_ _) | (with_reducible refine Kd.C_drewN ?_ _) | (with_reducible refine Kd.C_drew ?_))); (case side4 => exact HC0_1.out); rintro e w13 ⟨rfl, hb⟩; have n0_ := Aside0.mk (blk_below (g := gb523) (o := .cells #[.slice A0_0 l0_0.length c0_0, .slice A0_1 l0_1.length c0_1] 25 (0, 0)) (by (with_reducible repeat (first | refine blk_drewN ?_ _ | refine blk_drew ?_ | refine blk_alloc ?_ _)); exact BK523.out) hb); have n1_ := Aside0.mk (below_step (by repeat (first | (with_reducible first | exact HB.out | apply below_alloc | apply pw_below_drewN | apply below_drew1 | refine below_set ?_ GE523.out) | exact HB.out)) hb); clear BK523; clear HB; have BK523 := n0_; have HB := n1_; clear n0_ n1_; (try clear hb); (try clear hb2); (try clear hk); (try clear hi)))
      repeat (go_quiet (first | (go_at_call 9; (with_reducible refine (flagstonelaw11_fine.calls k _ _ l0_0 _ _ l0_1 false _ ?side1 ?side2 ?side3 ?side4 A6.out).mono ?_); (case side1 => repeat (first | exact (Kd.C_below HR0_0.out HB.out) | (with_reducible refine Kd.C_alloc ?_ _) | (with_reducible refine Kd.C_drewN ?_ _) | (with_reducible refine Kd.C_drew ?_))); (case side2 => exact HC0_0.out); (case side3 => repeat (first | exact (Kd.C_below HR0_1.out HB.out) | (with_reducible refine Kd.C_alloc ?_ _) | (with_reducible refine Kd.C_drewN ?_ _) | (with_reducible refine Kd.C_drew ?_))); (case side4 => exact HC0_1.out); rintro e w13 ⟨rfl, hb⟩; have n0_ := Aside0.mk (blk_below (g := gb523) (o := .cells #[.slice A0_0 l0_0.length c0_0, .slice A0_1 l0_1.length c0_1] 25 (0, 0)) (by (with_reducible repeat (first | refine blk_drewN ?_ _ | refine blk_drew ?_ | refine blk_alloc ?_ _)); exact BK523.out) hb); have n1_ := Aside0.mk (below_step (by repeat (first | (with_reducible first | exact HB.out | apply below_alloc | apply pw_below_drewN | apply below_drew1 | refine below_set ?_ GE523.out) | exact HB.out)) hb); clear BK523; clear HB; have BK523 := n0_; have HB := n1_; clear n0_ n1_; (try clear hb); (try clear hb2); (try clear hk); (try clear hi))); try go_wp2_with (first | (go_at_call 9; (with_reducible refine (flagstonelaw11_fine.calls k _ _ l0_0 _ _ l0_1 false _ ?side1 ?side2 ?side3 ?side4 A6.out).mono ?_); (case side1 => repeat (first | exact (Kd.C_below HR0_0.out HB.out) | (with_reducible refine Kd.C_alloc ?_ _) | (with_reducible refine Kd.C_drewN ?_ _) | (with_reducible refine Kd.C_drew ?_))); (case side2 => exact HC0_0.out); (case side3 => repeat (first | exact (Kd.C_below HR0_1.out HB.out) | (with_reducible refine Kd.C_alloc ?_ _) | (with_reducible refine Kd.C_drewN ?_ _) | (with_reducible refine Kd.C_drew ?_))); (case side4 => exact HC0_1.out); rintro e w13 ⟨rfl, hb⟩; have n0_ := Aside0.mk (blk_below (g := gb523) (o := .cells #[.slice A0_0 l0_0.length c0_0, .slice A0_1 l0_1.length c0_1] 25 (0, 0)) (by (with_reducible repeat (first | refine blk_drewN ?_ _ | refine blk_drew ?_ | refine blk_alloc ?_ _)); exact BK523.out) hb); have n1_ := Aside0.mk (below_step (by repeat (first | (with_reducible first | exact HB.out | apply below_alloc | apply pw_below_drewN | apply below_drew1 | refine below_set ?_ GE523.out) | exact HB.out)) hb); clear BK523; clear HB; have BK523 := n0_; have HB := n1_; clear n0_ n1_; (try clear hb); (try clear hb2); (try clear hk); (try clear hi))))
      go_meet
      case rel => exact ⟨_, (true), (by first | rfl | (simp; done) | (simp [*]; done)), H', ⟨by first | omega | exact Nat.le_refl _⟩, ⟨by (with_reducible repeat (first | refine blk_drewN ?_ _ | refine blk_drew ?_ | refine blk_alloc ?_ _)); exact BK523.out⟩, ⟨by repeat (first | (with_reducible first | exact HB.out | apply below_alloc | apply pw_below_drewN | apply below_drew1 | refine below_set ?_ GE523.out) | exact HB.out)⟩⟩
  case rest =>
    clear HC4
    try clear p2
    try clear c7
    try clear c8
    try clear hcz12_0
    try clear hcz12_1
    try clear hcz9_0
    try clear hcz9_1
    try clear hfz12_0
    try clear hfz12_1
    try clear hfz9_0
    try clear hfz9_1
    obtain ⟨kq, x17_3, rfl, HA, HJ3, BK523, HB⟩ := hcut
    cases kq with
    | zero => exact absurd HA.out (by simp [flagstonelaw11_FlockKeeps.j0])
    | succ kj3 =>
      have H := HA.out
      clear HA
      simp only [flagstonelaw11_FlockKeeps.j0] at H
      by_cases c14 : x17_3 = true
      · subst c14
        have H1 : ((flagstonelaw11_shown.f kj3).bind fun t526 => (some t526)) = some r := by rw [if_pos rfl] at H; exact H
        clear H
        have H := H1
        clear H1
        replace H := Option.bind_eq_some_iff.mp H
        obtain ⟨t526, A150, H⟩ := H
        replace H : (some t526) = some r := H
        have A15 := Aside0.mk A150
        clear A150
        obtain rfl := Option.some.inj H
        go_wp2_with (first | (go_at_call 10; (with_reducible refine (flagstonelaw11_shown.calls kj3  t526 _ A15.out).mono ?_); rintro e w16 ⟨rfl, hb⟩; have n0_ := Aside0.mk (blk_below (g := gb523) (o := .cells #[.slice A0_0 l0_0.length c0_0, .slice A0_1 l0_1.length c0_1] 25 (0, 0)) (by (with_reducible repeat (first | refine blk_drewN ?_ _ | refine blk_drew ?_ | refine blk_alloc ?_ _)); exact BK523.out) hb); have n1_ := Aside0.mk (below_step (by repeat (first | (with_reducible first | exact HB.out | apply below_alloc | apply pw_below_drewN | apply below_drew1 | refine below_set ?_ GE523.out) | exact HB.out)) hb); clear BK523; clear HB; have BK523 := n0_; have HB := n1_; clear n0_ n1_; (try clear hb); (try clear hb2); (try clear hk); (try clear hi)))
        repeat (go_quiet (first | (go_at_call 10; (with_reducible refine (flagstonelaw11_shown.calls kj3  t526 _ A15.out).mono ?_); rintro e w16 ⟨rfl, hb⟩; have n0_ := Aside0.mk (blk_below (g := gb523) (o := .cells #[.slice A0_0 l0_0.length c0_0, .slice A0_1 l0_1.length c0_1] 25 (0, 0)) (by (with_reducible repeat (first | refine blk_drewN ?_ _ | refine blk_drew ?_ | refine blk_alloc ?_ _)); exact BK523.out) hb); have n1_ := Aside0.mk (below_step (by repeat (first | (with_reducible first | exact HB.out | apply below_alloc | apply pw_below_drewN | apply below_drew1 | refine below_set ?_ GE523.out) | exact HB.out)) hb); clear BK523; clear HB; have BK523 := n0_; have HB := n1_; clear n0_ n1_; (try clear hb); (try clear hb2); (try clear hk); (try clear hi))); try go_wp2_with (first | (go_at_call 10; (with_reducible refine (flagstonelaw11_shown.calls kj3  t526 _ A15.out).mono ?_); rintro e w16 ⟨rfl, hb⟩; have n0_ := Aside0.mk (blk_below (g := gb523) (o := .cells #[.slice A0_0 l0_0.length c0_0, .slice A0_1 l0_1.length c0_1] 25 (0, 0)) (by (with_reducible repeat (first | refine blk_drewN ?_ _ | refine blk_drew ?_ | refine blk_alloc ?_ _)); exact BK523.out) hb); have n1_ := Aside0.mk (below_step (by repeat (first | (with_reducible first | exact HB.out | apply below_alloc | apply pw_below_drewN | apply below_drew1 | refine below_set ?_ GE523.out) | exact HB.out)) hb); clear BK523; clear HB; have BK523 := n0_; have HB := n1_; clear n0_ n1_; (try clear hb); (try clear hb2); (try clear hk); (try clear hi))))
        go_ret
        exact ⟨by first | rfl | (simp [errW_none, errW_some] <;> rfl) | (simp [*, errW_none, errW_some] <;> rfl), by repeat (first | (with_reducible first | exact HB.out | apply below_alloc | apply pw_below_drewN | apply below_drew1 | refine below_set ?_ GE523.out) | exact HB.out)⟩
      · replace c14 := Bool.eq_false_iff.mpr c14
        subst c14
        have H1 : ((flock_Lock.f l0_0 l0_1 a1 a2).bind fun bt527 => (if (bt527.1.length : Int) = (l0_0.length : Int) then (flagstonelaw11_FlockKeeps.l0 kj3 a1 0 l0_0 l0_1 bt527.1 bt527.2.1) else (none))) = some r := by rw [if_neg (show ¬ (false = true) by decide)] at H; exact H
        clear H
        have H := H1
        clear H1
        replace H := Option.bind_eq_some_iff.mp H
        obtain ⟨⟨t527, t530, t533⟩, A170, H⟩ := H
        replace H : (if (t527.length : Int) = (l0_0.length : Int) then (flagstonelaw11_FlockKeeps.l0 kj3 a1 0 l0_0 l0_1 t527 t530) else (none)) = some r := H
        have A17 := Aside0.mk A170
        clear A170
        by_cases c18 : (t527.length : Int) = (l0_0.length : Int)
        · rw [if_pos c18] at H
          have c18b0 : ((t527.length : Int) == (l0_0.length : Int)) = true := beq_iff_eq.mpr c18
          have c18b1 : ((t527.length : Int) != (l0_0.length : Int)) = false := bne_eq_false_iff_eq.mpr c18
          have c18b2 : (t527.length == l0_0.length) = true := by first | simpa using c18 | (simp at c18 ⊢; omega)
          clear c18
          have H' := Aside0.mk H
          clear H
          have hcz19_0 : wc.cell? ⟨gb523, 0, none⟩ = some (.slice A0_0 l0_0.length c0_0) := (blk_cell BK523.out 0).trans rfl
          have hcz19_1 : wc.cell? ⟨gb523, 1, none⟩ = some (.slice A0_1 l0_1.length c0_1) := (blk_cell BK523.out 1).trans rfl
          have hfz19_0 := blk_frozen BK523.out 0
          have hfz19_1 := blk_frozen BK523.out 1
          go_wp2_with (first | (go_at_call 11; (with_reducible refine (flock_Lock.calls (fun k_ => k_ < w.heap.size) _ _ l0_0 (fun k_ => k_ < w.heap.size) _ _ l0_1 a1 a2 t527 t530 t533 _ ?side1 ?side2 A17.out).mono ?_); (case side1 => exact Kd.V_mk HC0_0.out (Kd.F_below (Kd.C_F k44_heap HR0_0.out) (by repeat (first | (with_reducible first | exact HB.out | apply below_alloc | apply pw_below_drewN | apply below_drew1 | refine below_set ?_ GE523.out) | exact HB.out)))); (case side2 => exact Kd.V_mk HC0_1.out (Kd.F_below (Kd.C_F (Kd.heap_slice 3 (Kd.heap_int .i64)) HR0_1.out) (by repeat (first | (with_reducible first | exact HB.out | apply below_alloc | apply pw_below_drewN | apply below_drew1 | refine below_set ?_ GE523.out) | exact HB.out)))); rintro e w20 ⟨v528, v531, rfl, ho0, ho1, hb⟩; have n0_ := Aside0.mk (Kd.V_lower (Kd.V_mono (ok' := fun k_ => k_ ≠ gb523) ho0 (fun k_ hk_ => Or.elim hk_ (fun hs_ => Or.elim hs_ (fun hs_ => fun e_ => Nat.not_le.2 hs_ (by rw [e_]; exact GW523.out)) (fun hs_ => fun e_ => Nat.not_le.2 hs_ (by rw [e_]; exact GW523.out))) (fun hn_ => (Kd.freshB (g := gb523) (o := .cells #[.slice A0_0 l0_0.length c0_0, .slice A0_1 l0_1.length c0_1] 25 (0, 0)) (by (with_reducible repeat (first | refine blk_drewN ?_ _ | refine blk_drew ?_ | refine blk_alloc ?_ _)); exact BK523.out) k_ hn_)))) (below_size (by repeat (first | (with_reducible first | exact HB.out | apply below_alloc | apply pw_below_drewN | apply below_drew1 | refine below_set ?_ GE523.out) | exact HB.out)))); have n1_ := Aside0.mk (Kd.V_lower (Kd.V_mono (ok' := fun k_ => k_ ≠ gb523) ho1 (fun k_ hk_ => Or.elim hk_ (fun hs_ => Or.elim hs_ (fun hs_ => fun e_ => Nat.not_le.2 hs_ (by rw [e_]; exact GW523.out)) (fun hs_ => fun e_ => Nat.not_le.2 hs_ (by rw [e_]; exact GW523.out))) (fun hn_ => (Kd.freshB (g := gb523) (o := .cells #[.slice A0_0 l0_0.length c0_0, .slice A0_1 l0_1.length c0_1] 25 (0, 0)) (by (with_reducible repeat (first | refine blk_drewN ?_ _ | refine blk_drew ?_ | refine blk_alloc ?_ _)); exact BK523.out) k_ hn_)))) (below_size (by repeat (first | (with_reducible first | exact HB.out | apply below_alloc | apply pw_below_drewN | apply below_drew1 | refine below_set ?_ GE523.out) | exact HB.out)))); have n2_ := Aside0.mk (blk_below (g := gb523) (o := .cells #[.slice A0_0 l0_0.length c0_0, .slice A0_1 l0_1.length c0_1] 25 (0, 0)) (by (with_reducible repeat (first | refine blk_drewN ?_ _ | refine blk_drew ?_ | refine blk_alloc ?_ _)); exact BK523.out) hb); have n3_ := Aside0.mk (below_step (by repeat (first | (with_reducible first | exact HB.out | apply below_alloc | apply pw_below_drewN | apply below_drew1 | refine below_set ?_ GE523.out) | exact HB.out)) hb); clear BK523; clear HB; have HO529 := n0_; have HO532 := n1_; have BK523 := n2_; have HB := n3_; clear n0_ n1_ n2_ n3_; (try clear hb); (try clear hb2); (try clear hk); (try clear hi); (try clear ho0); (try clear ho1)) | ((with_reducible refine gate_dst (N := 7) rfl ?_); refine box_event ?hg (N := 7) ?hd (cs := #[.slice none 0 0, .slice none 0 0]) (t := 25) ?hr ?_; (case hd => rfl); (case hg => rfl); (case hr => first | (go_simp; done) | (go_simp; rfl)); intro gb534 hg w21 hbox hb; have n0_ := Aside0.mk (Kd.V_below (Kd.V_elderB (by (with_reducible repeat (first | apply Kd.V_alloc | apply Kd.V_drewN | apply Kd.V_drew)); exact HO529.out) gb534 (Nat.le_of_eq hg.symm)) hb); have n1_ := Aside0.mk (Kd.V_below (Kd.V_elderB (by (with_reducible repeat (first | apply Kd.V_alloc | apply Kd.V_drewN | apply Kd.V_drew)); exact HO532.out) gb534 (Nat.le_of_eq hg.symm)) hb); have n2_ := Aside0.mk (blk_below (g := gb523) (o := .cells #[.slice A0_0 l0_0.length c0_0, .slice A0_1 l0_1.length c0_1] 25 (0, 0)) (by (with_reducible repeat (first | refine blk_drewN ?_ _ | refine blk_drew ?_ | refine blk_alloc ?_ _)); exact BK523.out) hb); have n3_ := Aside0.mk (below_step (by repeat (first | (with_reducible first | exact HB.out | apply below_alloc | apply pw_below_drewN | apply below_drew1 | refine below_set ?_ GE523.out) | exact HB.out)) hb); have n4_ := Aside0.mk (hbox); have n5_ := Aside0.mk ((by rw [hg]; exact (below_size (by repeat (first | (with_reducible first | exact HB.out | apply below_alloc | apply pw_below_drewN | apply below_drew1 | refine below_set ?_ GE523.out) | exact HB.out))) : w.heap.size ≤ gb534)); have n6_ := Aside0.mk ((by rw [hg]; exact (below_size (by repeat (first | (with_reducible first | exact HB.out | apply below_alloc | apply pw_below_drewN | apply below_drew1 | refine below_set ?_ GE523.out) | exact HB.out))) : w.heap.size ≤ gb534)); have n7_ := Aside0.mk ((by rw [hg]; exact Nat.ne_of_lt (blk_lt (g := gb523) (o := .cells #[.slice A0_0 l0_0.length c0_0, .slice A0_1 l0_1.length c0_1] 25 (0, 0)) (by (with_reducible repeat (first | refine blk_drewN ?_ _ | refine blk_drew ?_ | refine blk_alloc ?_ _)); exact BK523.out)) : gb523 ≠ gb534)); have n8_ := Aside0.mk ((by rw [hg]; exact Nat.ne_of_gt (blk_lt (g := gb523) (o := .cells #[.slice A0_0 l0_0.length c0_0, .slice A0_1 l0_1.length c0_1] 25 (0, 0)) (by (with_reducible repeat (first | refine blk_drewN ?_ _ | refine blk_drew ?_ | refine blk_alloc ?_ _)); exact BK523.out)) : gb534 ≠ gb523)); clear HO529; clear HO532; clear BK523; clear HB; have HO529 := n0_; have HO532 := n1_; have BK523 := n2_; have HB := n3_; have BK534 := n4_; have GW534 := n5_; have GE534 := n6_; have NB523_534 := n7_; have NB534_523 := n8_; clear n0_ n1_ n2_ n3_ n4_ n5_ n6_ n7_ n8_; clear hb hbox hg; obtain ⟨Ao22, co22, eo22⟩ := Kd.V_slice HO529.out; subst eo22; have hnb23 := NB534_523.out; have hnc23 := NB523_534.out; have hcz24_0 : w21.cell? ⟨gb534, 0, none⟩ = some (.slice none 0 0) := (blk_cell BK534.out 0).trans rfl; have hcz24_1 : w21.cell? ⟨gb534, 1, none⟩ = some (.slice none 0 0) := (blk_cell BK534.out 1).trans rfl; have hfz24_0 := blk_frozen BK534.out 0; have hfz24_1 := blk_frozen BK534.out 1; obtain ⟨Ao25, co25, eo25⟩ := Kd.V_slice HO532.out; subst eo25; have hcz26_0 : w21.cell? ⟨gb523, 0, none⟩ = some (.slice A0_0 l0_0.length c0_0) := (blk_cell BK523.out 0).trans rfl; have hcz26_1 : w21.cell? ⟨gb523, 1, none⟩ = some (.slice A0_1 l0_1.length c0_1) := (blk_cell BK523.out 1).trans rfl; have hfz26_0 := blk_frozen BK523.out 0; have hfz26_1 := blk_frozen BK523.out 1))
          repeat (go_quiet (first | (go_at_call 11; (with_reducible refine (flock_Lock.calls (fun k_ => k_ < w.heap.size) _ _ l0_0 (fun k_ => k_ < w.heap.size) _ _ l0_1 a1 a2 t527 t530 t533 _ ?side1 ?side2 A17.out).mono ?_); (case side1 => exact Kd.V_mk HC0_0.out (Kd.F_below (Kd.C_F k44_heap HR0_0.out) (by repeat (first | (with_reducible first | exact HB.out | apply below_alloc | apply pw_below_drewN | apply below_drew1 | refine below_set ?_ GE523.out) | exact HB.out)))); (case side2 => exact Kd.V_mk HC0_1.out (Kd.F_below (Kd.C_F (Kd.heap_slice 3 (Kd.heap_int .i64)) HR0_1.out) (by repeat (first | (with_reducible first | exact HB.out | apply below_alloc | apply pw_below_drewN | apply below_drew1 | refine below_set ?_ GE523.out) | exact HB.out)))); rintro e w20 ⟨v528, v531, rfl, ho0, ho1, hb⟩; have n0_ := Aside0.mk (Kd.V_lower (Kd.V_mono (ok' := fun k_ => k_ ≠ gb523) ho0 (fun k_ hk_ => Or.elim hk_ (fun hs_ => Or.elim hs_ (fun hs_ => fun e_ => Nat.not_le.2 hs_ (by rw [e_]; exact GW523.out)) (fun hs_ => fun e_ => Nat.not_le.2 hs_ (by rw [e_]; exact GW523.out))) (fun hn_ => (Kd.freshB (g := gb523) (o := .cells #[.slice A0_0 l0_0.length c0_0, .slice A0_1 l0_1.length c0_1] 25 (0, 0)) (by (with_reducible repeat (first | refine blk_drewN ?_ _ | refine blk_drew ?_ | refine blk_alloc ?_ _)); exact BK523.out) k_ hn_)))) (below_size (by repeat (first | (with_reducible first | exact HB.out | apply below_alloc | apply pw_below_drewN | apply below_drew1 | refine below_set ?_ GE523.out) | exact HB.out)))); have n1_ := Aside0.mk (Kd.V_lower (Kd.V_mono (ok' := fun k_ => k_ ≠ gb523) ho1 (fun k_ hk_ => Or.elim hk_ (fun hs_ => Or.elim hs_ (fun hs_ => fun e_ => Nat.not_le.2 hs_ (by rw [e_]; exact GW523.out)) (fun hs_ => fun e_ => Nat.not_le.2 hs_ (by rw [e_]; exact GW523.out))) (fun hn_ => (Kd.freshB (g := gb523) (o := .cells #[.slice A0_0 l0_0.length c0_0, .slice A0_1 l0_1.length c0_1] 25 (0, 0)) (by (with_reducible repeat (first | refine blk_drewN ?_ _ | refine blk_drew ?_ | refine blk_alloc ?_ _)); exact BK523.out) k_ hn_)))) (below_size (by repeat (first | (with_reducible first | exact HB.out | apply below_alloc | apply pw_below_drewN | apply below_drew1 | refine below_set ?_ GE523.out) | exact HB.out)))); have n2_ := Aside0.mk (blk_below (g := gb523) (o := .cells #[.slice A0_0 l0_0.length c0_0, .slice A0_1 l0_1.length c0_1] 25 (0, 0)) (by (with_reducible repeat (first | refine blk_drewN ?_ _ | refine blk_drew ?_ | refine blk_alloc ?_ _)); exact BK523.out) hb); have n3_ := Aside0.mk (below_step (by repeat (first | (with_reducible first | exact HB.out | apply below_alloc | apply pw_below_drewN | apply below_drew1 | refine below_set ?_ GE523.out) | exact HB.out)) hb); clear BK523; clear HB; have HO529 := n0_; have HO532 := n1_; have BK523 := n2_; have HB := n3_; clear n0_ n1_ n2_ n3_; (try clear hb); (try clear hb2); (try clear hk); (try clear hi); (try clear ho0); (try clear ho1)) | ((with_reducible refine gate_dst (N := 7) rfl ?_); refine box_event ?hg (N := 7) ?hd (cs := #[.slice none 0 0, .slice none 0 0]) (t := 25) ?hr ?_; (case hd => rfl); (case hg => rfl); (case hr => first | (go_simp; done) | (go_simp; rfl)); intro gb534 hg w21 hbox hb; have n0_ := Aside0.mk (Kd.V_below (Kd.V_elderB (by (with_reducible repeat (first | apply Kd.V_alloc | apply Kd.V_drewN | apply Kd.V_drew)); exact HO529.out) gb534 (Nat.le_of_eq hg.symm)) hb); have n1_ := Aside0.mk (Kd.V_below (Kd.V_elderB (by (with_reducible repeat (first | apply Kd.V_alloc | apply Kd.V_drewN | apply Kd.V_drew)); exact HO532.out) gb534 (Nat.le_of_eq hg.symm)) hb); have n2_ := Aside0.mk (blk_below (g := gb523) (o := .cells #[.slice A0_0 l0_0.length c0_0, .slice A0_1 l0_1.length c0_1] 25 (0, 0)) (by (with_reducible repeat (first | refine blk_drewN ?_ _ | refine blk_drew ?_ | refine blk_alloc ?_ _)); exact BK523.out) hb); have n3_ := Aside0.mk (below_step (by repeat (first | (with_reducible first | exact HB.out | apply below_alloc | apply pw_below_drewN | apply below_drew1 | refine below_set ?_ GE523.out) | exact HB.out)) hb); have n4_ := Aside0.mk (hbox); have n5_ := Aside0.mk ((by rw [hg]; exact (below_size (by repeat (first | (with_reducible first | exact HB.out | apply below_alloc | apply pw_below_drewN | apply below_drew1 | refine below_set ?_ GE523.out) | exact HB.out))) : w.heap.size ≤ gb534)); have n6_ := Aside0.mk ((by rw [hg]; exact (below_size (by repeat (first | (with_reducible first | exact HB.out | apply below_alloc | apply pw_below_drewN | apply below_drew1 | refine below_set ?_ GE523.out) | exact HB.out))) : w.heap.size ≤ gb534)); have n7_ := Aside0.mk ((by rw [hg]; exact Nat.ne_of_lt (blk_lt (g := gb523) (o := .cells #[.slice A0_0 l0_0.length c0_0, .slice A0_1 l0_1.length c0_1] 25 (0, 0)) (by (with_reducible repeat (first | refine blk_drewN ?_ _ | refine blk_drew ?_ | refine blk_alloc ?_ _)); exact BK523.out)) : gb523 ≠ gb534)); have n8_ := Aside0.mk ((by rw [hg]; exact Nat.ne_of_gt (blk_lt (g := gb523) (o := .cells #[.slice A0_0 l0_0.length c0_0, .slice A0_1 l0_1.length c0_1] 25 (0, 0)) (by (with_reducible repeat (first | refine blk_drewN ?_ _ | refine blk_drew ?_ | refine blk_alloc ?_ _)); exact BK523.out)) : gb534 ≠ gb523)); clear HO529; clear HO532; clear BK523; clear HB; have HO529 := n0_; have HO532 := n1_; have BK523 := n2_; have HB := n3_; have BK534 := n4_; have GW534 := n5_; have GE534 := n6_; have NB523_534 := n7_; have NB534_523 := n8_; clear n0_ n1_ n2_ n3_ n4_ n5_ n6_ n7_ n8_; clear hb hbox hg; obtain ⟨Ao22, co22, eo22⟩ := Kd.V_slice HO529.out; subst eo22; have hnb23 := NB534_523.out; have hnc23 := NB523_534.out; have hcz24_0 : w21.cell? ⟨gb534, 0, none⟩ = some (.slice none 0 0) := (blk_cell BK534.out 0).trans rfl; have hcz24_1 : w21.cell? ⟨gb534, 1, none⟩ = some (.slice none 0 0) := (blk_cell BK534.out 1).trans rfl; have hfz24_0 := blk_frozen BK534.out 0; have hfz24_1 := blk_frozen BK534.out 1; obtain ⟨Ao25, co25, eo25⟩ := Kd.V_slice HO532.out; subst eo25; have hcz26_0 : w21.cell? ⟨gb523, 0, none⟩ = some (.slice A0_0 l0_0.length c0_0) := (blk_cell BK523.out 0).trans rfl; have hcz26_1 : w21.cell? ⟨gb523, 1, none⟩ = some (.slice A0_1 l0_1.length c0_1) := (blk_cell BK523.out 1).trans rfl; have hfz26_0 := blk_frozen BK523.out 0; have hfz26_1 := blk_frozen BK523.out 1)); try go_wp2_with (first | (go_at_call 11; (with_reducible refine (flock_Lock.calls (fun k_ => k_ < w.heap.size) _ _ l0_0 (fun k_ => k_ < w.heap.size) _ _ l0_1 a1 a2 t527 t530 t533 _ ?side1 ?side2 A17.out).mono ?_); (case side1 => exact Kd.V_mk HC0_0.out (Kd.F_below (Kd.C_F k44_heap HR0_0.out) (by repeat (first | (with_reducible first | exact HB.out | apply below_alloc | apply pw_below_drewN | apply below_drew1 | refine below_set ?_ GE523.out) | exact HB.out)))); (case side2 => exact Kd.V_mk HC0_1.out (Kd.F_below (Kd.C_F (Kd.heap_slice 3 (Kd.heap_int .i64)) HR0_1.out) (by repeat (first | (with_reducible first | exact HB.out | apply below_alloc | apply pw_below_drewN | apply below_drew1 | refine below_set ?_ GE523.out) | exact HB.out)))); rintro e w20 ⟨v528, v531, rfl, ho0, ho1, hb⟩; have n0_ := Aside0.mk (Kd.V_lower (Kd.V_mono (ok' := fun k_ => k_ ≠ gb523) ho0 (fun k_ hk_ => Or.elim hk_ (fun hs_ => Or.elim hs_ (fun hs_ => fun e_ => Nat.not_le.2 hs_ (by rw [e_]; exact GW523.out)) (fun hs_ => fun e_ => Nat.not_le.2 hs_ (by rw [e_]; exact GW523.out))) (fun hn_ => (Kd.freshB (g := gb523) (o := .cells #[.slice A0_0 l0_0.length c0_0, .slice A0_1 l0_1.length c0_1] 25 (0, 0)) (by (with_reducible repeat (first | refine blk_drewN ?_ _ | refine blk_drew ?_ | refine blk_alloc ?_ _)); exact BK523.out) k_ hn_)))) (below_size (by repeat (first | (with_reducible first | exact HB.out | apply below_alloc | apply pw_below_drewN | apply below_drew1 | refine below_set ?_ GE523.out) | exact HB.out)))); have n1_ := Aside0.mk (Kd.V_lower (Kd.V_mono (ok' := fun k_ => k_ ≠ gb523) ho1 (fun k_ hk_ => Or.elim hk_ (fun hs_ => Or.elim hs_ (fun hs_ => fun e_ => Nat.not_le.2 hs_ (by rw [e_]; exact GW523.out)) (fun hs_ => fun e_ => Nat.not_le.2 hs_ (by rw [e_]; exact GW523.out))) (fun hn_ => (Kd.freshB (g := gb523) (o := .cells #[.slice A0_0 l0_0.length c0_0, .slice A0_1 l0_1.length c0_1] 25 (0, 0)) (by (with_reducible repeat (first | refine blk_drewN ?_ _ | refine blk_drew ?_ | refine blk_alloc ?_ _)); exact BK523.out) k_ hn_)))) (below_size (by repeat (first | (with_reducible first | exact HB.out | apply below_alloc | apply pw_below_drewN | apply below_drew1 | refine below_set ?_ GE523.out) | exact HB.out)))); have n2_ := Aside0.mk (blk_below (g := gb523) (o := .cells #[.slice A0_0 l0_0.length c0_0, .slice A0_1 l0_1.length c0_1] 25 (0, 0)) (by (with_reducible repeat (first | refine blk_drewN ?_ _ | refine blk_drew ?_ | refine blk_alloc ?_ _)); exact BK523.out) hb); have n3_ := Aside0.mk (below_step (by repeat (first | (with_reducible first | exact HB.out | apply below_alloc | apply pw_below_drewN | apply below_drew1 | refine below_set ?_ GE523.out) | exact HB.out)) hb); clear BK523; clear HB; have HO529 := n0_; have HO532 := n1_; have BK523 := n2_; have HB := n3_; clear n0_ n1_ n2_ n3_; (try clear hb); (try clear hb2); (try clear hk); (try clear hi); (try clear ho0); (try clear ho1)) | ((with_reducible refine gate_dst (N := 7) rfl ?_); refine box_event ?hg (N := 7) ?hd (cs := #[.slice none 0 0, .slice none 0 0]) (t := 25) ?hr ?_; (case hd => rfl); (case hg => rfl); (case hr => first | (go_simp; done) | (go_simp; rfl)); intro gb534 hg w21 hbox hb; have n0_ := Aside0.mk (Kd.V_below (Kd.V_elderB (by (with_reducible repeat (first | apply Kd.V_alloc | apply Kd.V_drewN | apply Kd.V_drew)); exact HO529.out) gb534 (Nat.le_of_eq hg.symm)) hb); have n1_ := Aside0.mk (Kd.V_below (Kd.V_elderB (by (with_reducible repeat (first | apply Kd.V_alloc | apply Kd.V_drewN | apply Kd.V_drew)); exact HO532.out) gb534 (Nat.le_of_eq hg.symm)) hb); have n2_ := Aside0.mk (blk_below (g := gb523) (o := .cells #[.slice A0_0 l0_0.length c0_0, .slice A0_1 l0_1.length c0_1] 25 (0, 0)) (by (with_reducible repeat (first | refine blk_drewN ?_ _ | refine blk_drew ?_ | refine blk_alloc ?_ _)); exact BK523.out) hb); have n3_ := Aside0.mk (below_step (by repeat (first | (with_reducible first | exact HB.out | apply below_alloc | apply pw_below_drewN | apply below_drew1 | refine below_set ?_ GE523.out) | exact HB.out)) hb); have n4_ := Aside0.mk (hbox); have n5_ := Aside0.mk ((by rw [hg]; exact (below_size (by repeat (first | (with_reducible first | exact HB.out | apply below_alloc | apply pw_below_drewN | apply below_drew1 | refine below_set ?_ GE523.out) | exact HB.out))) : w.heap.size ≤ gb534)); have n6_ := Aside0.mk ((by rw [hg]; exact (below_size (by repeat (first | (with_reducible first | exact HB.out | apply below_alloc | apply pw_below_drewN | apply below_drew1 | refine below_set ?_ GE523.out) | exact HB.out))) : w.heap.size ≤ gb534)); have n7_ := Aside0.mk ((by rw [hg]; exact Nat.ne_of_lt (blk_lt (g := gb523) (o := .cells #[.slice A0_0 l0_0.length c0_0, .slice A0_1 l0_1.length c0_1] 25 (0, 0)) (by (with_reducible repeat (first | refine blk_drewN ?_ _ | refine blk_drew ?_ | refine blk_alloc ?_ _)); exact BK523.out)) : gb523 ≠ gb534)); have n8_ := Aside0.mk ((by rw [hg]; exact Nat.ne_of_gt (blk_lt (g := gb523) (o := .cells #[.slice A0_0 l0_0.length c0_0, .slice A0_1 l0_1.length c0_1] 25 (0, 0)) (by (with_reducible repeat (first | refine blk_drewN ?_ _ | refine blk_drew ?_ | refine blk_alloc ?_ _)); exact BK523.out)) : gb534 ≠ gb523)); clear HO529; clear HO532; clear BK523; clear HB; have HO529 := n0_; have HO532 := n1_; have BK523 := n2_; have HB := n3_; have BK534 := n4_; have GW534 := n5_; have GE534 := n6_; have NB523_534 := n7_; have NB534_523 := n8_; clear n0_ n1_ n2_ n3_ n4_ n5_ n6_ n7_ n8_; clear hb hbox hg; obtain ⟨Ao22, co22, eo22⟩ := Kd.V_slice HO529.out; subst eo22; have hnb23 := NB534_523.out; have hnc23 := NB523_534.out; have hcz24_0 : w21.cell? ⟨gb534, 0, none⟩ = some (.slice none 0 0) := (blk_cell BK534.out 0).trans rfl; have hcz24_1 : w21.cell? ⟨gb534, 1, none⟩ = some (.slice none 0 0) := (blk_cell BK534.out 1).trans rfl; have hfz24_0 := blk_frozen BK534.out 0; have hfz24_1 := blk_frozen BK534.out 1; obtain ⟨Ao25, co25, eo25⟩ := Kd.V_slice HO532.out; subst eo25; have hcz26_0 : w21.cell? ⟨gb523, 0, none⟩ = some (.slice A0_0 l0_0.length c0_0) := (blk_cell BK523.out 0).trans rfl; have hcz26_1 : w21.cell? ⟨gb523, 1, none⟩ = some (.slice A0_1 l0_1.length c0_1) := (blk_cell BK523.out 1).trans rfl; have hfz26_0 := blk_frozen BK523.out 0; have hfz26_1 := blk_frozen BK523.out 1)))
          go_loopg [9] kj3 (fun kq v9 w' => ∃ (x9_2 : Int), v9 = .int .i64 x9_2 ∧ Aside0 (flagstonelaw11_FlockKeeps.l0 kq a1 x9_2 l0_0 l0_1 t527 t530 = some r) ∧ Aside0 (kq ≤ kj3) ∧ Aside0 (Kd.V k44 44 w' w.heap.size (fun k_ => k_ ≠ gb523 ∧ k_ ≠ gb534) (.slice Ao22 t527.length co22) t527) ∧ Aside0 (Kd.V (Kd.slice 3 (Kd.int .i64)) 48 w' w.heap.size (fun k_ => k_ ≠ gb523 ∧ k_ ≠ gb534) (.slice Ao25 t530.length co25) t530) ∧ Aside0 (w'.heap[gb523]? = some (.cells #[(.slice A0_0 l0_0.length c0_0), (.slice A0_1 l0_1.length c0_1)] 25 (0, 0))) ∧ Aside0 (w'.heap[gb534]? = some (.cells #[(.slice Ao22 t527.length co22), (.slice Ao25 t530.length co25)] 25 (0, 0))) ∧ Aside0 (Below w.heap.size w w'))
          case atStart => exact ⟨(0), (by first | rfl | (simp; done) | (simp [*]; done)), H', ⟨Nat.le_refl _⟩, ⟨by (with_reducible repeat (first | apply Kd.V_alloc | apply Kd.V_drewN | apply Kd.V_drew)); exact Kd.V_mono (Kd.V_far (p := ⟨gb534, 1, none⟩) (Kd.V_far (p := ⟨gb534, 0, none⟩) (Kd.V_mono HO529.out (fun k_ hk => (⟨hk, hk.2⟩ : _ ∧ k_ ≠ gb534))) (fun _ hk => hk.2) (.slice Ao22 t527.length co22)) (fun _ hk => hk.2) (.slice Ao25 t530.length co25)) (fun _ hk => ⟨hk.1.1, hk.1.2⟩)⟩, ⟨by (with_reducible repeat (first | apply Kd.V_alloc | apply Kd.V_drewN | apply Kd.V_drew)); exact Kd.V_mono (Kd.V_far (p := ⟨gb534, 1, none⟩) (Kd.V_far (p := ⟨gb534, 0, none⟩) (Kd.V_mono HO532.out (fun k_ hk => (⟨hk, hk.2⟩ : _ ∧ k_ ≠ gb534))) (fun _ hk => hk.2) (.slice Ao22 t527.length co22)) (fun _ hk => hk.2) (.slice Ao25 t530.length co25)) (fun _ hk => ⟨hk.1.1, hk.1.2⟩)⟩, ⟨by (with_reducible repeat (first | refine blk_drewN ?_ _ | refine blk_drew ?_ | refine blk_alloc ?_ _)); refine blk_far ?_ NB523_534.out _; (with_reducible repeat (first | refine blk_drewN ?_ _ | refine blk_drew ?_ | refine blk_alloc ?_ _)); refine blk_far ?_ NB523_534.out _; (with_reducible repeat (first | refine blk_drewN ?_ _ | refine blk_drew ?_ | refine blk_alloc ?_ _)); exact BK523.out⟩, ⟨by (with_reducible repeat (first | refine blk_drewN ?_ _ | refine blk_drew ?_ | refine blk_alloc ?_ _)); refine blk_put (cs := #[.slice Ao22 t527.length co22, .slice none 0 0]) ?_ 1 _ rfl; (with_reducible repeat (first | refine blk_drewN ?_ _ | refine blk_drew ?_ | refine blk_alloc ?_ _)); refine blk_put (cs := #[.slice none 0 0, .slice none 0 0]) ?_ 0 _ rfl; (with_reducible repeat (first | refine blk_drewN ?_ _ | refine blk_drew ?_ | refine blk_alloc ?_ _)); exact BK534.out⟩, ⟨by repeat (first | (with_reducible first | exact HB.out | apply below_alloc | apply pw_below_drewN | apply below_drew1 | refine below_set ?_ GE523.out | refine below_set ?_ GE534.out) | exact HB.out)⟩⟩
          case round =>
            clear H'
            try clear c1
            try clear c2
            try clear p2
            try clear c7
            try clear c8
            try clear c14
            try clear c18
            try clear c18b0
            try clear c18b1
            try clear c18b2
            try clear c23
            try clear hcz12_0
            try clear hcz12_1
            try clear hcz19_0
            try clear hcz19_1
            try clear hcz24_0
            try clear hcz24_1
            try clear hcz26_0
            try clear hcz26_1
            try clear hcz9_0
            try clear hcz9_1
            try clear hfz12_0
            try clear hfz12_1
            try clear hfz19_0
            try clear hfz19_1
            try clear hfz24_0
            try clear hfz24_1
            try clear hfz26_0
            try clear hfz26_1
            try clear hfz9_0
            try clear hfz9_1
            try clear p2
            obtain ⟨x9_2, rfl, HA, HK2, HO_535000, HO_535001, BK523, BK534, HB⟩ := hrel
            cases gk with
            | zero => exact absurd HA.out (by simp [flagstonelaw11_FlockKeeps.l0])
            | succ k2 =>
              have H := HA.out
              clear HA
              simp only [flagstonelaw11_FlockKeeps.l0] at H
              by_cases c27 : x9_2 < (l0_0.length : Int)
              · rw [if_pos c27] at H
                have c27b0 : decide (x9_2 < (l0_0.length : Int)) = true := decide_eq_true c27
                clear c27
                by_cases c28 : 0 ≤ x9_2
                · rw [if_pos c28] at H
                  have c28b0 : decide (0 ≤ x9_2) = true := decide_eq_true c28
                  clear c28
                  by_cases c29 : x9_2 < (t527.length : Int)
                  · rw [if_pos c29] at H
                    have c29b0 : decide (x9_2 < (t527.length : Int)) = true := decide_eq_true c29
                    clear c29
                    have HC30 := Aside0.mk H
                    clear H
                    have hnb31 := NB523_534.out
                    have hnc31 := NB534_523.out
                    have hcz32_0 : wr.cell? ⟨gb523, 0, none⟩ = some (.slice A0_0 l0_0.length c0_0) := (blk_cell BK523.out 0).trans rfl
                    have hcz32_1 : wr.cell? ⟨gb523, 1, none⟩ = some (.slice A0_1 l0_1.length c0_1) := (blk_cell BK523.out 1).trans rfl
                    have hfz32_0 := blk_frozen BK523.out 0
                    have hfz32_1 := blk_frozen BK523.out 1
                    have hcz33_0 : wr.cell? ⟨gb534, 0, none⟩ = some (.slice Ao22 t527.length co22) := (blk_cell BK534.out 0).trans rfl
                    have hcz33_1 : wr.cell? ⟨gb534, 1, none⟩ = some (.slice Ao25 t530.length co25) := (blk_cell BK534.out 1).trans rfl
                    have hfz33_0 := blk_frozen BK534.out 0
                    have hfz33_1 := blk_frozen BK534.out 1
                    have p535 : 0 ≤ (x9_2 : Int) := of_decide_eq_true (by first | (with_reducible assumption) | assumption)
                    have q535 : x9_2 < (t527.length : Int) := of_decide_eq_true (by first | (with_reducible assumption) | assumption)
                    obtain ⟨ad535, e535, hx535_0, hx535_1, hx535_2, hx535_3, hx535_4, hx535_5⟩ := at_T44 (Kd.V_reads' HO_535000.out).2.2 x9_2 p535 q535
                    cases e535
                    replace p535 := eq_true p535
                    replace q535 := eq_true q535
                    go_upto_if 47 with (first | ((with_reducible refine gate_dst (N := 10) rfl ?_); refine box_event ?hg (N := 10) ?hd (cs := #[.int .i64 0, .int .i64 0, .bool false, .bool false, .int .i64 0, .int .i64 0]) (t := 44) ?hr ?_; (case hd => rfl); (case hg => rfl); (case hr => first | (go_simp; done) | (go_simp; rfl)); intro gb536 hg w34 hbox hb; have n0_ := Aside0.mk (Kd.V_below (Kd.V_elderB (by (with_reducible repeat (first | apply Kd.V_alloc | apply Kd.V_drewN | apply Kd.V_drew)); exact HO_535000.out) gb536 (Nat.le_of_eq hg.symm)) hb); have n1_ := Aside0.mk (Kd.V_below (Kd.V_elderB (by (with_reducible repeat (first | apply Kd.V_alloc | apply Kd.V_drewN | apply Kd.V_drew)); exact HO_535001.out) gb536 (Nat.le_of_eq hg.symm)) hb); have n2_ := Aside0.mk (blk_below (g := gb523) (o := .cells #[.slice A0_0 l0_0.length c0_0, .slice A0_1 l0_1.length c0_1] 25 (0, 0)) (by (with_reducible repeat (first | refine blk_drewN ?_ _ | refine blk_drew ?_ | refine blk_alloc ?_ _)); exact BK523.out) hb); have n3_ := Aside0.mk (blk_below (g := gb534) (o := .cells #[.slice (some ad535) t527.length co22, .slice Ao25 t530.length co25] 25 (0, 0)) (by (with_reducible repeat (first | refine blk_drewN ?_ _ | refine blk_drew ?_ | refine blk_alloc ?_ _)); exact BK534.out) hb); have n4_ := Aside0.mk (below_step (by repeat (first | (with_reducible first | exact HB.out | apply below_alloc | apply pw_below_drewN | apply below_drew1 | refine below_set ?_ GE523.out | refine below_set ?_ GE534.out) | exact HB.out)) hb); have n5_ := Aside0.mk (hbox); have n6_ := Aside0.mk ((by rw [hg]; exact (below_size (by repeat (first | (with_reducible first | exact HB.out | apply below_alloc | apply pw_below_drewN | apply below_drew1 | refine below_set ?_ GE523.out | refine below_set ?_ GE534.out) | exact HB.out))) : w.heap.size ≤ gb536)); have n7_ := Aside0.mk ((by rw [hg]; exact (below_size (by repeat (first | (with_reducible first | exact HB.out | apply below_alloc | apply pw_below_drewN | apply below_drew1 | refine below_set ?_ GE523.out | refine below_set ?_ GE534.out) | exact HB.out))) : w.heap.size ≤ gb536)); have n8_ := Aside0.mk ((by rw [hg]; exact Nat.ne_of_lt (blk_lt (g := gb523) (o := .cells #[.slice A0_0 l0_0.length c0_0, .slice A0_1 l0_1.length c0_1] 25 (0, 0)) (by (with_reducible repeat (first | refine blk_drewN ?_ _ | refine blk_drew ?_ | refine blk_alloc ?_ _)); exact BK523.out)) : gb523 ≠ gb536)); have n9_ := Aside0.mk ((by rw [hg]; exact Nat.ne_of_gt (blk_lt (g := gb523) (o := .cells #[.slice A0_0 l0_0.length c0_0, .slice A0_1 l0_1.length c0_1] 25 (0, 0)) (by (with_reducible repeat (first | refine blk_drewN ?_ _ | refine blk_drew ?_ | refine blk_alloc ?_ _)); exact BK523.out)) : gb536 ≠ gb523)); have n10_ := Aside0.mk ((by rw [hg]; exact Nat.ne_of_lt (blk_lt (g := gb534) (o := .cells #[.slice (some ad535) t527.length co22, .slice Ao25 t530.length co25] 25 (0, 0)) (by (with_reducible repeat (first | refine blk_drewN ?_ _ | refine blk_drew ?_ | refine blk_alloc ?_ _)); exact BK534.out)) : gb534 ≠ gb536)); have n11_ := Aside0.mk ((by rw [hg]; exact Nat.ne_of_gt (blk_lt (g := gb534) (o := .cells #[.slice (some ad535) t527.length co22, .slice Ao25 t530.length co25] 25 (0, 0)) (by (with_reducible repeat (first | refine blk_drewN ?_ _ | refine blk_drew ?_ | refine blk_alloc ?_ _)); exact BK534.out)) : gb536 ≠ gb534)); clear HO_535000; clear HO_535001; clear BK523; clear BK534; clear HB; have HO_535000 := n0_; have HO_535001 := n1_; have BK523 := n2_; have BK534 := n3_; have HB := n4_; have BK536 := n5_; have GW536 := n6_; have GE536 := n7_; have NB523_536 := n8_; have NB536_523 := n9_; have NB534_536 := n10_; have NB536_534 := n11_; clear n0_ n1_ n2_ n3_ n4_ n5_ n6_ n7_ n8_ n9_ n10_ n11_; clear hb hbox hg; have hnb35 := NB536_523.out; have hnc35 := NB523_536.out; have hnb36 := NB536_534.out; have hnc36 := NB534_536.out; have hcz37_0 : w34.cell? ⟨gb536, 0, none⟩ = some (.int .i64 0) := (blk_cell BK536.out 0).trans rfl; have hcz37_1 : w34.cell? ⟨gb536, 1, none⟩ = some (.int .i64 0) := (blk_cell BK536.out 1).trans rfl; have hcz37_2 : w34.cell? ⟨gb536, 2, none⟩ = some (.bool false) := (blk_cell BK536.out 2).trans rfl; have hcz37_3 : w34.cell? ⟨gb536, 3, none⟩ = some (.bool false) := (blk_cell BK536.out 3).trans rfl; have hcz37_4 : w34.cell? ⟨gb536, 4, none⟩ = some (.int .i64 0) := (blk_cell BK536.out 4).trans rfl; have hcz37_5 : w34.cell? ⟨gb536, 5, none⟩ = some (.int .i64 0) := (blk_cell BK536.out 5).trans rfl; have hfz37_0 := blk_frozen BK536.out 0; have hfz37_1 := blk_frozen BK536.out 1; have hfz37_2 := blk_frozen BK536.out 2; have hfz37_3 := blk_frozen BK536.out 3; have hfz37_4 := blk_frozen BK536.out 4; have hfz37_5 := blk_frozen BK536.out 5))
                    repeat (go_quiet (first | ((with_reducible refine gate_dst (N := 10) rfl ?_); refine box_event ?hg (N := 10) ?hd (cs := #[.int .i64 0, .int .i64 0, .bool false, .bool false, .int .i64 0, .int .i64 0]) (t := 44) ?hr ?_; (case hd => rfl); (case hg => rfl); (case hr => first | (go_simp; done) | (go_simp; rfl)); intro gb536 hg w34 hbox hb; have n0_ := Aside0.mk (Kd.V_below (Kd.V_elderB (by (with_reducible repeat (first | apply Kd.V_alloc | apply Kd.V_drewN | apply Kd.V_drew)); exact HO_535000.out) gb536 (Nat.le_of_eq hg.symm)) hb); have n1_ := Aside0.mk (Kd.V_below (Kd.V_elderB (by (with_reducible repeat (first | apply Kd.V_alloc | apply Kd.V_drewN | apply Kd.V_drew)); exact HO_535001.out) gb536 (Nat.le_of_eq hg.symm)) hb); have n2_ := Aside0.mk (blk_below (g := gb523) (o := .cells #[.slice A0_0 l0_0.length c0_0, .slice A0_1 l0_1.length c0_1] 25 (0, 0)) (by (with_reducible repeat (first | refine blk_drewN ?_ _ | refine blk_drew ?_ | refine blk_alloc ?_ _)); exact BK523.out) hb); have n3_ := Aside0.mk (blk_below (g := gb534) (o := .cells #[.slice (some ad535) t527.length co22, .slice Ao25 t530.length co25] 25 (0, 0)) (by (with_reducible repeat (first | refine blk_drewN ?_ _ | refine blk_drew ?_ | refine blk_alloc ?_ _)); exact BK534.out) hb); have n4_ := Aside0.mk (below_step (by repeat (first | (with_reducible first | exact HB.out | apply below_alloc | apply pw_below_drewN | apply below_drew1 | refine below_set ?_ GE523.out | refine below_set ?_ GE534.out) | exact HB.out)) hb); have n5_ := Aside0.mk (hbox); have n6_ := Aside0.mk ((by rw [hg]; exact (below_size (by repeat (first | (with_reducible first | exact HB.out | apply below_alloc | apply pw_below_drewN | apply below_drew1 | refine below_set ?_ GE523.out | refine below_set ?_ GE534.out) | exact HB.out))) : w.heap.size ≤ gb536)); have n7_ := Aside0.mk ((by rw [hg]; exact (below_size (by repeat (first | (with_reducible first | exact HB.out | apply below_alloc | apply pw_below_drewN | apply below_drew1 | refine below_set ?_ GE523.out | refine below_set ?_ GE534.out) | exact HB.out))) : w.heap.size ≤ gb536)); have n8_ := Aside0.mk ((by rw [hg]; exact Nat.ne_of_lt (blk_lt (g := gb523) (o := .cells #[.slice A0_0 l0_0.length c0_0, .slice A0_1 l0_1.length c0_1] 25 (0, 0)) (by (with_reducible repeat (first | refine blk_drewN ?_ _ | refine blk_drew ?_ | refine blk_alloc ?_ _)); exact BK523.out)) : gb523 ≠ gb536)); have n9_ := Aside0.mk ((by rw [hg]; exact Nat.ne_of_gt (blk_lt (g := gb523) (o := .cells #[.slice A0_0 l0_0.length c0_0, .slice A0_1 l0_1.length c0_1] 25 (0, 0)) (by (with_reducible repeat (first | refine blk_drewN ?_ _ | refine blk_drew ?_ | refine blk_alloc ?_ _)); exact BK523.out)) : gb536 ≠ gb523)); have n10_ := Aside0.mk ((by rw [hg]; exact Nat.ne_of_lt (blk_lt (g := gb534) (o := .cells #[.slice (some ad535) t527.length co22, .slice Ao25 t530.length co25] 25 (0, 0)) (by (with_reducible repeat (first | refine blk_drewN ?_ _ | refine blk_drew ?_ | refine blk_alloc ?_ _)); exact BK534.out)) : gb534 ≠ gb536)); have n11_ := Aside0.mk ((by rw [hg]; exact Nat.ne_of_gt (blk_lt (g := gb534) (o := .cells #[.slice (some ad535) t527.length co22, .slice Ao25 t530.length co25] 25 (0, 0)) (by (with_reducible repeat (first | refine blk_drewN ?_ _ | refine blk_drew ?_ | refine blk_alloc ?_ _)); exact BK534.out)) : gb536 ≠ gb534)); clear HO_535000; clear HO_535001; clear BK523; clear BK534; clear HB; have HO_535000 := n0_; have HO_535001 := n1_; have BK523 := n2_; have BK534 := n3_; have HB := n4_; have BK536 := n5_; have GW536 := n6_; have GE536 := n7_; have NB523_536 := n8_; have NB536_523 := n9_; have NB534_536 := n10_; have NB536_534 := n11_; clear n0_ n1_ n2_ n3_ n4_ n5_ n6_ n7_ n8_ n9_ n10_ n11_; clear hb hbox hg; have hnb35 := NB536_523.out; have hnc35 := NB523_536.out; have hnb36 := NB536_534.out; have hnc36 := NB534_536.out; have hcz37_0 : w34.cell? ⟨gb536, 0, none⟩ = some (.int .i64 0) := (blk_cell BK536.out 0).trans rfl; have hcz37_1 : w34.cell? ⟨gb536, 1, none⟩ = some (.int .i64 0) := (blk_cell BK536.out 1).trans rfl; have hcz37_2 : w34.cell? ⟨gb536, 2, none⟩ = some (.bool false) := (blk_cell BK536.out 2).trans rfl; have hcz37_3 : w34.cell? ⟨gb536, 3, none⟩ = some (.bool false) := (blk_cell BK536.out 3).trans rfl; have hcz37_4 : w34.cell? ⟨gb536, 4, none⟩ = some (.int .i64 0) := (blk_cell BK536.out 4).trans rfl; have hcz37_5 : w34.cell? ⟨gb536, 5, none⟩ = some (.int .i64 0) := (blk_cell BK536.out 5).trans rfl; have hfz37_0 := blk_frozen BK536.out 0; have hfz37_1 := blk_frozen BK536.out 1; have hfz37_2 := blk_frozen BK536.out 2; have hfz37_3 := blk_frozen BK536.out 3; have hfz37_4 := blk_frozen BK536.out 4; have hfz37_5 := blk_frozen BK536.out 5)); go_upto_if 47 with (first | ((with_reducible refine gate_dst (N := 10) rfl ?_); refine box_event ?hg (N := 10) ?hd (cs := #[.int .i64 0, .int .i64 0, .bool false, .bool false, .int .i64 0, .int .i64 0]) (t := 44) ?hr ?_; (case hd => rfl); (case hg => rfl); (case hr => first | (go_simp; done) | (go_simp; rfl)); intro gb536 hg w34 hbox hb; have n0_ := Aside0.mk (Kd.V_below (Kd.V_elderB (by (with_reducible repeat (first | apply Kd.V_alloc | apply Kd.V_drewN | apply Kd.V_drew)); exact HO_535000.out) gb536 (Nat.le_of_eq hg.symm)) hb); have n1_ := Aside0.mk (Kd.V_below (Kd.V_elderB (by (with_reducible repeat (first | apply Kd.V_alloc | apply Kd.V_drewN | apply Kd.V_drew)); exact HO_535001.out) gb536 (Nat.le_of_eq hg.symm)) hb); have n2_ := Aside0.mk (blk_below (g := gb523) (o := .cells #[.slice A0_0 l0_0.length c0_0, .slice A0_1 l0_1.length c0_1] 25 (0, 0)) (by (with_reducible repeat (first | refine blk_drewN ?_ _ | refine blk_drew ?_ | refine blk_alloc ?_ _)); exact BK523.out) hb); have n3_ := Aside0.mk (blk_below (g := gb534) (o := .cells #[.slice (some ad535) t527.length co22, .slice Ao25 t530.length co25] 25 (0, 0)) (by (with_reducible repeat (first | refine blk_drewN ?_ _ | refine blk_drew ?_ | refine blk_alloc ?_ _)); exact BK534.out) hb); have n4_ := Aside0.mk (below_step (by repeat (first | (with_reducible first | exact HB.out | apply below_alloc | apply pw_below_drewN | apply below_drew1 | refine below_set ?_ GE523.out | refine below_set ?_ GE534.out) | exact HB.out)) hb); have n5_ := Aside0.mk (hbox); have n6_ := Aside0.mk ((by rw [hg]; exact (below_size (by repeat (first | (with_reducible first | exact HB.out | apply below_alloc | apply pw_below_drewN | apply below_drew1 | refine below_set ?_ GE523.out | refine below_set ?_ GE534.out) | exact HB.out))) : w.heap.size ≤ gb536)); have n7_ := Aside0.mk ((by rw [hg]; exact (below_size (by repeat (first | (with_reducible first | exact HB.out | apply below_alloc | apply pw_below_drewN | apply below_drew1 | refine below_set ?_ GE523.out | refine below_set ?_ GE534.out) | exact HB.out))) : w.heap.size ≤ gb536)); have n8_ := Aside0.mk ((by rw [hg]; exact Nat.ne_of_lt (blk_lt (g := gb523) (o := .cells #[.slice A0_0 l0_0.length c0_0, .slice A0_1 l0_1.length c0_1] 25 (0, 0)) (by (with_reducible repeat (first | refine blk_drewN ?_ _ | refine blk_drew ?_ | refine blk_alloc ?_ _)); exact BK523.out)) : gb523 ≠ gb536)); have n9_ := Aside0.mk ((by rw [hg]; exact Nat.ne_of_gt (blk_lt (g := gb523) (o := .cells #[.slice A0_0 l0_0.length c0_0, .slice A0_1 l0_1.length c0_1] 25 (0, 0)) (by (with_reducible repeat (first | refine blk_drewN ?_ _ | refine blk_drew ?_ | refine blk_alloc ?_ _)); exact BK523.out)) : gb536 ≠ gb523)); have n10_ := Aside0.mk ((by rw [hg]; exact Nat.ne_of_lt (blk_lt (g := gb534) (o := .cells #[.slice (some ad535) t527.length co22, .slice Ao25 t530.length co25] 25 (0, 0)) (by (with_reducible repeat (first | refine blk_drewN ?_ _ | refine blk_drew ?_ | refine blk_alloc ?_ _)); exact BK534.out)) : gb534 ≠ gb536)); have n11_ := Aside0.mk ((by rw [hg]; exact Nat.ne_of_gt (blk_lt (g := gb534) (o := .cells #[.slice (some ad535) t527.length co22, .slice Ao25 t530.length co25] 25 (0, 0)) (by (with_reducible repeat (first | refine blk_drewN ?_ _ | refine blk_drew ?_ | refine blk_alloc ?_ _)); exact BK534.out)) : gb536 ≠ gb534)); clear HO_535000; clear HO_535001; clear BK523; clear BK534; clear HB; have HO_535000 := n0_; have HO_535001 := n1_; have BK523 := n2_; have BK534 := n3_; have HB := n4_; have BK536 := n5_; have GW536 := n6_; have GE536 := n7_; have NB523_536 := n8_; have NB536_523 := n9_; have NB534_536 := n10_; have NB536_534 := n11_; clear n0_ n1_ n2_ n3_ n4_ n5_ n6_ n7_ n8_ n9_ n10_ n11_; clear hb hbox hg; have hnb35 := NB536_523.out; have hnc35 := NB523_536.out; have hnb36 := NB536_534.out; have hnc36 := NB534_536.out; have hcz37_0 : w34.cell? ⟨gb536, 0, none⟩ = some (.int .i64 0) := (blk_cell BK536.out 0).trans rfl; have hcz37_1 : w34.cell? ⟨gb536, 1, none⟩ = some (.int .i64 0) := (blk_cell BK536.out 1).trans rfl; have hcz37_2 : w34.cell? ⟨gb536, 2, none⟩ = some (.bool false) := (blk_cell BK536.out 2).trans rfl; have hcz37_3 : w34.cell? ⟨gb536, 3, none⟩ = some (.bool false) := (blk_cell BK536.out 3).trans rfl; have hcz37_4 : w34.cell? ⟨gb536, 4, none⟩ = some (.int .i64 0) := (blk_cell BK536.out 4).trans rfl; have hcz37_5 : w34.cell? ⟨gb536, 5, none⟩ = some (.int .i64 0) := (blk_cell BK536.out 5).trans rfl; have hfz37_0 := blk_frozen BK536.out 0; have hfz37_1 := blk_frozen BK536.out 1; have hfz37_2 := blk_frozen BK536.out 2; have hfz37_3 := blk_frozen BK536.out 3; have hfz37_4 := blk_frozen BK536.out 4; have hfz37_5 := blk_frozen BK536.out 5)))
                    (try simp only [Act.put, List.setIfInBounds_toArray, List.set_cons_zero, List.set_cons_succ])
                    go_cut [] (fun wc => ∃ (kq : Nat) (x537005_29 : Int), Aside0 (flagstonelaw11_FlockKeeps.j2 kq a1 x9_2 l0_0 l0_1 t527 t530 ((rd_T44 t527 x9_2).f0) ((rd_T44 t527 x9_2).f1) ((rd_T44 t527 x9_2).f2) ((rd_T44 t527 x9_2).f3) ((rd_T44 t527 x9_2).f4) x537005_29 = some r) ∧ Aside0 (kq ≤ k2) ∧ Aside0 (Kd.V k44 44 wc w.heap.size (fun k_ => k_ ≠ gb523 ∧ k_ ≠ gb534 ∧ k_ ≠ gb536) (.slice (some ad535) t527.length co22) t527) ∧ Aside0 (Kd.V (Kd.slice 3 (Kd.int .i64)) 48 wc w.heap.size (fun k_ => k_ ≠ gb523 ∧ k_ ≠ gb534 ∧ k_ ≠ gb536) (.slice Ao25 t530.length co25) t530) ∧ Aside0 (wc.heap[gb523]? = some (.cells #[(.slice A0_0 l0_0.length c0_0), (.slice A0_1 l0_1.length c0_1)] 25 (0, 0))) ∧ Aside0 (wc.heap[gb534]? = some (.cells #[(.slice (some ad535) t527.length co22), (.slice Ao25 t530.length co25)] 25 (0, 0))) ∧ Aside0 (wc.heap[gb536]? = some (.cells #[.int .i64 ((rd_T44 t527 x9_2).f0), .int .i64 ((rd_T44 t527 x9_2).f1), .bool ((rd_T44 t527 x9_2).f2), .bool ((rd_T44 t527 x9_2).f3), .int .i64 ((rd_T44 t527 x9_2).f4), .int .i64 x537005_29] 44 (0, 0))) ∧ Aside0 (Below w.heap.size w wc))
                    case first =>
                      have H := HC30.out
                      clear HC30
                      by_cases c38 : x9_2 = a1
                      · rw [if_pos c38] at H
                        have c38b0 : (x9_2 == a1) = true := beq_iff_eq.mpr c38
                        have c38b1 : (x9_2 != a1) = false := bne_eq_false_iff_eq.mpr c38
                        clear c38
                        (first | rw [c38b0] | (simp only [i64_w, i32_w]; rw [c38b0]) | skip)
                        have H' := Aside0.mk H
                        clear H
                        have hnb39 := NB523_534.out
                        have hnc39 := NB534_523.out
                        have hnb40 := NB523_536.out
                        have hnc40 := NB536_523.out
                        have hcz41_0 : w34.cell? ⟨gb523, 0, none⟩ = some (.slice A0_0 l0_0.length c0_0) := (blk_cell BK523.out 0).trans rfl
                        have hcz41_1 : w34.cell? ⟨gb523, 1, none⟩ = some (.slice A0_1 l0_1.length c0_1) := (blk_cell BK523.out 1).trans rfl
                        have hfz41_0 := blk_frozen BK523.out 0
                        have hfz41_1 := blk_frozen BK523.out 1
                        have p537 : 0 ≤ (x9_2 : Int) := of_decide_eq_true (by first | (with_reducible assumption) | assumption)
                        have q537 : x9_2 < (l0_0.length : Int) := of_decide_eq_true (by first | (with_reducible assumption) | assumption)
                        obtain ⟨ad537, e537, hx537_0, hx537_1, hx537_2, hx537_3, hx537_4, hx537_5⟩ := at_T44 HR0_0.out x9_2 p537 q537
                        cases e537
                        have hn537_0 : ad537.block ≠ gb536 := Nat.ne_of_lt (Nat.lt_of_lt_of_le (by have := World.block_lt_of_cell? _ _ hx537_0; first | rwa [add_block] at this | exact this) GW536.out)
                        have hn537_1 : ad537.block ≠ gb536 := Nat.ne_of_lt (Nat.lt_of_lt_of_le (by have := World.block_lt_of_cell? _ _ hx537_0; first | rwa [add_block] at this | exact this) GW536.out)
                        have hn537_2 : ad537.block ≠ gb536 := Nat.ne_of_lt (Nat.lt_of_lt_of_le (by have := World.block_lt_of_cell? _ _ hx537_0; first | rwa [add_block] at this | exact this) GW536.out)
                        have hn537_3 : ad537.block ≠ gb536 := Nat.ne_of_lt (Nat.lt_of_lt_of_le (by have := World.block_lt_of_cell? _ _ hx537_0; first | rwa [add_block] at this | exact this) GW536.out)
                        have hn537_4 : ad537.block ≠ gb536 := Nat.ne_of_lt (Nat.lt_of_lt_of_le (by have := World.block_lt_of_cell? _ _ hx537_0; first | rwa [add_block] at this | exact this) GW536.out)
                        have hn537_5 : ad537.block ≠ gb536 := Nat.ne_of_lt (Nat.lt_of_lt_of_le (by have := World.block_lt_of_cell? _ _ hx537_0; first | rwa [add_block] at this | exact this) GW536.out)
                        replace hx537_0 := (HB.out.cell (World.block_lt_of_cell? w _ hx537_0)).trans hx537_0
                        replace hx537_1 := (HB.out.cell (World.block_lt_of_cell? w _ hx537_1)).trans hx537_1
                        replace hx537_2 := (HB.out.cell (World.block_lt_of_cell? w _ hx537_2)).trans hx537_2
                        replace hx537_3 := (HB.out.cell (World.block_lt_of_cell? w _ hx537_3)).trans hx537_3
                        replace hx537_4 := (HB.out.cell (World.block_lt_of_cell? w _ hx537_4)).trans hx537_4
                        replace hx537_5 := (HB.out.cell (World.block_lt_of_cell? w _ hx537_5)).trans hx537_5
                        replace hx537_0 := (cell_far (p := ⟨gb536, 0, none⟩) (by first | (rw [add_block]; exact hn537_0) | (show (Addr.add _ _).block ≠ _; rw [add_block]; exact hn537_0) | exact hn537_0) (.int .i64 ((rd_T44 t527 x9_2).f0))).trans hx537_0
                        replace hx537_1 := (cell_far (p := ⟨gb536, 0, none⟩) (by first | (rw [add_block]; exact hn537_0) | (show (Addr.add _ _).block ≠ _; rw [add_block]; exact hn537_0) | exact hn537_0) (.int .i64 ((rd_T44 t527 x9_2).f0))).trans hx537_1
                        replace hx537_2 := (cell_far (p := ⟨gb536, 0, none⟩) (by first | (rw [add_block]; exact hn537_0) | (show (Addr.add _ _).block ≠ _; rw [add_block]; exact hn537_0) | exact hn537_0) (.int .i64 ((rd_T44 t527 x9_2).f0))).trans hx537_2
                        replace hx537_3 := (cell_far (p := ⟨gb536, 0, none⟩) (by first | (rw [add_block]; exact hn537_0) | (show (Addr.add _ _).block ≠ _; rw [add_block]; exact hn537_0) | exact hn537_0) (.int .i64 ((rd_T44 t527 x9_2).f0))).trans hx537_3
                        replace hx537_4 := (cell_far (p := ⟨gb536, 0, none⟩) (by first | (rw [add_block]; exact hn537_0) | (show (Addr.add _ _).block ≠ _; rw [add_block]; exact hn537_0) | exact hn537_0) (.int .i64 ((rd_T44 t527 x9_2).f0))).trans hx537_4
                        replace hx537_5 := (cell_far (p := ⟨gb536, 0, none⟩) (by first | (rw [add_block]; exact hn537_0) | (show (Addr.add _ _).block ≠ _; rw [add_block]; exact hn537_0) | exact hn537_0) (.int .i64 ((rd_T44 t527 x9_2).f0))).trans hx537_5
                        replace hx537_0 := (cell_far (p := ⟨gb536, 1, none⟩) (by first | (rw [add_block]; exact hn537_1) | (show (Addr.add _ _).block ≠ _; rw [add_block]; exact hn537_1) | exact hn537_1) (.int .i64 ((rd_T44 t527 x9_2).f1))).trans hx537_0
                        replace hx537_1 := (cell_far (p := ⟨gb536, 1, none⟩) (by first | (rw [add_block]; exact hn537_1) | (show (Addr.add _ _).block ≠ _; rw [add_block]; exact hn537_1) | exact hn537_1) (.int .i64 ((rd_T44 t527 x9_2).f1))).trans hx537_1
                        replace hx537_2 := (cell_far (p := ⟨gb536, 1, none⟩) (by first | (rw [add_block]; exact hn537_1) | (show (Addr.add _ _).block ≠ _; rw [add_block]; exact hn537_1) | exact hn537_1) (.int .i64 ((rd_T44 t527 x9_2).f1))).trans hx537_2
                        replace hx537_3 := (cell_far (p := ⟨gb536, 1, none⟩) (by first | (rw [add_block]; exact hn537_1) | (show (Addr.add _ _).block ≠ _; rw [add_block]; exact hn537_1) | exact hn537_1) (.int .i64 ((rd_T44 t527 x9_2).f1))).trans hx537_3
                        replace hx537_4 := (cell_far (p := ⟨gb536, 1, none⟩) (by first | (rw [add_block]; exact hn537_1) | (show (Addr.add _ _).block ≠ _; rw [add_block]; exact hn537_1) | exact hn537_1) (.int .i64 ((rd_T44 t527 x9_2).f1))).trans hx537_4
                        replace hx537_5 := (cell_far (p := ⟨gb536, 1, none⟩) (by first | (rw [add_block]; exact hn537_1) | (show (Addr.add _ _).block ≠ _; rw [add_block]; exact hn537_1) | exact hn537_1) (.int .i64 ((rd_T44 t527 x9_2).f1))).trans hx537_5
                        replace hx537_0 := (cell_far (p := ⟨gb536, 2, none⟩) (by first | (rw [add_block]; exact hn537_2) | (show (Addr.add _ _).block ≠ _; rw [add_block]; exact hn537_2) | exact hn537_2) (.bool ((rd_T44 t527 x9_2).f2))).trans hx537_0
                        replace hx537_1 := (cell_far (p := ⟨gb536, 2, none⟩) (by first | (rw [add_block]; exact hn537_2) | (show (Addr.add _ _).block ≠ _; rw [add_block]; exact hn537_2) | exact hn537_2) (.bool ((rd_T44 t527 x9_2).f2))).trans hx537_1
                        replace hx537_2 := (cell_far (p := ⟨gb536, 2, none⟩) (by first | (rw [add_block]; exact hn537_2) | (show (Addr.add _ _).block ≠ _; rw [add_block]; exact hn537_2) | exact hn537_2) (.bool ((rd_T44 t527 x9_2).f2))).trans hx537_2
                        replace hx537_3 := (cell_far (p := ⟨gb536, 2, none⟩) (by first | (rw [add_block]; exact hn537_2) | (show (Addr.add _ _).block ≠ _; rw [add_block]; exact hn537_2) | exact hn537_2) (.bool ((rd_T44 t527 x9_2).f2))).trans hx537_3
                        replace hx537_4 := (cell_far (p := ⟨gb536, 2, none⟩) (by first | (rw [add_block]; exact hn537_2) | (show (Addr.add _ _).block ≠ _; rw [add_block]; exact hn537_2) | exact hn537_2) (.bool ((rd_T44 t527 x9_2).f2))).trans hx537_4
                        replace hx537_5 := (cell_far (p := ⟨gb536, 2, none⟩) (by first | (rw [add_block]; exact hn537_2) | (show (Addr.add _ _).block ≠ _; rw [add_block]; exact hn537_2) | exact hn537_2) (.bool ((rd_T44 t527 x9_2).f2))).trans hx537_5
                        replace hx537_0 := (cell_far (p := ⟨gb536, 3, none⟩) (by first | (rw [add_block]; exact hn537_3) | (show (Addr.add _ _).block ≠ _; rw [add_block]; exact hn537_3) | exact hn537_3) (.bool ((rd_T44 t527 x9_2).f3))).trans hx537_0
                        replace hx537_1 := (cell_far (p := ⟨gb536, 3, none⟩) (by first | (rw [add_block]; exact hn537_3) | (show (Addr.add _ _).block ≠ _; rw [add_block]; exact hn537_3) | exact hn537_3) (.bool ((rd_T44 t527 x9_2).f3))).trans hx537_1
                        replace hx537_2 := (cell_far (p := ⟨gb536, 3, none⟩) (by first | (rw [add_block]; exact hn537_3) | (show (Addr.add _ _).block ≠ _; rw [add_block]; exact hn537_3) | exact hn537_3) (.bool ((rd_T44 t527 x9_2).f3))).trans hx537_2
                        replace hx537_3 := (cell_far (p := ⟨gb536, 3, none⟩) (by first | (rw [add_block]; exact hn537_3) | (show (Addr.add _ _).block ≠ _; rw [add_block]; exact hn537_3) | exact hn537_3) (.bool ((rd_T44 t527 x9_2).f3))).trans hx537_3
                        replace hx537_4 := (cell_far (p := ⟨gb536, 3, none⟩) (by first | (rw [add_block]; exact hn537_3) | (show (Addr.add _ _).block ≠ _; rw [add_block]; exact hn537_3) | exact hn537_3) (.bool ((rd_T44 t527 x9_2).f3))).trans hx537_4
                        replace hx537_5 := (cell_far (p := ⟨gb536, 3, none⟩) (by first | (rw [add_block]; exact hn537_3) | (show (Addr.add _ _).block ≠ _; rw [add_block]; exact hn537_3) | exact hn537_3) (.bool ((rd_T44 t527 x9_2).f3))).trans hx537_5
                        replace hx537_0 := (cell_far (p := ⟨gb536, 4, none⟩) (by first | (rw [add_block]; exact hn537_4) | (show (Addr.add _ _).block ≠ _; rw [add_block]; exact hn537_4) | exact hn537_4) (.int .i64 ((rd_T44 t527 x9_2).f4))).trans hx537_0
                        replace hx537_1 := (cell_far (p := ⟨gb536, 4, none⟩) (by first | (rw [add_block]; exact hn537_4) | (show (Addr.add _ _).block ≠ _; rw [add_block]; exact hn537_4) | exact hn537_4) (.int .i64 ((rd_T44 t527 x9_2).f4))).trans hx537_1
                        replace hx537_2 := (cell_far (p := ⟨gb536, 4, none⟩) (by first | (rw [add_block]; exact hn537_4) | (show (Addr.add _ _).block ≠ _; rw [add_block]; exact hn537_4) | exact hn537_4) (.int .i64 ((rd_T44 t527 x9_2).f4))).trans hx537_2
                        replace hx537_3 := (cell_far (p := ⟨gb536, 4, none⟩) (by first | (rw [add_block]; exact hn537_4) | (show (Addr.add _ _).block ≠ _; rw [add_block]; exact hn537_4) | exact hn537_4) (.int .i64 ((rd_T44 t527 x9_2).f4))).trans hx537_3
                        replace hx537_4 := (cell_far (p := ⟨gb536, 4, none⟩) (by first | (rw [add_block]; exact hn537_4) | (show (Addr.add _ _).block ≠ _; rw [add_block]; exact hn537_4) | exact hn537_4) (.int .i64 ((rd_T44 t527 x9_2).f4))).trans hx537_4
                        replace hx537_5 := (cell_far (p := ⟨gb536, 4, none⟩) (by first | (rw [add_block]; exact hn537_4) | (show (Addr.add _ _).block ≠ _; rw [add_block]; exact hn537_4) | exact hn537_4) (.int .i64 ((rd_T44 t527 x9_2).f4))).trans hx537_5
                        replace hx537_0 := (cell_far (p := ⟨gb536, 5, none⟩) (by first | (rw [add_block]; exact hn537_5) | (show (Addr.add _ _).block ≠ _; rw [add_block]; exact hn537_5) | exact hn537_5) (.int .i64 ((rd_T44 t527 x9_2).f5))).trans hx537_0
                        replace hx537_1 := (cell_far (p := ⟨gb536, 5, none⟩) (by first | (rw [add_block]; exact hn537_5) | (show (Addr.add _ _).block ≠ _; rw [add_block]; exact hn537_5) | exact hn537_5) (.int .i64 ((rd_T44 t527 x9_2).f5))).trans hx537_1
                        replace hx537_2 := (cell_far (p := ⟨gb536, 5, none⟩) (by first | (rw [add_block]; exact hn537_5) | (show (Addr.add _ _).block ≠ _; rw [add_block]; exact hn537_5) | exact hn537_5) (.int .i64 ((rd_T44 t527 x9_2).f5))).trans hx537_2
                        replace hx537_3 := (cell_far (p := ⟨gb536, 5, none⟩) (by first | (rw [add_block]; exact hn537_5) | (show (Addr.add _ _).block ≠ _; rw [add_block]; exact hn537_5) | exact hn537_5) (.int .i64 ((rd_T44 t527 x9_2).f5))).trans hx537_3
                        replace hx537_4 := (cell_far (p := ⟨gb536, 5, none⟩) (by first | (rw [add_block]; exact hn537_5) | (show (Addr.add _ _).block ≠ _; rw [add_block]; exact hn537_5) | exact hn537_5) (.int .i64 ((rd_T44 t527 x9_2).f5))).trans hx537_4
                        replace hx537_5 := (cell_far (p := ⟨gb536, 5, none⟩) (by first | (rw [add_block]; exact hn537_5) | (show (Addr.add _ _).block ≠ _; rw [add_block]; exact hn537_5) | exact hn537_5) (.int .i64 ((rd_T44 t527 x9_2).f5))).trans hx537_5
                        (try have hy537_0 := fun (n_ : Nat) => (drawn_chain n_ (W2 := (((((((w34.drewN n_).setCell ⟨gb536, 0, none⟩ (.int .i64 ((rd_T44 t527 x9_2).f0))).setCell ⟨gb536, 1, none⟩ (.int .i64 ((rd_T44 t527 x9_2).f1))).setCell ⟨gb536, 2, none⟩ (.bool ((rd_T44 t527 x9_2).f2))).setCell ⟨gb536, 3, none⟩ (.bool ((rd_T44 t527 x9_2).f3))).setCell ⟨gb536, 4, none⟩ (.int .i64 ((rd_T44 t527 x9_2).f4))).setCell ⟨gb536, 5, none⟩ (.int .i64 ((rd_T44 t527 x9_2).f5)))) (by simp only [drawn_set]) hx537_0))
                        (try have hy537_1 := fun (n_ : Nat) => (drawn_chain n_ (W2 := (((((((w34.drewN n_).setCell ⟨gb536, 0, none⟩ (.int .i64 ((rd_T44 t527 x9_2).f0))).setCell ⟨gb536, 1, none⟩ (.int .i64 ((rd_T44 t527 x9_2).f1))).setCell ⟨gb536, 2, none⟩ (.bool ((rd_T44 t527 x9_2).f2))).setCell ⟨gb536, 3, none⟩ (.bool ((rd_T44 t527 x9_2).f3))).setCell ⟨gb536, 4, none⟩ (.int .i64 ((rd_T44 t527 x9_2).f4))).setCell ⟨gb536, 5, none⟩ (.int .i64 ((rd_T44 t527 x9_2).f5)))) (by simp only [drawn_set]) hx537_1))
                        (try have hy537_2 := fun (n_ : Nat) => (drawn_chain n_ (W2 := (((((((w34.drewN n_).setCell ⟨gb536, 0, none⟩ (.int .i64 ((rd_T44 t527 x9_2).f0))).setCell ⟨gb536, 1, none⟩ (.int .i64 ((rd_T44 t527 x9_2).f1))).setCell ⟨gb536, 2, none⟩ (.bool ((rd_T44 t527 x9_2).f2))).setCell ⟨gb536, 3, none⟩ (.bool ((rd_T44 t527 x9_2).f3))).setCell ⟨gb536, 4, none⟩ (.int .i64 ((rd_T44 t527 x9_2).f4))).setCell ⟨gb536, 5, none⟩ (.int .i64 ((rd_T44 t527 x9_2).f5)))) (by simp only [drawn_set]) hx537_2))
                        (try have hy537_3 := fun (n_ : Nat) => (drawn_chain n_ (W2 := (((((((w34.drewN n_).setCell ⟨gb536, 0, none⟩ (.int .i64 ((rd_T44 t527 x9_2).f0))).setCell ⟨gb536, 1, none⟩ (.int .i64 ((rd_T44 t527 x9_2).f1))).setCell ⟨gb536, 2, none⟩ (.bool ((rd_T44 t527 x9_2).f2))).setCell ⟨gb536, 3, none⟩ (.bool ((rd_T44 t527 x9_2).f3))).setCell ⟨gb536, 4, none⟩ (.int .i64 ((rd_T44 t527 x9_2).f4))).setCell ⟨gb536, 5, none⟩ (.int .i64 ((rd_T44 t527 x9_2).f5)))) (by simp only [drawn_set]) hx537_3))
                        (try have hy537_4 := fun (n_ : Nat) => (drawn_chain n_ (W2 := (((((((w34.drewN n_).setCell ⟨gb536, 0, none⟩ (.int .i64 ((rd_T44 t527 x9_2).f0))).setCell ⟨gb536, 1, none⟩ (.int .i64 ((rd_T44 t527 x9_2).f1))).setCell ⟨gb536, 2, none⟩ (.bool ((rd_T44 t527 x9_2).f2))).setCell ⟨gb536, 3, none⟩ (.bool ((rd_T44 t527 x9_2).f3))).setCell ⟨gb536, 4, none⟩ (.int .i64 ((rd_T44 t527 x9_2).f4))).setCell ⟨gb536, 5, none⟩ (.int .i64 ((rd_T44 t527 x9_2).f5)))) (by simp only [drawn_set]) hx537_4))
                        (try have hy537_5 := fun (n_ : Nat) => (drawn_chain n_ (W2 := (((((((w34.drewN n_).setCell ⟨gb536, 0, none⟩ (.int .i64 ((rd_T44 t527 x9_2).f0))).setCell ⟨gb536, 1, none⟩ (.int .i64 ((rd_T44 t527 x9_2).f1))).setCell ⟨gb536, 2, none⟩ (.bool ((rd_T44 t527 x9_2).f2))).setCell ⟨gb536, 3, none⟩ (.bool ((rd_T44 t527 x9_2).f3))).setCell ⟨gb536, 4, none⟩ (.int .i64 ((rd_T44 t527 x9_2).f4))).setCell ⟨gb536, 5, none⟩ (.int .i64 ((rd_T44 t527 x9_2).f5)))) (by simp only [drawn_set]) hx537_5))
                        clear hn537_0
                        clear hn537_1
                        clear hn537_2
                        clear hn537_3
                        clear hn537_4
                        clear hn537_5
                        replace p537 := eq_true p537
                        replace q537 := eq_true q537
                        have hnb42 := NB536_534.out
                        have hnc42 := NB534_536.out
                        have hcz43_0 : w34.cell? ⟨gb536, 0, none⟩ = some (.int .i64 0) := (blk_cell BK536.out 0).trans rfl
                        have hcz43_1 : w34.cell? ⟨gb536, 1, none⟩ = some (.int .i64 0) := (blk_cell BK536.out 1).trans rfl
                        have hcz43_2 : w34.cell? ⟨gb536, 2, none⟩ = some (.bool false) := (blk_cell BK536.out 2).trans rfl
                        have hcz43_3 : w34.cell? ⟨gb536, 3, none⟩ = some (.bool false) := (blk_cell BK536.out 3).trans rfl
                        have hcz43_4 : w34.cell? ⟨gb536, 4, none⟩ = some (.int .i64 0) := (blk_cell BK536.out 4).trans rfl
                        have hcz43_5 : w34.cell? ⟨gb536, 5, none⟩ = some (.int .i64 0) := (blk_cell BK536.out 5).trans rfl
                        have hfz43_0 := blk_frozen BK536.out 0
                        have hfz43_1 := blk_frozen BK536.out 1
                        have hfz43_2 := blk_frozen BK536.out 2
                        have hfz43_3 := blk_frozen BK536.out 3
                        have hfz43_4 := blk_frozen BK536.out 4
                        have hfz43_5 := blk_frozen BK536.out 5
                        go_wp2
                        repeat (go_quiet (fail); try go_wp2)
                        go_meet
                        case rel => exact ⟨_, ((rd_T44 l0_0 x9_2).f5), H', ⟨by have := HJ3.out; have := HK2.out; first | omega | exact Nat.le_refl _⟩, ⟨by (with_reducible repeat (first | apply Kd.V_alloc | apply Kd.V_drewN | apply Kd.V_drew)); exact Kd.V_mono (Kd.V_far (p := ⟨gb536, 5, none⟩) (Kd.V_far (p := ⟨gb536, 5, none⟩) (Kd.V_far (p := ⟨gb536, 4, none⟩) (Kd.V_far (p := ⟨gb536, 3, none⟩) (Kd.V_far (p := ⟨gb536, 2, none⟩) (Kd.V_far (p := ⟨gb536, 1, none⟩) (Kd.V_far (p := ⟨gb536, 0, none⟩) (Kd.V_mono HO_535000.out (fun k_ hk => (⟨hk, hk.2⟩ : _ ∧ k_ ≠ gb536))) (fun _ hk => hk.2) (.int .i64 ((rd_T44 t527 x9_2).f0))) (fun _ hk => hk.2) (.int .i64 ((rd_T44 t527 x9_2).f1))) (fun _ hk => hk.2) (.bool ((rd_T44 t527 x9_2).f2))) (fun _ hk => hk.2) (.bool ((rd_T44 t527 x9_2).f3))) (fun _ hk => hk.2) (.int .i64 ((rd_T44 t527 x9_2).f4))) (fun _ hk => hk.2) (.int .i64 ((rd_T44 t527 x9_2).f5))) (fun _ hk => hk.2) (.int .i64 ((rd_T44 l0_0 x9_2).f5))) (fun _ hk => ⟨hk.1.1.1, ⟨hk.1.1.2, hk.1.2⟩⟩)⟩, ⟨by (with_reducible repeat (first | apply Kd.V_alloc | apply Kd.V_drewN | apply Kd.V_drew)); exact Kd.V_mono (Kd.V_far (p := ⟨gb536, 5, none⟩) (Kd.V_far (p := ⟨gb536, 5, none⟩) (Kd.V_far (p := ⟨gb536, 4, none⟩) (Kd.V_far (p := ⟨gb536, 3, none⟩) (Kd.V_far (p := ⟨gb536, 2, none⟩) (Kd.V_far (p := ⟨gb536, 1, none⟩) (Kd.V_far (p := ⟨gb536, 0, none⟩) (Kd.V_mono HO_535001.out (fun k_ hk => (⟨hk, hk.2⟩ : _ ∧ k_ ≠ gb536))) (fun _ hk => hk.2) (.int .i64 ((rd_T44 t527 x9_2).f0))) (fun _ hk => hk.2) (.int .i64 ((rd_T44 t527 x9_2).f1))) (fun _ hk => hk.2) (.bool ((rd_T44 t527 x9_2).f2))) (fun _ hk => hk.2) (.bool ((rd_T44 t527 x9_2).f3))) (fun _ hk => hk.2) (.int .i64 ((rd_T44 t527 x9_2).f4))) (fun _ hk => hk.2) (.int .i64 ((rd_T44 t527 x9_2).f5))) (fun _ hk => hk.2) (.int .i64 ((rd_T44 l0_0 x9_2).f5))) (fun _ hk => ⟨hk.1.1.1, ⟨hk.1.1.2, hk.1.2⟩⟩)⟩, ⟨by (with_reducible repeat (first | refine blk_drewN ?_ _ | refine blk_drew ?_ | refine blk_alloc ?_ _)); refine blk_far ?_ NB523_536.out _; (with_reducible repeat (first | refine blk_drewN ?_ _ | refine blk_drew ?_ | refine blk_alloc ?_ _)); refine blk_far ?_ NB523_536.out _; (with_reducible repeat (first | refine blk_drewN ?_ _ | refine blk_drew ?_ | refine blk_alloc ?_ _)); refine blk_far ?_ NB523_536.out _; (with_reducible repeat (first | refine blk_drewN ?_ _ | refine blk_drew ?_ | refine blk_alloc ?_ _)); refine blk_far ?_ NB523_536.out _; (with_reducible repeat (first | refine blk_drewN ?_ _ | refine blk_drew ?_ | refine blk_alloc ?_ _)); refine blk_far ?_ NB523_536.out _; (with_reducible repeat (first | refine blk_drewN ?_ _ | refine blk_drew ?_ | refine blk_alloc ?_ _)); refine blk_far ?_ NB523_536.out _; (with_reducible repeat (first | refine blk_drewN ?_ _ | refine blk_drew ?_ | refine blk_alloc ?_ _)); refine blk_far ?_ NB523_536.out _; (with_reducible repeat (first | refine blk_drewN ?_ _ | refine blk_drew ?_ | refine blk_alloc ?_ _)); exact BK523.out⟩, ⟨by (with_reducible repeat (first | refine blk_drewN ?_ _ | refine blk_drew ?_ | refine blk_alloc ?_ _)); refine blk_far ?_ NB534_536.out _; (with_reducible repeat (first | refine blk_drewN ?_ _ | refine blk_drew ?_ | refine blk_alloc ?_ _)); refine blk_far ?_ NB534_536.out _; (with_reducible repeat (first | refine blk_drewN ?_ _ | refine blk_drew ?_ | refine blk_alloc ?_ _)); refine blk_far ?_ NB534_536.out _; (with_reducible repeat (first | refine blk_drewN ?_ _ | refine blk_drew ?_ | refine blk_alloc ?_ _)); refine blk_far ?_ NB534_536.out _; (with_reducible repeat (first | refine blk_drewN ?_ _ | refine blk_drew ?_ | refine blk_alloc ?_ _)); refine blk_far ?_ NB534_536.out _; (with_reducible repeat (first | refine blk_drewN ?_ _ | refine blk_drew ?_ | refine blk_alloc ?_ _)); refine blk_far ?_ NB534_536.out _; (with_reducible repeat (first | refine blk_drewN ?_ _ | refine blk_drew ?_ | refine blk_alloc ?_ _)); refine blk_far ?_ NB534_536.out _; (with_reducible repeat (first | refine blk_drewN ?_ _ | refine blk_drew ?_ | refine blk_alloc ?_ _)); exact BK534.out⟩, ⟨by (with_reducible repeat (first | refine blk_drewN ?_ _ | refine blk_drew ?_ | refine blk_alloc ?_ _)); refine blk_put (cs := #[.int .i64 ((rd_T44 t527 x9_2).f0), .int .i64 ((rd_T44 t527 x9_2).f1), .bool ((rd_T44 t527 x9_2).f2), .bool ((rd_T44 t527 x9_2).f3), .int .i64 ((rd_T44 t527 x9_2).f4), .int .i64 ((rd_T44 t527 x9_2).f5)]) ?_ 5 _ rfl; (with_reducible repeat (first | refine blk_drewN ?_ _ | refine blk_drew ?_ | refine blk_alloc ?_ _)); refine blk_put (cs := #[.int .i64 ((rd_T44 t527 x9_2).f0), .int .i64 ((rd_T44 t527 x9_2).f1), .bool ((rd_T44 t527 x9_2).f2), .bool ((rd_T44 t527 x9_2).f3), .int .i64 ((rd_T44 t527 x9_2).f4), .int .i64 0]) ?_ 5 _ rfl; (with_reducible repeat (first | refine blk_drewN ?_ _ | refine blk_drew ?_ | refine blk_alloc ?_ _)); refine blk_put (cs := #[.int .i64 ((rd_T44 t527 x9_2).f0), .int .i64 ((rd_T44 t527 x9_2).f1), .bool ((rd_T44 t527 x9_2).f2), .bool ((rd_T44 t527 x9_2).f3), .int .i64 0, .int .i64 0]) ?_ 4 _ rfl; (with_reducible repeat (first | refine blk_drewN ?_ _ | refine blk_drew ?_ | refine blk_alloc ?_ _)); refine blk_put (cs := #[.int .i64 ((rd_T44 t527 x9_2).f0), .int .i64 ((rd_T44 t527 x9_2).f1), .bool ((rd_T44 t527 x9_2).f2), .bool false, .int .i64 0, .int .i64 0]) ?_ 3 _ rfl; (with_reducible repeat (first | refine blk_drewN ?_ _ | refine blk_drew ?_ | refine blk_alloc ?_ _)); refine blk_put (cs := #[.int .i64 ((rd_T44 t527 x9_2).f0), .int .i64 ((rd_T44 t527 x9_2).f1), .bool false, .bool false, .int .i64 0, .int .i64 0]) ?_ 2 _ rfl; (with_reducible repeat (first | refine blk_drewN ?_ _ | refine blk_drew ?_ | refine blk_alloc ?_ _)); refine blk_put (cs := #[.int .i64 ((rd_T44 t527 x9_2).f0), .int .i64 0, .bool false, .bool false, .int .i64 0, .int .i64 0]) ?_ 1 _ rfl; (with_reducible repeat (first | refine blk_drewN ?_ _ | refine blk_drew ?_ | refine blk_alloc ?_ _)); refine blk_put (cs := #[.int .i64 0, .int .i64 0, .bool false, .bool false, .int .i64 0, .int .i64 0]) ?_ 0 _ rfl; (with_reducible repeat (first | refine blk_drewN ?_ _ | refine blk_drew ?_ | refine blk_alloc ?_ _)); exact BK536.out⟩, ⟨by repeat (first | (with_reducible first | exact HB.out | apply below_alloc | apply pw_below_drewN | apply below_drew1 | refine below_set ?_ GE523.out | refine below_set ?_ GE534.out | refine below_set ?_ GE536.out) | exact HB.out)⟩⟩
                      · rw [if_neg c38] at H
                        have c38b0 : (x9_2 == a1) = false := beq_eq_false_iff_ne.mpr c38
                        have c38b1 : (x9_2 != a1) = true := bne_iff_ne.mpr c38
                        (first | rw [c38b0] | (simp only [i64_w, i32_w]; rw [c38b0]) | skip)
                        have H' := Aside0.mk H
                        clear H
                        go_wp2
                        repeat (go_quiet (fail); try go_wp2)
                        go_meet
                        case rel => exact ⟨_, ((rd_T44 t527 x9_2).f5), H', ⟨by have := HJ3.out; have := HK2.out; first | omega | exact Nat.le_refl _⟩, ⟨by (with_reducible repeat (first | apply Kd.V_alloc | apply Kd.V_drewN | apply Kd.V_drew)); exact Kd.V_mono (Kd.V_far (p := ⟨gb536, 5, none⟩) (Kd.V_far (p := ⟨gb536, 4, none⟩) (Kd.V_far (p := ⟨gb536, 3, none⟩) (Kd.V_far (p := ⟨gb536, 2, none⟩) (Kd.V_far (p := ⟨gb536, 1, none⟩) (Kd.V_far (p := ⟨gb536, 0, none⟩) (Kd.V_mono HO_535000.out (fun k_ hk => (⟨hk, hk.2⟩ : _ ∧ k_ ≠ gb536))) (fun _ hk => hk.2) (.int .i64 ((rd_T44 t527 x9_2).f0))) (fun _ hk => hk.2) (.int .i64 ((rd_T44 t527 x9_2).f1))) (fun _ hk => hk.2) (.bool ((rd_T44 t527 x9_2).f2))) (fun _ hk => hk.2) (.bool ((rd_T44 t527 x9_2).f3))) (fun _ hk => hk.2) (.int .i64 ((rd_T44 t527 x9_2).f4))) (fun _ hk => hk.2) (.int .i64 ((rd_T44 t527 x9_2).f5))) (fun _ hk => ⟨hk.1.1.1, ⟨hk.1.1.2, hk.1.2⟩⟩)⟩, ⟨by (with_reducible repeat (first | apply Kd.V_alloc | apply Kd.V_drewN | apply Kd.V_drew)); exact Kd.V_mono (Kd.V_far (p := ⟨gb536, 5, none⟩) (Kd.V_far (p := ⟨gb536, 4, none⟩) (Kd.V_far (p := ⟨gb536, 3, none⟩) (Kd.V_far (p := ⟨gb536, 2, none⟩) (Kd.V_far (p := ⟨gb536, 1, none⟩) (Kd.V_far (p := ⟨gb536, 0, none⟩) (Kd.V_mono HO_535001.out (fun k_ hk => (⟨hk, hk.2⟩ : _ ∧ k_ ≠ gb536))) (fun _ hk => hk.2) (.int .i64 ((rd_T44 t527 x9_2).f0))) (fun _ hk => hk.2) (.int .i64 ((rd_T44 t527 x9_2).f1))) (fun _ hk => hk.2) (.bool ((rd_T44 t527 x9_2).f2))) (fun _ hk => hk.2) (.bool ((rd_T44 t527 x9_2).f3))) (fun _ hk => hk.2) (.int .i64 ((rd_T44 t527 x9_2).f4))) (fun _ hk => hk.2) (.int .i64 ((rd_T44 t527 x9_2).f5))) (fun _ hk => ⟨hk.1.1.1, ⟨hk.1.1.2, hk.1.2⟩⟩)⟩, ⟨by (with_reducible repeat (first | refine blk_drewN ?_ _ | refine blk_drew ?_ | refine blk_alloc ?_ _)); refine blk_far ?_ NB523_536.out _; (with_reducible repeat (first | refine blk_drewN ?_ _ | refine blk_drew ?_ | refine blk_alloc ?_ _)); refine blk_far ?_ NB523_536.out _; (with_reducible repeat (first | refine blk_drewN ?_ _ | refine blk_drew ?_ | refine blk_alloc ?_ _)); refine blk_far ?_ NB523_536.out _; (with_reducible repeat (first | refine blk_drewN ?_ _ | refine blk_drew ?_ | refine blk_alloc ?_ _)); refine blk_far ?_ NB523_536.out _; (with_reducible repeat (first | refine blk_drewN ?_ _ | refine blk_drew ?_ | refine blk_alloc ?_ _)); refine blk_far ?_ NB523_536.out _; (with_reducible repeat (first | refine blk_drewN ?_ _ | refine blk_drew ?_ | refine blk_alloc ?_ _)); refine blk_far ?_ NB523_536.out _; (with_reducible repeat (first | refine blk_drewN ?_ _ | refine blk_drew ?_ | refine blk_alloc ?_ _)); exact BK523.out⟩, ⟨by (with_reducible repeat (first | refine blk_drewN ?_ _ | refine blk_drew ?_ | refine blk_alloc ?_ _)); refine blk_far ?_ NB534_536.out _; (with_reducible repeat (first | refine blk_drewN ?_ _ | refine blk_drew ?_ | refine blk_alloc ?_ _)); refine blk_far ?_ NB534_536.out _; (with_reducible repeat (first | refine blk_drewN ?_ _ | refine blk_drew ?_ | refine blk_alloc ?_ _)); refine blk_far ?_ NB534_536.out _; (with_reducible repeat (first | refine blk_drewN ?_ _ | refine blk_drew ?_ | refine blk_alloc ?_ _)); refine blk_far ?_ NB534_536.out _; (with_reducible repeat (first | refine blk_drewN ?_ _ | refine blk_drew ?_ | refine blk_alloc ?_ _)); refine blk_far ?_ NB534_536.out _; (with_reducible repeat (first | refine blk_drewN ?_ _ | refine blk_drew ?_ | refine blk_alloc ?_ _)); refine blk_far ?_ NB534_536.out _; (with_reducible repeat (first | refine blk_drewN ?_ _ | refine blk_drew ?_ | refine blk_alloc ?_ _)); exact BK534.out⟩, ⟨by (with_reducible repeat (first | refine blk_drewN ?_ _ | refine blk_drew ?_ | refine blk_alloc ?_ _)); refine blk_put (cs := #[.int .i64 ((rd_T44 t527 x9_2).f0), .int .i64 ((rd_T44 t527 x9_2).f1), .bool ((rd_T44 t527 x9_2).f2), .bool ((rd_T44 t527 x9_2).f3), .int .i64 ((rd_T44 t527 x9_2).f4), .int .i64 0]) ?_ 5 _ rfl; (with_reducible repeat (first | refine blk_drewN ?_ _ | refine blk_drew ?_ | refine blk_alloc ?_ _)); refine blk_put (cs := #[.int .i64 ((rd_T44 t527 x9_2).f0), .int .i64 ((rd_T44 t527 x9_2).f1), .bool ((rd_T44 t527 x9_2).f2), .bool ((rd_T44 t527 x9_2).f3), .int .i64 0, .int .i64 0]) ?_ 4 _ rfl; (with_reducible repeat (first | refine blk_drewN ?_ _ | refine blk_drew ?_ | refine blk_alloc ?_ _)); refine blk_put (cs := #[.int .i64 ((rd_T44 t527 x9_2).f0), .int .i64 ((rd_T44 t527 x9_2).f1), .bool ((rd_T44 t527 x9_2).f2), .bool false, .int .i64 0, .int .i64 0]) ?_ 3 _ rfl; (with_reducible repeat (first | refine blk_drewN ?_ _ | refine blk_drew ?_ | refine blk_alloc ?_ _)); refine blk_put (cs := #[.int .i64 ((rd_T44 t527 x9_2).f0), .int .i64 ((rd_T44 t527 x9_2).f1), .bool false, .bool false, .int .i64 0, .int .i64 0]) ?_ 2 _ rfl; (with_reducible repeat (first | refine blk_drewN ?_ _ | refine blk_drew ?_ | refine blk_alloc ?_ _)); refine blk_put (cs := #[.int .i64 ((rd_T44 t527 x9_2).f0), .int .i64 0, .bool false, .bool false, .int .i64 0, .int .i64 0]) ?_ 1 _ rfl; (with_reducible repeat (first | refine blk_drewN ?_ _ | refine blk_drew ?_ | refine blk_alloc ?_ _)); refine blk_put (cs := #[.int .i64 0, .int .i64 0, .bool false, .bool false, .int .i64 0, .int .i64 0]) ?_ 0 _ rfl; (with_reducible repeat (first | refine blk_drewN ?_ _ | refine blk_drew ?_ | refine blk_alloc ?_ _)); exact BK536.out⟩, ⟨by repeat (first | (with_reducible first | exact HB.out | apply below_alloc | apply pw_below_drewN | apply below_drew1 | refine below_set ?_ GE523.out | refine below_set ?_ GE534.out | refine below_set ?_ GE536.out) | exact HB.out)⟩⟩
                    case rest =>
                      clear HC30
                      try clear c1
                      try clear c2
                      try clear p2
                      try clear c3
                      try clear c4
                      try clear p5
                      try clear q5
                      try clear hx5
                      try clear c7
                      try clear c8
                      try clear c14
                      try clear c18
                      try clear c18b0
                      try clear c18b1
                      try clear c18b2
                      try clear c23
                      try clear c27
                      try clear c27b0
                      try clear c28
                      try clear c28b0
                      try clear c29
                      try clear c29b0
                      try clear c31
                      try clear c35
                      try clear c36
                      try clear c38
                      try clear c38b0
                      try clear c38b1
                      try clear c39
                      try clear c40
                      try clear c42
                      try clear hcz12_0
                      try clear hcz12_1
                      try clear hcz19_0
                      try clear hcz19_1
                      try clear hcz24_0
                      try clear hcz24_1
                      try clear hcz26_0
                      try clear hcz26_1
                      try clear hcz32_0
                      try clear hcz32_1
                      try clear hcz33_0
                      try clear hcz33_1
                      try clear hcz37_0
                      try clear hcz37_1
                      try clear hcz37_2
                      try clear hcz37_3
                      try clear hcz37_4
                      try clear hcz37_5
                      try clear hcz41_0
                      try clear hcz41_1
                      try clear hcz43_0
                      try clear hcz43_1
                      try clear hcz43_2
                      try clear hcz43_3
                      try clear hcz43_4
                      try clear hcz43_5
                      try clear hcz9_0
                      try clear hcz9_1
                      try clear hfz12_0
                      try clear hfz12_1
                      try clear hfz19_0
                      try clear hfz19_1
                      try clear hfz24_0
                      try clear hfz24_1
                      try clear hfz26_0
                      try clear hfz26_1
                      try clear hfz32_0
                      try clear hfz32_1
                      try clear hfz33_0
                      try clear hfz33_1
                      try clear hfz37_0
                      try clear hfz37_1
                      try clear hfz37_2
                      try clear hfz37_3
                      try clear hfz37_4
                      try clear hfz37_5
                      try clear hfz41_0
                      try clear hfz41_1
                      try clear hfz43_0
                      try clear hfz43_1
                      try clear hfz43_2
                      try clear hfz43_3
                      try clear hfz43_4
                      try clear hfz43_5
                      try clear hfz9_0
                      try clear hfz9_1
                      try clear hx535_0
                      try clear hx535_1
                      try clear hx535_2
                      try clear hx535_3
                      try clear hx535_4
                      try clear hx535_5
                      try clear hx537_0
                      try clear hx537_1
                      try clear hx537_2
                      try clear hx537_3
                      try clear hx537_4
                      try clear hx537_5
                      try clear p2
                      try clear p535
                      try clear p537
                      try clear q535
                      try clear q537
                      obtain ⟨kq, x537005_29, HA, HJ29, HO_535000, HO_535001, BK523, BK534, BK536, HB⟩ := hcut
                      cases kq with
                      | zero => exact absurd HA.out (by simp [flagstonelaw11_FlockKeeps.j2])
                      | succ kj29 =>
                        have H := HA.out
                        clear HA
                        simp only [flagstonelaw11_FlockKeeps.j2] at H
                        by_cases c44 : 0 ≤ x9_2
                        · rw [if_pos c44] at H
                          have c44b0 : decide (0 ≤ x9_2) = true := decide_eq_true c44
                          clear c44
                          by_cases c45 : x9_2 < (l0_0.length : Int)
                          · rw [if_pos c45] at H
                            have c45b0 : decide (x9_2 < (l0_0.length : Int)) = true := decide_eq_true c45
                            clear c45
                            by_cases c46 : (!(((rd_T44 t527 x9_2).f0) == ((rd_T44 l0_0 x9_2).f0)) || (!(((rd_T44 t527 x9_2).f1) == ((rd_T44 l0_0 x9_2).f1)) || (!(((rd_T44 t527 x9_2).f2) == ((rd_T44 l0_0 x9_2).f2)) || (!(((rd_T44 t527 x9_2).f3) == ((rd_T44 l0_0 x9_2).f3)) || (!(((rd_T44 t527 x9_2).f4) == ((rd_T44 l0_0 x9_2).f4)) || (!(x537005_29 == ((rd_T44 l0_0 x9_2).f5)))))))) = true
                            · rw [if_pos c46] at H
                              exact absurd H (by simp)
                            · rw [if_neg c46] at H
                              have c46b0 : (!(((rd_T44 t527 x9_2).f0) == ((rd_T44 l0_0 x9_2).f0)) || (!(((rd_T44 t527 x9_2).f1) == ((rd_T44 l0_0 x9_2).f1)) || (!(((rd_T44 t527 x9_2).f2) == ((rd_T44 l0_0 x9_2).f2)) || (!(((rd_T44 t527 x9_2).f3) == ((rd_T44 l0_0 x9_2).f3)) || (!(((rd_T44 t527 x9_2).f4) == ((rd_T44 l0_0 x9_2).f4)) || (!(x537005_29 == ((rd_T44 l0_0 x9_2).f5)))))))) = false := by simpa using c46
                              clear c46
                              have H' := Aside0.mk H
                              clear H
                              have hnb47 := NB536_523.out
                              have hnc47 := NB523_536.out
                              have hnb48 := NB536_534.out
                              have hnc48 := NB534_536.out
                              have hcz49_0 : wc.cell? ⟨gb536, 0, none⟩ = some (.int .i64 ((rd_T44 t527 x9_2).f0)) := (blk_cell BK536.out 0).trans rfl
                              have hcz49_1 : wc.cell? ⟨gb536, 1, none⟩ = some (.int .i64 ((rd_T44 t527 x9_2).f1)) := (blk_cell BK536.out 1).trans rfl
                              have hcz49_2 : wc.cell? ⟨gb536, 2, none⟩ = some (.bool ((rd_T44 t527 x9_2).f2)) := (blk_cell BK536.out 2).trans rfl
                              have hcz49_3 : wc.cell? ⟨gb536, 3, none⟩ = some (.bool ((rd_T44 t527 x9_2).f3)) := (blk_cell BK536.out 3).trans rfl
                              have hcz49_4 : wc.cell? ⟨gb536, 4, none⟩ = some (.int .i64 ((rd_T44 t527 x9_2).f4)) := (blk_cell BK536.out 4).trans rfl
                              have hcz49_5 : wc.cell? ⟨gb536, 5, none⟩ = some (.int .i64 x537005_29) := (blk_cell BK536.out 5).trans rfl
                              have hfz49_0 := blk_frozen BK536.out 0
                              have hfz49_1 := blk_frozen BK536.out 1
                              have hfz49_2 := blk_frozen BK536.out 2
                              have hfz49_3 := blk_frozen BK536.out 3
                              have hfz49_4 := blk_frozen BK536.out 4
                              have hfz49_5 := blk_frozen BK536.out 5
                              have hnb50 := NB523_534.out
                              have hnc50 := NB534_523.out
                              have hcz51_0 : wc.cell? ⟨gb523, 0, none⟩ = some (.slice A0_0 l0_0.length c0_0) := (blk_cell BK523.out 0).trans rfl
                              have hcz51_1 : wc.cell? ⟨gb523, 1, none⟩ = some (.slice A0_1 l0_1.length c0_1) := (blk_cell BK523.out 1).trans rfl
                              have hfz51_0 := blk_frozen BK523.out 0
                              have hfz51_1 := blk_frozen BK523.out 1
                              have p538 : 0 ≤ (x9_2 : Int) := of_decide_eq_true (by first | (with_reducible assumption) | assumption)
                              have q538 : x9_2 < (l0_0.length : Int) := of_decide_eq_true (by first | (with_reducible assumption) | assumption)
                              obtain ⟨ad538, e538, hx538_0, hx538_1, hx538_2, hx538_3, hx538_4, hx538_5⟩ := at_T44 HR0_0.out x9_2 p538 q538
                              cases e538
                              replace hx538_0 := (HB.out.cell (World.block_lt_of_cell? w _ hx538_0)).trans hx538_0
                              replace hx538_1 := (HB.out.cell (World.block_lt_of_cell? w _ hx538_1)).trans hx538_1
                              replace hx538_2 := (HB.out.cell (World.block_lt_of_cell? w _ hx538_2)).trans hx538_2
                              replace hx538_3 := (HB.out.cell (World.block_lt_of_cell? w _ hx538_3)).trans hx538_3
                              replace hx538_4 := (HB.out.cell (World.block_lt_of_cell? w _ hx538_4)).trans hx538_4
                              replace hx538_5 := (HB.out.cell (World.block_lt_of_cell? w _ hx538_5)).trans hx538_5
                              replace p538 := eq_true p538
                              replace q538 := eq_true q538
                              go_wp2
                              repeat (go_quiet (fail); try go_wp2)
                              go_roundg kj29
                              case measure => have := HJ3.out; have := HK2.out; have := HJ29.out; omega
                              case rel => exact ⟨(wrap64 (x9_2 + 1)), (by first | rfl | (simp; done) | (simp [*]; done)), H', ⟨by have := HJ3.out; have := HK2.out; have := HJ29.out; omega⟩, ⟨by (with_reducible repeat (first | apply Kd.V_alloc | apply Kd.V_drewN | apply Kd.V_drew)); exact Kd.V_mono HO_535000.out (fun _ hk => ⟨hk.1, hk.2.1⟩)⟩, ⟨by (with_reducible repeat (first | apply Kd.V_alloc | apply Kd.V_drewN | apply Kd.V_drew)); exact Kd.V_mono HO_535001.out (fun _ hk => ⟨hk.1, hk.2.1⟩)⟩, ⟨by (with_reducible repeat (first | refine blk_drewN ?_ _ | refine blk_drew ?_ | refine blk_alloc ?_ _)); exact BK523.out⟩, ⟨by (with_reducible repeat (first | refine blk_drewN ?_ _ | refine blk_drew ?_ | refine blk_alloc ?_ _)); exact BK534.out⟩, ⟨by repeat (first | (with_reducible first | exact HB.out | apply below_alloc | apply pw_below_drewN | apply below_drew1 | refine below_set ?_ GE523.out | refine below_set ?_ GE534.out | refine below_set ?_ GE536.out) | exact HB.out)⟩⟩
                          · rw [if_neg c45] at H
                            exact absurd H (by simp)
                        · rw [if_neg c44] at H
                          exact absurd H (by simp)
                  · rw [if_neg c29] at H
                    exact absurd H (by simp)
                · rw [if_neg c28] at H
                  exact absurd H (by simp)
              · rw [if_neg c27] at H
                have c27b0 : decide (x9_2 < (l0_0.length : Int)) = false := decide_eq_false c27
                clear c27
                obtain rfl := Option.some.inj H
                have hnb52 := NB523_534.out
                have hnc52 := NB534_523.out
                have hcz53_0 : wr.cell? ⟨gb523, 0, none⟩ = some (.slice A0_0 l0_0.length c0_0) := (blk_cell BK523.out 0).trans rfl
                have hcz53_1 : wr.cell? ⟨gb523, 1, none⟩ = some (.slice A0_1 l0_1.length c0_1) := (blk_cell BK523.out 1).trans rfl
                have hfz53_0 := blk_frozen BK523.out 0
                have hfz53_1 := blk_frozen BK523.out 1
                go_wp2
                repeat (go_quiet (fail); try go_wp2)
                go_ret
                exact ⟨by first | rfl | (simp [errW_none, errW_some] <;> rfl) | (simp [*, errW_none, errW_some] <;> rfl), by repeat (first | (with_reducible first | exact HB.out | apply below_alloc | apply pw_below_drewN | apply below_drew1 | refine below_set ?_ GE523.out | refine below_set ?_ GE534.out) | exact HB.out)⟩
        · rw [if_neg c18] at H
          exact absurd H (by simp)

end Go.Proofs.Ytbfjakhloabhmaa.P
