-- Printed by a program of this session (inject.py) over the kit's print, with functions that were proved by hand in their places.
import Derived.Test.YtbfjakhloabhmaaPK
import Derived.Test.YtbfjakhloabhmaaPref10Set
namespace Go.Proofs.Ytbfjakhloabhmaa.P
open Go.RowKit Go.Proofs.YtbfjakhloabhmaaW.PrintWords Go.Proofs.YtbfjakhloabhmaaW.PrintLast Go.Proofs.YtbfjakhloabhmaaW.PrintMore
attribute [local go_sem] max2_int min2_int max_two min_two max_three min_three max_four min_four   -- for this text's walks alone
set_option linter.unusedVariables false
set_option linter.unusedSimpArgs false

/-! ### flagstoneref11_Lock: function 12 -/
mutual
def flagstoneref11_Lock.j0 : Nat → Int → Int → Bool → List (S52) → List (List Int) → Option ((List (S52)) × (List (List Int)) × Int)
  | 0, _, _, _, _, _ => none
  | k + 1, x1, x2, x16, x220000, x220001 => if x16 = true then (some (x220000, x220001, 1)) else (if x1 < 0 then (flagstoneref11_Lock.j1 k x1 x2 true x220000 x220001) else (if x1 ≥ (x220000.length : Int) then (flagstoneref11_Lock.j1 k x1 x2 true x220000 x220001) else (if 0 ≤ x1 then (if x1 < (x220000.length : Int) then (flagstoneref11_Lock.j1 k x1 x2 (decide (((rd_T52 x220000 x1).f4) < 1)) x220000 x220001) else (none)) else (none))))
def flagstoneref11_Lock.j1 : Nat → Int → Int → Bool → List (S52) → List (List Int) → Option ((List (S52)) × (List (List Int)) × Int)
  | 0, _, _, _, _, _ => none
  | k + 1, x1, x2, x35, x220000, x220001 => if x35 = true then (some (x220000, x220001, 12)) else (if 0 ≤ x1 then (if x1 < (x220000.length : Int) then (flagstoneref11_Lock.l0 k x1 x2 0 x220000 x220001 ((rd_T52 x220000 x1).f0) ((rd_T52 x220000 x1).f1) ((rd_T52 x220000 x1).f2) ((rd_T52 x220000 x1).f3) ((rd_T52 x220000 x1).f4) ((rd_T52 x220000 x1).f5)) else (none)) else (none))
def flagstoneref11_Lock.l0 : Nat → Int → Int → Int → List (S52) → List (List Int) → Int → Int → Bool → Bool → Int → Int → Option ((List (S52)) × (List (List Int)) × Int)
  | 0, _, _, _, _, _, _, _, _, _, _, _ => none
  | k + 1, x1, x2, x9, x220000, x220001, x224000, x224001, x224002, x224003, x224004, x224005 => if x9 < (x220000.length : Int) then (if 0 ≤ x9 then (if x9 = x1 then (flagstoneref11_Lock.j3 k x1 x2 x9 true x220000 x220001 x224000 x224001 x224002 x224003 x224004 x224005 ((rd_T52 x220000 x9).f0) ((rd_T52 x220000 x9).f1) ((rd_T52 x220000 x9).f2) ((rd_T52 x220000 x9).f3) ((rd_T52 x220000 x9).f4) ((rd_T52 x220000 x9).f5)) else (if ((rd_T52 x220000 x9).f4) < 1 then (flagstoneref11_Lock.j3 k x1 x2 x9 true x220000 x220001 x224000 x224001 x224002 x224003 x224004 x224005 ((rd_T52 x220000 x9).f0) ((rd_T52 x220000 x9).f1) ((rd_T52 x220000 x9).f2) ((rd_T52 x220000 x9).f3) ((rd_T52 x220000 x9).f4) ((rd_T52 x220000 x9).f5)) else (flagstoneref11_Lock.j3 k x1 x2 x9 (((rd_T52 x220000 x9).f0) != x224000) x220000 x220001 x224000 x224001 x224002 x224003 x224004 x224005 ((rd_T52 x220000 x9).f0) ((rd_T52 x220000 x9).f1) ((rd_T52 x220000 x9).f2) ((rd_T52 x220000 x9).f3) ((rd_T52 x220000 x9).f4) ((rd_T52 x220000 x9).f5)))) else (none)) else ((flagstoneref10_Set.f k x220000 x220001 x1 x224000 x224001 x224002 x224003 x224004 x2).bind fun bt224 => (some (bt224.1, bt224.2, 0)))
def flagstoneref11_Lock.j3 : Nat → Int → Int → Int → Bool → List (S52) → List (List Int) → Int → Int → Bool → Bool → Int → Int → Int → Int → Bool → Bool → Int → Int → Option ((List (S52)) × (List (List Int)) × Int)
  | 0, _, _, _, _, _, _, _, _, _, _, _, _, _, _, _, _, _, _ => none
  | k + 1, x1, x2, x9, x68, x220000, x220001, x224000, x224001, x224002, x224003, x224004, x224005, x232000, x232001, x232002, x232003, x232004, x232005 => if x68 = true then (flagstoneref11_Lock.l0 k x1 x2 (wrap64 (x9 + 1)) x220000 x220001 x224000 x224001 x224002 x224003 x224004 x224005) else (if x2 = 2 then (if x232005 = 0 then (if x2 = 1 then (if x232005 = 2 then (some (x220000, x220001, 14)) else (flagstoneref11_Lock.l0 k x1 x2 (wrap64 (x9 + 1)) x220000 x220001 x224000 x224001 x224002 x224003 x224004 x224005)) else (flagstoneref11_Lock.l0 k x1 x2 (wrap64 (x9 + 1)) x220000 x220001 x224000 x224001 x224002 x224003 x224004 x224005)) else (some (x220000, x220001, 14))) else (if x2 = 1 then (if x232005 = 2 then (some (x220000, x220001, 14)) else (flagstoneref11_Lock.l0 k x1 x2 (wrap64 (x9 + 1)) x220000 x220001 x224000 x224001 x224002 x224003 x224004 x224005)) else (flagstoneref11_Lock.l0 k x1 x2 (wrap64 (x9 + 1)) x220000 x220001 x224000 x224001 x224002 x224003 x224004 x224005)))
end
def flagstoneref11_Lock.f (k : Nat) (l0_0 : List (S52)) (l0_1 : List (List Int)) (a1 : Int) (a2 : Int) : Option ((List (S52)) × (List (List Int)) × Int) := if a2 < 0 then (flagstoneref11_Lock.j0 k a1 a2 true l0_0 l0_1) else (flagstoneref11_Lock.j0 k a1 a2 (decide (a2 > 2)) l0_0 l0_1)
theorem flagstoneref11_Lock.mono_l : ∀ k, (∀ y0 y1 y2 y3 y4, LeO (flagstoneref11_Lock.j0 k y0 y1 y2 y3 y4) (flagstoneref11_Lock.j0 (k + 1) y0 y1 y2 y3 y4)) ∧ (∀ y0 y1 y2 y3 y4, LeO (flagstoneref11_Lock.j1 k y0 y1 y2 y3 y4) (flagstoneref11_Lock.j1 (k + 1) y0 y1 y2 y3 y4)) ∧ (∀ y0 y1 y2 y3 y4 y5 y6 y7 y8 y9 y10, LeO (flagstoneref11_Lock.l0 k y0 y1 y2 y3 y4 y5 y6 y7 y8 y9 y10) (flagstoneref11_Lock.l0 (k + 1) y0 y1 y2 y3 y4 y5 y6 y7 y8 y9 y10)) ∧ (∀ y0 y1 y2 y3 y4 y5 y6 y7 y8 y9 y10 y11 y12 y13 y14 y15 y16 y17, LeO (flagstoneref11_Lock.j3 k y0 y1 y2 y3 y4 y5 y6 y7 y8 y9 y10 y11 y12 y13 y14 y15 y16 y17) (flagstoneref11_Lock.j3 (k + 1) y0 y1 y2 y3 y4 y5 y6 y7 y8 y9 y10 y11 y12 y13 y14 y15 y16 y17))
  | 0 => ⟨fun _ _ _ _ _ r h => by simp [flagstoneref11_Lock.j0] at h, fun _ _ _ _ _ r h => by simp [flagstoneref11_Lock.j1] at h, fun _ _ _ _ _ _ _ _ _ _ _ r h => by simp [flagstoneref11_Lock.l0] at h, fun _ _ _ _ _ _ _ _ _ _ _ _ _ _ _ _ _ _ r h => by simp [flagstoneref11_Lock.j3] at h⟩
  | k + 1 => by
    obtain ⟨ih0, ih1, ih2, ih3⟩ := flagstoneref11_Lock.mono_l k
    refine ⟨?_, ?_, ?_, ?_⟩
    · intro y0 y1 y2 y3 y4
      unfold flagstoneref11_Lock.j0
      repeat' first
      | (with_reducible exact ih0 _ _ _ _ _)
      | (with_reducible exact ih1 _ _ _ _ _)
      | (with_reducible exact ih2 _ _ _ _ _ _ _ _ _ _ _)
      | (with_reducible exact ih3 _ _ _ _ _ _ _ _ _ _ _ _ _ _ _ _ _ _)
      | (with_reducible exact flagstoneref10_Set.mono _ _ _ _ _ _ _ _ _ _)
      | (with_reducible exact LeO.refl _)
      | (with_reducible exact LeO.none _)
      | (with_reducible refine LeO.ite ?_ ?_)
      | (with_reducible refine LeO.bind ?_ (fun _ => ?_))
      | exact ih0 _ _ _ _ _
      | exact ih1 _ _ _ _ _
      | exact ih2 _ _ _ _ _ _ _ _ _ _ _
      | exact ih3 _ _ _ _ _ _ _ _ _ _ _ _ _ _ _ _ _ _
      | exact flagstoneref10_Set.mono _ _ _ _ _ _ _ _ _ _
      | exact LeO.none _
      | refine LeO.ite ?_ ?_
      | refine LeO.bind ?_ (fun _ => ?_)
    · intro y0 y1 y2 y3 y4
      unfold flagstoneref11_Lock.j1
      repeat' first
      | (with_reducible exact ih0 _ _ _ _ _)
      | (with_reducible exact ih1 _ _ _ _ _)
      | (with_reducible exact ih2 _ _ _ _ _ _ _ _ _ _ _)
      | (with_reducible exact ih3 _ _ _ _ _ _ _ _ _ _ _ _ _ _ _ _ _ _)
      | (with_reducible exact flagstoneref10_Set.mono _ _ _ _ _ _ _ _ _ _)
      | (with_reducible exact LeO.refl _)
      | (with_reducible exact LeO.none _)
      | (with_reducible refine LeO.ite ?_ ?_)
      | (with_reducible refine LeO.bind ?_ (fun _ => ?_))
      | exact ih0 _ _ _ _ _
      | exact ih1 _ _ _ _ _
      | exact ih2 _ _ _ _ _ _ _ _ _ _ _
      | exact ih3 _ _ _ _ _ _ _ _ _ _ _ _ _ _ _ _ _ _
      | exact flagstoneref10_Set.mono _ _ _ _ _ _ _ _ _ _
      | exact LeO.none _
      | refine LeO.ite ?_ ?_
      | refine LeO.bind ?_ (fun _ => ?_)
    · intro y0 y1 y2 y3 y4 y5 y6 y7 y8 y9 y10
      unfold flagstoneref11_Lock.l0
      repeat' first
      | (with_reducible exact ih0 _ _ _ _ _)
      | (with_reducible exact ih1 _ _ _ _ _)
      | (with_reducible exact ih2 _ _ _ _ _ _ _ _ _ _ _)
      | (with_reducible exact ih3 _ _ _ _ _ _ _ _ _ _ _ _ _ _ _ _ _ _)
      | (with_reducible exact flagstoneref10_Set.mono _ _ _ _ _ _ _ _ _ _)
      | (with_reducible exact LeO.refl _)
      | (with_reducible exact LeO.none _)
      | (with_reducible refine LeO.ite ?_ ?_)
      | (with_reducible refine LeO.bind ?_ (fun _ => ?_))
      | exact ih0 _ _ _ _ _
      | exact ih1 _ _ _ _ _
      | exact ih2 _ _ _ _ _ _ _ _ _ _ _
      | exact ih3 _ _ _ _ _ _ _ _ _ _ _ _ _ _ _ _ _ _
      | exact flagstoneref10_Set.mono _ _ _ _ _ _ _ _ _ _
      | exact LeO.none _
      | refine LeO.ite ?_ ?_
      | refine LeO.bind ?_ (fun _ => ?_)
    · intro y0 y1 y2 y3 y4 y5 y6 y7 y8 y9 y10 y11 y12 y13 y14 y15 y16 y17
      unfold flagstoneref11_Lock.j3
      repeat' first
      | (with_reducible exact ih0 _ _ _ _ _)
      | (with_reducible exact ih1 _ _ _ _ _)
      | (with_reducible exact ih2 _ _ _ _ _ _ _ _ _ _ _)
      | (with_reducible exact ih3 _ _ _ _ _ _ _ _ _ _ _ _ _ _ _ _ _ _)
      | (with_reducible exact flagstoneref10_Set.mono _ _ _ _ _ _ _ _ _ _)
      | (with_reducible exact LeO.refl _)
      | (with_reducible exact LeO.none _)
      | (with_reducible refine LeO.ite ?_ ?_)
      | (with_reducible refine LeO.bind ?_ (fun _ => ?_))
      | exact ih0 _ _ _ _ _
      | exact ih1 _ _ _ _ _
      | exact ih2 _ _ _ _ _ _ _ _ _ _ _
      | exact ih3 _ _ _ _ _ _ _ _ _ _ _ _ _ _ _ _ _ _
      | exact flagstoneref10_Set.mono _ _ _ _ _ _ _ _ _ _
      | exact LeO.none _
      | refine LeO.ite ?_ ?_
      | refine LeO.bind ?_ (fun _ => ?_)
theorem flagstoneref11_Lock.mono : ∀ a0 a1 a2 a3 k, LeO (flagstoneref11_Lock.f k a0 a1 a2 a3) (flagstoneref11_Lock.f (k + 1) a0 a1 a2 a3) := by
  intro a0 a1 a2 a3 k
  obtain ⟨ih0, ih1, ih2, ih3⟩ := flagstoneref11_Lock.mono_l k
  unfold flagstoneref11_Lock.f
  repeat' first
      | (with_reducible exact ih0 _ _ _ _ _)
      | (with_reducible exact ih1 _ _ _ _ _)
      | (with_reducible exact ih2 _ _ _ _ _ _ _ _ _ _ _)
      | (with_reducible exact ih3 _ _ _ _ _ _ _ _ _ _ _ _ _ _ _ _ _ _)
      | (with_reducible exact flagstoneref10_Set.mono _ _ _ _ _ _ _ _ _ _)
      | (with_reducible exact LeO.refl _)
      | (with_reducible exact LeO.none _)
      | (with_reducible refine LeO.ite ?_ ?_)
      | (with_reducible refine LeO.bind ?_ (fun _ => ?_))
      | exact ih0 _ _ _ _ _
      | exact ih1 _ _ _ _ _
      | exact ih2 _ _ _ _ _ _ _ _ _ _ _
      | exact ih3 _ _ _ _ _ _ _ _ _ _ _ _ _ _ _ _ _ _
      | exact flagstoneref10_Set.mono _ _ _ _ _ _ _ _ _ _
      | exact LeO.none _
      | refine LeO.ite ?_ ?_
      | refine LeO.bind ?_ (fun _ => ?_)
set_option maxHeartbeats 8000000 in
set_option maxRecDepth 100000 in
theorem flagstoneref11_Lock.calls (k : Nat) (P0_0_ : Nat → Prop) (A0_0 : Option Addr) (c0_0 : Nat) (l0_0 : List (S52)) (P0_1_ : Nat → Prop) (A0_1 : Option Addr) (c0_1 : Nat) (l0_1 : List (List Int)) (a1 : Int) (a2 : Int) (r1 : List (S52)) (r2 : List (List Int)) (r3 : Int) (w : World) (hs0_0 : Kd.V k52 52 w w.heap.size (fun k_ => P0_0_ k_) (.slice A0_0 l0_0.length c0_0) l0_0) (hs0_1 : Kd.V (Kd.slice 3 (Kd.int .i64)) 48 w w.heap.size (fun k_ => P0_1_ k_) (.slice A0_1 l0_1.length c0_1) l0_1) (h : flagstoneref11_Lock.f k l0_0 l0_1 a1 a2 = some (r1, r2, r3)) :
    Calls Try.prog 12 #[.agg #[.slice A0_0 l0_0.length c0_0, .slice A0_1 l0_1.length c0_1], .int .i64 a1, .int .i64 a2] w fun e w' => ∃ v0_ v1_ : Value, e = .returned (.tuple #[.agg #[v0_, v1_], .int .i64 r3]) ∧ Kd.V k52 52 w' w.heap.size (fun k_ => ((P0_0_ k_ ∨ P0_1_ k_) ∨ w.heap.size ≤ k_)) v0_ r1 ∧ Kd.V (Kd.slice 3 (Kd.int .i64)) 48 w' w.heap.size (fun k_ => ((P0_0_ k_ ∨ P0_1_ k_) ∨ w.heap.size ≤ k_)) v1_ r2 ∧ Below w.heap.size w w' := by
  have hu33 := Try.underlying33
  have hu52 := Try.underlying52
  have HO0_0 := Aside0.mk (show Kd.V k52 52 w w.heap.size (fun k_ => ((P0_0_ k_ ∨ P0_1_ k_) ∨ w.heap.size ≤ k_)) (.slice A0_0 l0_0.length c0_0) l0_0 from Kd.V_mono hs0_0 (fun k_ hk => .inl (.inl hk)))
  have HO0_1 := Aside0.mk (show Kd.V (Kd.slice 3 (Kd.int .i64)) 48 w w.heap.size (fun k_ => ((P0_0_ k_ ∨ P0_1_ k_) ∨ w.heap.size ≤ k_)) (.slice A0_1 l0_1.length c0_1) l0_1 from Kd.V_mono hs0_1 (fun k_ hk => .inl (.inr hk)))
  have HB := Aside0.mk (Below.refl w.heap.size w)
  have H : (if a2 < 0 then (flagstoneref11_Lock.j0 k a1 a2 true l0_0 l0_1) else (flagstoneref11_Lock.j0 k a1 a2 (decide (a2 > 2)) l0_0 l0_1)) = some (r1, r2, r3) := h
  clear h
  have HC4 := Aside0.mk H
  clear H
  go_enter Try.func12, Try.ntmps12
  go_upto_region 1 with (first | ((with_reducible refine gate_dst (N := 3) rfl ?_); (try (refine gate_guard (by rfl) ?_; dsimp only)); refine box_event ?hg (N := 3) ?hd (cs := #[.slice A0_0 l0_0.length c0_0, .slice A0_1 l0_1.length c0_1]) (t := 33) ?hr ?_; (case hd => rfl); (case hg => rfl); (case hr => first | (go_simp; done) | (go_simp; rfl)); intro gb219 hg w5 hbox hb; have n0_ := Aside0.mk (Kd.V_below (Kd.V_elderB (by (with_reducible repeat (first | apply Kd.V_alloc | apply Kd.V_drewN | apply Kd.V_drew)); exact HO0_0.out) gb219 (Nat.le_of_eq hg.symm)) hb); have n1_ := Aside0.mk (Kd.V_below (Kd.V_elderB (by (with_reducible repeat (first | apply Kd.V_alloc | apply Kd.V_drewN | apply Kd.V_drew)); exact HO0_1.out) gb219 (Nat.le_of_eq hg.symm)) hb); have n2_ := Aside0.mk (below_step (by repeat (first | (with_reducible first | exact HB.out | apply below_alloc | apply pw_below_drewN | apply below_drew1) | exact HB.out)) hb); have n3_ := Aside0.mk (hbox); have n4_ := Aside0.mk ((by rw [hg]; exact (below_size (by repeat (first | (with_reducible first | exact HB.out | apply below_alloc | apply pw_below_drewN | apply below_drew1) | exact HB.out))) : w.heap.size ≤ gb219)); have n5_ := Aside0.mk ((by rw [hg]; exact (below_size (by repeat (first | (with_reducible first | exact HB.out | apply below_alloc | apply pw_below_drewN | apply below_drew1) | exact HB.out))) : w.heap.size ≤ gb219)); clear HO0_0; clear HO0_1; clear HB; have HO0_0 := n0_; have HO0_1 := n1_; have HB := n2_; have BK219 := n3_; have GW219 := n4_; have GE219 := n5_; clear n0_ n1_ n2_ n3_ n4_ n5_; clear hb hbox hg) | ((with_reducible refine gate_dst (N := 6) rfl ?_); (try (refine gate_guard (by rfl) ?_; dsimp only)); refine box_event ?hg (N := 6) ?hd (cs := #[.slice none 0 0, .slice none 0 0]) (t := 33) ?hr ?_; (case hd => rfl); (case hg => rfl); (case hr => first | (go_simp; done) | (go_simp; rfl)); intro gb220 hg w6 hbox hb; have n0_ := Aside0.mk (Kd.V_below (Kd.V_elderB (by (with_reducible repeat (first | apply Kd.V_alloc | apply Kd.V_drewN | apply Kd.V_drew)); exact HO0_0.out) gb220 (Nat.le_of_eq hg.symm)) hb); have n1_ := Aside0.mk (Kd.V_below (Kd.V_elderB (by (with_reducible repeat (first | apply Kd.V_alloc | apply Kd.V_drewN | apply Kd.V_drew)); exact HO0_1.out) gb220 (Nat.le_of_eq hg.symm)) hb); have n2_ := Aside0.mk (blk_below (g := gb219) (o := .cells #[.slice A0_0 l0_0.length c0_0, .slice A0_1 l0_1.length c0_1] 33 (0, 0)) (by (with_reducible repeat (first | refine blk_drewN ?_ _ | refine blk_drew ?_ | refine blk_alloc ?_ _)); exact BK219.out) hb); have n3_ := Aside0.mk (below_step (by repeat (first | (with_reducible first | exact HB.out | apply below_alloc | apply pw_below_drewN | apply below_drew1 | refine below_set ?_ GE219.out) | exact HB.out)) hb); have n4_ := Aside0.mk (hbox); have n5_ := Aside0.mk ((by rw [hg]; exact (below_size (by repeat (first | (with_reducible first | exact HB.out | apply below_alloc | apply pw_below_drewN | apply below_drew1 | refine below_set ?_ GE219.out) | exact HB.out))) : w.heap.size ≤ gb220)); have n6_ := Aside0.mk ((by rw [hg]; exact (below_size (by repeat (first | (with_reducible first | exact HB.out | apply below_alloc | apply pw_below_drewN | apply below_drew1 | refine below_set ?_ GE219.out) | exact HB.out))) : w.heap.size ≤ gb220)); have n7_ := Aside0.mk ((by rw [hg]; exact Nat.ne_of_lt (blk_lt (g := gb219) (o := .cells #[.slice A0_0 l0_0.length c0_0, .slice A0_1 l0_1.length c0_1] 33 (0, 0)) (by (with_reducible repeat (first | refine blk_drewN ?_ _ | refine blk_drew ?_ | refine blk_alloc ?_ _)); exact BK219.out)) : gb219 ≠ gb220)); have n8_ := Aside0.mk ((by rw [hg]; exact Nat.ne_of_gt (blk_lt (g := gb219) (o := .cells #[.slice A0_0 l0_0.length c0_0, .slice A0_1 l0_1.length c0_1] 33 (0, 0)) (by (with_reducible repeat (first | refine blk_drewN ?_ _ | refine blk_drew ?_ | refine blk_alloc ?_ _)); exact BK219.out)) : gb220 ≠ gb219)); clear HO0_0; clear HO0_1; clear BK219; clear HB; have HO0_0 := n0_; have HO0_1 := n1_; have BK219 := n2_; have HB := n3_; have BK220 := n4_; have GW220 := n5_; have GE220 := n6_; have NB219_220 := n7_; have NB220_219 := n8_; clear n0_ n1_ n2_ n3_ n4_ n5_ n6_ n7_ n8_; clear hb hbox hg))
  (try simp only [Act.put, List.setIfInBounds_toArray, List.set_cons_zero, List.set_cons_succ])
  go_cut [16] (fun v16 wc => ∃ (kq : Nat) (x16_3 : Bool), v16 = .bool x16_3 ∧ Aside0 (flagstoneref11_Lock.j0 kq a1 a2 x16_3 l0_0 l0_1 = some (r1, r2, r3)) ∧ Aside0 (kq ≤ k) ∧ Aside0 (Kd.V k52 52 wc w.heap.size (fun k_ => ((P0_0_ k_ ∨ P0_1_ k_) ∨ w.heap.size ≤ k_) ∧ k_ ≠ gb219 ∧ k_ ≠ gb220) (.slice A0_0 l0_0.length c0_0) l0_0) ∧ Aside0 (Kd.V (Kd.slice 3 (Kd.int .i64)) 48 wc w.heap.size (fun k_ => ((P0_0_ k_ ∨ P0_1_ k_) ∨ w.heap.size ≤ k_) ∧ k_ ≠ gb219 ∧ k_ ≠ gb220) (.slice A0_1 l0_1.length c0_1) l0_1) ∧ Aside0 (wc.heap[gb219]? = some (.cells #[(.slice A0_0 l0_0.length c0_0), (.slice A0_1 l0_1.length c0_1)] 33 (0, 0))) ∧ Aside0 (wc.heap[gb220]? = some (.cells #[(.slice none 0 0), (.slice none 0 0)] 33 (0, 0))) ∧ Aside0 (Below w.heap.size w wc))
  case first =>
    have H := HC4.out
    clear HC4
    by_cases c7 : a2 < 0
    · rw [if_pos c7] at H
      have c7b0 : decide (a2 < 0) = true := decide_eq_true c7
      clear c7
      (first | rw [c7b0] | (simp only [i64_w, i32_w]; rw [c7b0]) | skip)
      have H' := Aside0.mk H
      clear H
      go_wp2
      go_meet
      case rel => exact ⟨_, (true), (by first | rfl | (simp; done) | (simp [*]; done)), H', ⟨by first | omega | exact Nat.le_refl _⟩, ⟨by (with_reducible repeat (first | apply Kd.V_alloc | apply Kd.V_drewN | apply Kd.V_drew)); exact Kd.V_mono HO0_0.out (fun _ hk => ⟨hk.1.1, ⟨hk.1.2, hk.2⟩⟩)⟩, ⟨by (with_reducible repeat (first | apply Kd.V_alloc | apply Kd.V_drewN | apply Kd.V_drew)); exact Kd.V_mono HO0_1.out (fun _ hk => ⟨hk.1.1, ⟨hk.1.2, hk.2⟩⟩)⟩, ⟨by (with_reducible repeat (first | refine blk_drewN ?_ _ | refine blk_drew ?_ | refine blk_alloc ?_ _)); exact BK219.out⟩, ⟨by (with_reducible repeat (first | refine blk_drewN ?_ _ | refine blk_drew ?_ | refine blk_alloc ?_ _)); exact BK220.out⟩, ⟨by repeat (first | (with_reducible first | exact HB.out | apply below_alloc | apply pw_below_drewN | apply below_drew1 | refine below_set ?_ GE219.out | refine below_set ?_ GE220.out) | exact HB.out)⟩⟩
    · rw [if_neg c7] at H
      have c7b0 : decide (a2 < 0) = false := decide_eq_false c7
      clear c7
      (first | rw [c7b0] | (simp only [i64_w, i32_w]; rw [c7b0]) | skip)
      have H' := Aside0.mk H
      clear H
      go_wp2
      go_meet
      case rel => exact ⟨_, (decide (a2 > 2)), (by first | rfl | (simp; done) | (simp [*]; done)), H', ⟨by first | omega | exact Nat.le_refl _⟩, ⟨by (with_reducible repeat (first | apply Kd.V_alloc | apply Kd.V_drewN | apply Kd.V_drew)); exact Kd.V_mono HO0_0.out (fun _ hk => ⟨hk.1.1, ⟨hk.1.2, hk.2⟩⟩)⟩, ⟨by (with_reducible repeat (first | apply Kd.V_alloc | apply Kd.V_drewN | apply Kd.V_drew)); exact Kd.V_mono HO0_1.out (fun _ hk => ⟨hk.1.1, ⟨hk.1.2, hk.2⟩⟩)⟩, ⟨by (with_reducible repeat (first | refine blk_drewN ?_ _ | refine blk_drew ?_ | refine blk_alloc ?_ _)); exact BK219.out⟩, ⟨by (with_reducible repeat (first | refine blk_drewN ?_ _ | refine blk_drew ?_ | refine blk_alloc ?_ _)); exact BK220.out⟩, ⟨by repeat (first | (with_reducible first | exact HB.out | apply below_alloc | apply pw_below_drewN | apply below_drew1 | refine below_set ?_ GE219.out | refine below_set ?_ GE220.out) | exact HB.out)⟩⟩
  case rest =>
    clear HC4
    try clear c1
    try clear p2
    try clear c7
    try clear c7b0
    obtain ⟨kq, x16_3, rfl, HA, HJ3, HO_220000, HO_220001, BK219, BK220, HB⟩ := hcut
    cases kq with
    | zero => exact absurd HA.out (by simp [flagstoneref11_Lock.j0])
    | succ kj3 =>
      have H := HA.out
      clear HA
      simp only [flagstoneref11_Lock.j0] at H
      by_cases c8 : x16_3 = true
      · subst c8
        have H1 : (some (l0_0, l0_1, 1)) = some (r1, r2, r3) := by rw [if_pos rfl] at H; exact H
        clear H
        have H := H1
        clear H1
        simp only [Option.some.injEq, Prod.mk.injEq] at H
        obtain ⟨rfl, rfl, rfl⟩ := H
        have hnb9 := NB219_220.out
        have hnc9 := NB220_219.out
        have hcz10_0 : wc.cell? ⟨gb219, 0, none⟩ = some (.slice A0_0 l0_0.length c0_0) := (blk_cell BK219.out 0).trans rfl
        have hcz10_1 : wc.cell? ⟨gb219, 1, none⟩ = some (.slice A0_1 l0_1.length c0_1) := (blk_cell BK219.out 1).trans rfl
        have hfz10_0 := blk_frozen BK219.out 0
        have hfz10_1 := blk_frozen BK219.out 1
        have hcz11_0 : wc.cell? ⟨gb220, 0, none⟩ = some (.slice none 0 0) := (blk_cell BK220.out 0).trans rfl
        have hcz11_1 : wc.cell? ⟨gb220, 1, none⟩ = some (.slice none 0 0) := (blk_cell BK220.out 1).trans rfl
        have hfz11_0 := blk_frozen BK220.out 0
        have hfz11_1 := blk_frozen BK220.out 1
        go_wp2
        refine bodyPost_ret (results_ct rfl _ _ gb220 33 #[.slice A0_0 l0_0.length c0_0, .slice A0_1 l0_1.length c0_1] (0, 0) _ rfl (by (with_reducible repeat (first | refine blk_drewN ?_ _ | refine blk_drew ?_ | refine blk_alloc ?_ _)); refine blk_put (cs := #[.slice A0_0 l0_0.length c0_0, .slice none 0 0]) ?_ 1 _ rfl; (with_reducible repeat (first | refine blk_drewN ?_ _ | refine blk_drew ?_ | refine blk_alloc ?_ _)); refine blk_put (cs := #[.slice none 0 0, .slice none 0 0]) ?_ 0 _ rfl; (with_reducible repeat (first | refine blk_drewN ?_ _ | refine blk_drew ?_ | refine blk_alloc ?_ _)); exact BK220.out) Try.underlying33 rfl (by kernel_rfl)) rfl ?_
        exact ⟨_, _, by first | rfl | (simp [errW_none, errW_some] <;> rfl) | (simp [*, errW_none, errW_some] <;> rfl), by (with_reducible repeat (first | apply Kd.V_alloc | apply Kd.V_drewN | apply Kd.V_drew)); exact Kd.V_mono (Kd.V_far (p := ⟨gb220, 1, none⟩) (Kd.V_far (p := ⟨gb220, 0, none⟩) (Kd.V_mono HO_220000.out (fun k_ hk => (⟨hk, hk.2.2⟩ : _ ∧ k_ ≠ gb220))) (fun _ hk => hk.2) (.slice A0_0 l0_0.length c0_0)) (fun _ hk => hk.2) (.slice A0_1 l0_1.length c0_1)) (fun _ hk => hk.1.1), by (with_reducible repeat (first | apply Kd.V_alloc | apply Kd.V_drewN | apply Kd.V_drew)); exact Kd.V_mono (Kd.V_far (p := ⟨gb220, 1, none⟩) (Kd.V_far (p := ⟨gb220, 0, none⟩) (Kd.V_mono HO_220001.out (fun k_ hk => (⟨hk, hk.2.2⟩ : _ ∧ k_ ≠ gb220))) (fun _ hk => hk.2) (.slice A0_0 l0_0.length c0_0)) (fun _ hk => hk.2) (.slice A0_1 l0_1.length c0_1)) (fun _ hk => hk.1.1), by repeat (first | (with_reducible first | exact HB.out | apply below_alloc | apply pw_below_drewN | apply below_drew1 | refine below_set ?_ GE219.out | refine below_set ?_ GE220.out) | exact HB.out)⟩
      · replace c8 := Bool.eq_false_iff.mpr c8
        subst c8
        have H1 : (if a1 < 0 then (flagstoneref11_Lock.j1 kj3 a1 a2 true l0_0 l0_1) else (if a1 ≥ (l0_0.length : Int) then (flagstoneref11_Lock.j1 kj3 a1 a2 true l0_0 l0_1) else (if 0 ≤ a1 then (if a1 < (l0_0.length : Int) then (flagstoneref11_Lock.j1 kj3 a1 a2 (decide (((rd_T52 l0_0 a1).f4) < 1)) l0_0 l0_1) else (none)) else (none)))) = some (r1, r2, r3) := by rw [if_neg (show ¬ (false = true) by decide)] at H; exact H
        clear H
        have H := H1
        clear H1
        have HC12 := Aside0.mk H
        clear H
        go_upto_region 3 with (fail)
        go_cut [35] (fun v35 wc => ∃ (kq : Nat) (x35_11 : Bool), v35 = .bool x35_11 ∧ Aside0 (flagstoneref11_Lock.j1 kq a1 a2 x35_11 l0_0 l0_1 = some (r1, r2, r3)) ∧ Aside0 (kq ≤ kj3) ∧ Aside0 (Kd.V k52 52 wc w.heap.size (fun k_ => ((P0_0_ k_ ∨ P0_1_ k_) ∨ w.heap.size ≤ k_) ∧ k_ ≠ gb219 ∧ k_ ≠ gb220) (.slice A0_0 l0_0.length c0_0) l0_0) ∧ Aside0 (Kd.V (Kd.slice 3 (Kd.int .i64)) 48 wc w.heap.size (fun k_ => ((P0_0_ k_ ∨ P0_1_ k_) ∨ w.heap.size ≤ k_) ∧ k_ ≠ gb219 ∧ k_ ≠ gb220) (.slice A0_1 l0_1.length c0_1) l0_1) ∧ Aside0 (wc.heap[gb219]? = some (.cells #[(.slice A0_0 l0_0.length c0_0), (.slice A0_1 l0_1.length c0_1)] 33 (0, 0))) ∧ Aside0 (wc.heap[gb220]? = some (.cells #[(.slice none 0 0), (.slice none 0 0)] 33 (0, 0))) ∧ Aside0 (Below w.heap.size w wc))
        case first =>
          have H := HC12.out
          clear HC12
          by_cases c13 : a1 < 0
          · rw [if_pos c13] at H
            have c13b0 : decide (a1 < 0) = true := decide_eq_true c13
            clear c13
            (first | rw [c13b0] | (simp only [i64_w, i32_w]; rw [c13b0]) | skip)
            have H' := Aside0.mk H
            clear H
            go_wp2
            go_meet
            case rel => exact ⟨_, (true), (by first | rfl | (simp; done) | (simp [*]; done)), H', ⟨by have := HJ3.out; first | omega | exact Nat.le_refl _⟩, ⟨by (with_reducible repeat (first | apply Kd.V_alloc | apply Kd.V_drewN | apply Kd.V_drew)); exact HO_220000.out⟩, ⟨by (with_reducible repeat (first | apply Kd.V_alloc | apply Kd.V_drewN | apply Kd.V_drew)); exact HO_220001.out⟩, ⟨by (with_reducible repeat (first | refine blk_drewN ?_ _ | refine blk_drew ?_ | refine blk_alloc ?_ _)); exact BK219.out⟩, ⟨by (with_reducible repeat (first | refine blk_drewN ?_ _ | refine blk_drew ?_ | refine blk_alloc ?_ _)); exact BK220.out⟩, ⟨by repeat (first | (with_reducible first | exact HB.out | apply below_alloc | apply pw_below_drewN | apply below_drew1 | refine below_set ?_ GE219.out | refine below_set ?_ GE220.out) | exact HB.out)⟩⟩
          · rw [if_neg c13] at H
            have c13b0 : decide (a1 < 0) = false := decide_eq_false c13
            clear c13
            (first | rw [c13b0] | (simp only [i64_w, i32_w]; rw [c13b0]) | skip)
            by_cases c14 : a1 ≥ (l0_0.length : Int)
            · rw [if_pos c14] at H
              have c14b0 : decide ((l0_0.length : Int) ≤ a1) = true := decide_eq_true c14
              clear c14
              have H' := Aside0.mk H
              clear H
              have hnb15 := NB219_220.out
              have hnc15 := NB220_219.out
              have hcz16_0 : wc.cell? ⟨gb219, 0, none⟩ = some (.slice A0_0 l0_0.length c0_0) := (blk_cell BK219.out 0).trans rfl
              have hcz16_1 : wc.cell? ⟨gb219, 1, none⟩ = some (.slice A0_1 l0_1.length c0_1) := (blk_cell BK219.out 1).trans rfl
              have hfz16_0 := blk_frozen BK219.out 0
              have hfz16_1 := blk_frozen BK219.out 1
              go_wp2
              go_meet
              case rel => exact ⟨_, (true), (by first | rfl | (simp; done) | (simp [*]; done)), H', ⟨by have := HJ3.out; first | omega | exact Nat.le_refl _⟩, ⟨by (with_reducible repeat (first | apply Kd.V_alloc | apply Kd.V_drewN | apply Kd.V_drew)); exact HO_220000.out⟩, ⟨by (with_reducible repeat (first | apply Kd.V_alloc | apply Kd.V_drewN | apply Kd.V_drew)); exact HO_220001.out⟩, ⟨by (with_reducible repeat (first | refine blk_drewN ?_ _ | refine blk_drew ?_ | refine blk_alloc ?_ _)); exact BK219.out⟩, ⟨by (with_reducible repeat (first | refine blk_drewN ?_ _ | refine blk_drew ?_ | refine blk_alloc ?_ _)); exact BK220.out⟩, ⟨by repeat (first | (with_reducible first | exact HB.out | apply below_alloc | apply pw_below_drewN | apply below_drew1 | refine below_set ?_ GE219.out | refine below_set ?_ GE220.out) | exact HB.out)⟩⟩
            · rw [if_neg c14] at H
              have c14b0 : decide ((l0_0.length : Int) ≤ a1) = false := decide_eq_false c14
              clear c14
              by_cases c17 : 0 ≤ a1
              · rw [if_pos c17] at H
                have c17b0 : decide (0 ≤ a1) = true := decide_eq_true c17
                clear c17
                by_cases c18 : a1 < (l0_0.length : Int)
                · rw [if_pos c18] at H
                  have c18b0 : decide (a1 < (l0_0.length : Int)) = true := decide_eq_true c18
                  clear c18
                  have H' := Aside0.mk H
                  clear H
                  have hnb19 := NB219_220.out
                  have hnc19 := NB220_219.out
                  have hcz20_0 : wc.cell? ⟨gb219, 0, none⟩ = some (.slice A0_0 l0_0.length c0_0) := (blk_cell BK219.out 0).trans rfl
                  have hcz20_1 : wc.cell? ⟨gb219, 1, none⟩ = some (.slice A0_1 l0_1.length c0_1) := (blk_cell BK219.out 1).trans rfl
                  have hfz20_0 := blk_frozen BK219.out 0
                  have hfz20_1 := blk_frozen BK219.out 1
                  have p221 : 0 ≤ (a1 : Int) := of_decide_eq_true (by first | (with_reducible assumption) | assumption)
                  have q221 : a1 < (l0_0.length : Int) := of_decide_eq_true (by first | (with_reducible assumption) | assumption)
                  obtain ⟨ad221, e221, hx221_0, hx221_1, hx221_2, hx221_3, hx221_4, hx221_5⟩ := at_T52 (Kd.V_reads' HO_220000.out).2.2 a1 p221 q221
                  cases e221
                  replace p221 := eq_true p221
                  replace q221 := eq_true q221
                  go_wp2
                  go_meet
                  case rel => exact ⟨_, (decide (((rd_T52 l0_0 a1).f4) < 1)), (by first | rfl | (simp; done) | (simp [*]; done)), H', ⟨by have := HJ3.out; first | omega | exact Nat.le_refl _⟩, ⟨by (with_reducible repeat (first | apply Kd.V_alloc | apply Kd.V_drewN | apply Kd.V_drew)); exact HO_220000.out⟩, ⟨by (with_reducible repeat (first | apply Kd.V_alloc | apply Kd.V_drewN | apply Kd.V_drew)); exact HO_220001.out⟩, ⟨by (with_reducible repeat (first | refine blk_drewN ?_ _ | refine blk_drew ?_ | refine blk_alloc ?_ _)); exact BK219.out⟩, ⟨by (with_reducible repeat (first | refine blk_drewN ?_ _ | refine blk_drew ?_ | refine blk_alloc ?_ _)); exact BK220.out⟩, ⟨by repeat (first | (with_reducible first | exact HB.out | apply below_alloc | apply pw_below_drewN | apply below_drew1 | refine below_set ?_ GE219.out | refine below_set ?_ GE220.out) | exact HB.out)⟩⟩
                · rw [if_neg c18] at H
                  exact absurd H (by simp)
              · rw [if_neg c17] at H
                exact absurd H (by simp)
        case rest =>
          clear HC12
          try clear c1
          try clear p2
          try clear q2
          try clear hx2
          try clear c7
          try clear c7b0
          try clear c8
          try clear c9
          try clear c12
          try clear c13
          try clear c13b0
          try clear c14
          try clear c14b0
          try clear c15
          try clear c17
          try clear c17b0
          try clear c18
          try clear c18b0
          try clear c19
          try clear hcz10_0
          try clear hcz10_1
          try clear hcz11_0
          try clear hcz11_1
          try clear hcz16_0
          try clear hcz16_1
          try clear hcz20_0
          try clear hcz20_1
          try clear hfz10_0
          try clear hfz10_1
          try clear hfz11_0
          try clear hfz11_1
          try clear hfz16_0
          try clear hfz16_1
          try clear hfz20_0
          try clear hfz20_1
          try clear hx221_0
          try clear hx221_1
          try clear hx221_2
          try clear hx221_3
          try clear hx221_4
          try clear hx221_5
          try clear p2
          try clear p221
          try clear q221
          obtain ⟨kq, x35_11, rfl, HA, HJ11, HO_220000, HO_220001, BK219, BK220, HB⟩ := hcut
          cases kq with
          | zero => exact absurd HA.out (by simp [flagstoneref11_Lock.j1])
          | succ kj11 =>
            have H := HA.out
            clear HA
            simp only [flagstoneref11_Lock.j1] at H
            by_cases c21 : x35_11 = true
            · subst c21
              have H1 : (some (l0_0, l0_1, 12)) = some (r1, r2, r3) := by rw [if_pos rfl] at H; exact H
              clear H
              have H := H1
              clear H1
              simp only [Option.some.injEq, Prod.mk.injEq] at H
              obtain ⟨rfl, rfl, rfl⟩ := H
              have hnb22 := NB219_220.out
              have hnc22 := NB220_219.out
              have hcz23_0 : wc.cell? ⟨gb219, 0, none⟩ = some (.slice A0_0 l0_0.length c0_0) := (blk_cell BK219.out 0).trans rfl
              have hcz23_1 : wc.cell? ⟨gb219, 1, none⟩ = some (.slice A0_1 l0_1.length c0_1) := (blk_cell BK219.out 1).trans rfl
              have hfz23_0 := blk_frozen BK219.out 0
              have hfz23_1 := blk_frozen BK219.out 1
              have hcz24_0 : wc.cell? ⟨gb220, 0, none⟩ = some (.slice none 0 0) := (blk_cell BK220.out 0).trans rfl
              have hcz24_1 : wc.cell? ⟨gb220, 1, none⟩ = some (.slice none 0 0) := (blk_cell BK220.out 1).trans rfl
              have hfz24_0 := blk_frozen BK220.out 0
              have hfz24_1 := blk_frozen BK220.out 1
              go_wp2
              refine bodyPost_ret (results_ct rfl _ _ gb220 33 #[.slice A0_0 l0_0.length c0_0, .slice A0_1 l0_1.length c0_1] (0, 0) _ rfl (by (with_reducible repeat (first | refine blk_drewN ?_ _ | refine blk_drew ?_ | refine blk_alloc ?_ _)); refine blk_put (cs := #[.slice A0_0 l0_0.length c0_0, .slice none 0 0]) ?_ 1 _ rfl; (with_reducible repeat (first | refine blk_drewN ?_ _ | refine blk_drew ?_ | refine blk_alloc ?_ _)); refine blk_put (cs := #[.slice none 0 0, .slice none 0 0]) ?_ 0 _ rfl; (with_reducible repeat (first | refine blk_drewN ?_ _ | refine blk_drew ?_ | refine blk_alloc ?_ _)); exact BK220.out) Try.underlying33 rfl (by kernel_rfl)) rfl ?_
              exact ⟨_, _, by first | rfl | (simp [errW_none, errW_some] <;> rfl) | (simp [*, errW_none, errW_some] <;> rfl), by (with_reducible repeat (first | apply Kd.V_alloc | apply Kd.V_drewN | apply Kd.V_drew)); exact Kd.V_mono (Kd.V_far (p := ⟨gb220, 1, none⟩) (Kd.V_far (p := ⟨gb220, 0, none⟩) (Kd.V_mono HO_220000.out (fun k_ hk => (⟨hk, hk.2.2⟩ : _ ∧ k_ ≠ gb220))) (fun _ hk => hk.2) (.slice A0_0 l0_0.length c0_0)) (fun _ hk => hk.2) (.slice A0_1 l0_1.length c0_1)) (fun _ hk => hk.1.1), by (with_reducible repeat (first | apply Kd.V_alloc | apply Kd.V_drewN | apply Kd.V_drew)); exact Kd.V_mono (Kd.V_far (p := ⟨gb220, 1, none⟩) (Kd.V_far (p := ⟨gb220, 0, none⟩) (Kd.V_mono HO_220001.out (fun k_ hk => (⟨hk, hk.2.2⟩ : _ ∧ k_ ≠ gb220))) (fun _ hk => hk.2) (.slice A0_0 l0_0.length c0_0)) (fun _ hk => hk.2) (.slice A0_1 l0_1.length c0_1)) (fun _ hk => hk.1.1), by repeat (first | (with_reducible first | exact HB.out | apply below_alloc | apply pw_below_drewN | apply below_drew1 | refine below_set ?_ GE219.out | refine below_set ?_ GE220.out) | exact HB.out)⟩
            · replace c21 := Bool.eq_false_iff.mpr c21
              subst c21
              have H1 : (if 0 ≤ a1 then (if a1 < (l0_0.length : Int) then (flagstoneref11_Lock.l0 kj11 a1 a2 0 l0_0 l0_1 ((rd_T52 l0_0 a1).f0) ((rd_T52 l0_0 a1).f1) ((rd_T52 l0_0 a1).f2) ((rd_T52 l0_0 a1).f3) ((rd_T52 l0_0 a1).f4) ((rd_T52 l0_0 a1).f5)) else (none)) else (none)) = some (r1, r2, r3) := by rw [if_neg (show ¬ (false = true) by decide)] at H; exact H
              clear H
              have H := H1
              clear H1
              by_cases c25 : 0 ≤ a1
              · rw [if_pos c25] at H
                have c25b0 : decide (0 ≤ a1) = true := decide_eq_true c25
                clear c25
                by_cases c26 : a1 < (l0_0.length : Int)
                · rw [if_pos c26] at H
                  have c26b0 : decide (a1 < (l0_0.length : Int)) = true := decide_eq_true c26
                  clear c26
                  have H' := Aside0.mk H
                  clear H
                  have hnb27 := NB219_220.out
                  have hnc27 := NB220_219.out
                  have hcz28_0 : wc.cell? ⟨gb219, 0, none⟩ = some (.slice A0_0 l0_0.length c0_0) := (blk_cell BK219.out 0).trans rfl
                  have hcz28_1 : wc.cell? ⟨gb219, 1, none⟩ = some (.slice A0_1 l0_1.length c0_1) := (blk_cell BK219.out 1).trans rfl
                  have hfz28_0 := blk_frozen BK219.out 0
                  have hfz28_1 := blk_frozen BK219.out 1
                  have p222 : 0 ≤ (a1 : Int) := of_decide_eq_true (by first | (with_reducible assumption) | assumption)
                  have q222 : a1 < (l0_0.length : Int) := of_decide_eq_true (by first | (with_reducible assumption) | assumption)
                  obtain ⟨ad222, e222, hx222_0, hx222_1, hx222_2, hx222_3, hx222_4, hx222_5⟩ := at_T52 (Kd.V_reads' HO_220000.out).2.2 a1 p222 q222
                  cases e222
                  replace p222 := eq_true p222
                  replace q222 := eq_true q222
                  go_wp2_with (first | ((with_reducible refine gate_dst (N := 8) rfl ?_); (try (refine gate_guard (by rfl) ?_; dsimp only)); refine box_event ?hg (N := 8) ?hd (cs := #[.int .i64 0, .int .i64 0, .bool false, .bool false, .int .i64 0, .int .i64 0]) (t := 52) ?hr ?_; (case hd => rfl); (case hg => rfl); (case hr => first | (go_simp; done) | (go_simp; rfl)); intro gb223 hg w29 hbox hb; have n0_ := Aside0.mk (Kd.V_below (Kd.V_elderB (by (with_reducible repeat (first | apply Kd.V_alloc | apply Kd.V_drewN | apply Kd.V_drew)); exact HO_220000.out) gb223 (Nat.le_of_eq hg.symm)) hb); have n1_ := Aside0.mk (Kd.V_below (Kd.V_elderB (by (with_reducible repeat (first | apply Kd.V_alloc | apply Kd.V_drewN | apply Kd.V_drew)); exact HO_220001.out) gb223 (Nat.le_of_eq hg.symm)) hb); have n2_ := Aside0.mk (blk_below (g := gb219) (o := .cells #[.slice (some ad222) l0_0.length c0_0, .slice A0_1 l0_1.length c0_1] 33 (0, 0)) (by (with_reducible repeat (first | refine blk_drewN ?_ _ | refine blk_drew ?_ | refine blk_alloc ?_ _)); exact BK219.out) hb); have n3_ := Aside0.mk (blk_below (g := gb220) (o := .cells #[.slice none 0 0, .slice none 0 0] 33 (0, 0)) (by (with_reducible repeat (first | refine blk_drewN ?_ _ | refine blk_drew ?_ | refine blk_alloc ?_ _)); exact BK220.out) hb); have n4_ := Aside0.mk (below_step (by repeat (first | (with_reducible first | exact HB.out | apply below_alloc | apply pw_below_drewN | apply below_drew1 | refine below_set ?_ GE219.out | refine below_set ?_ GE220.out) | exact HB.out)) hb); have n5_ := Aside0.mk (hbox); have n6_ := Aside0.mk ((by rw [hg]; exact (below_size (by repeat (first | (with_reducible first | exact HB.out | apply below_alloc | apply pw_below_drewN | apply below_drew1 | refine below_set ?_ GE219.out | refine below_set ?_ GE220.out) | exact HB.out))) : w.heap.size ≤ gb223)); have n7_ := Aside0.mk ((by rw [hg]; exact (below_size (by repeat (first | (with_reducible first | exact HB.out | apply below_alloc | apply pw_below_drewN | apply below_drew1 | refine below_set ?_ GE219.out | refine below_set ?_ GE220.out) | exact HB.out))) : w.heap.size ≤ gb223)); have n8_ := Aside0.mk ((by rw [hg]; exact Nat.ne_of_lt (blk_lt (g := gb219) (o := .cells #[.slice (some ad222) l0_0.length c0_0, .slice A0_1 l0_1.length c0_1] 33 (0, 0)) (by (with_reducible repeat (first | refine blk_drewN ?_ _ | refine blk_drew ?_ | refine blk_alloc ?_ _)); exact BK219.out)) : gb219 ≠ gb223)); have n9_ := Aside0.mk ((by rw [hg]; exact Nat.ne_of_gt (blk_lt (g := gb219) (o := .cells #[.slice (some ad222) l0_0.length c0_0, .slice A0_1 l0_1.length c0_1] 33 (0, 0)) (by (with_reducible repeat (first | refine blk_drewN ?_ _ | refine blk_drew ?_ | refine blk_alloc ?_ _)); exact BK219.out)) : gb223 ≠ gb219)); have n10_ := Aside0.mk ((by rw [hg]; exact Nat.ne_of_lt (blk_lt (g := gb220) (o := .cells #[.slice none 0 0, .slice none 0 0] 33 (0, 0)) (by (with_reducible repeat (first | refine blk_drewN ?_ _ | refine blk_drew ?_ | refine blk_alloc ?_ _)); exact BK220.out)) : gb220 ≠ gb223)); have n11_ := Aside0.mk ((by rw [hg]; exact Nat.ne_of_gt (blk_lt (g := gb220) (o := .cells #[.slice none 0 0, .slice none 0 0] 33 (0, 0)) (by (with_reducible repeat (first | refine blk_drewN ?_ _ | refine blk_drew ?_ | refine blk_alloc ?_ _)); exact BK220.out)) : gb223 ≠ gb220)); clear HO_220000; clear HO_220001; clear BK219; clear BK220; clear HB; have HO_220000 := n0_; have HO_220001 := n1_; have BK219 := n2_; have BK220 := n3_; have HB := n4_; have BK223 := n5_; have GW223 := n6_; have GE223 := n7_; have NB219_223 := n8_; have NB223_219 := n9_; have NB220_223 := n10_; have NB223_220 := n11_; clear n0_ n1_ n2_ n3_ n4_ n5_ n6_ n7_ n8_ n9_ n10_ n11_; clear hb hbox hg; have hnb30 := NB223_219.out; have hnc30 := NB219_223.out; have hnb31 := NB223_220.out; have hnc31 := NB220_223.out; have hcz32_0 : w29.cell? ⟨gb223, 0, none⟩ = some (.int .i64 0) := (blk_cell BK223.out 0).trans rfl; have hcz32_1 : w29.cell? ⟨gb223, 1, none⟩ = some (.int .i64 0) := (blk_cell BK223.out 1).trans rfl; have hcz32_2 : w29.cell? ⟨gb223, 2, none⟩ = some (.bool false) := (blk_cell BK223.out 2).trans rfl; have hcz32_3 : w29.cell? ⟨gb223, 3, none⟩ = some (.bool false) := (blk_cell BK223.out 3).trans rfl; have hcz32_4 : w29.cell? ⟨gb223, 4, none⟩ = some (.int .i64 0) := (blk_cell BK223.out 4).trans rfl; have hcz32_5 : w29.cell? ⟨gb223, 5, none⟩ = some (.int .i64 0) := (blk_cell BK223.out 5).trans rfl; have hfz32_0 := blk_frozen BK223.out 0; have hfz32_1 := blk_frozen BK223.out 1; have hfz32_2 := blk_frozen BK223.out 2; have hfz32_3 := blk_frozen BK223.out 3; have hfz32_4 := blk_frozen BK223.out 4; have hfz32_5 := blk_frozen BK223.out 5))
                  go_loopg [9] kj11 (fun kq v9 w' => ∃ (x9_3 : Int), v9 = .int .i64 x9_3 ∧ Aside0 (flagstoneref11_Lock.l0 kq a1 a2 x9_3 l0_0 l0_1 ((rd_T52 l0_0 a1).f0) ((rd_T52 l0_0 a1).f1) ((rd_T52 l0_0 a1).f2) ((rd_T52 l0_0 a1).f3) ((rd_T52 l0_0 a1).f4) ((rd_T52 l0_0 a1).f5) = some (r1, r2, r3)) ∧ Aside0 (kq ≤ kj11) ∧ Aside0 (Kd.V k52 52 w' w.heap.size (fun k_ => ((P0_0_ k_ ∨ P0_1_ k_) ∨ w.heap.size ≤ k_) ∧ k_ ≠ gb219 ∧ k_ ≠ gb220 ∧ k_ ≠ gb223) (.slice (some ad222) l0_0.length c0_0) l0_0) ∧ Aside0 (Kd.V (Kd.slice 3 (Kd.int .i64)) 48 w' w.heap.size (fun k_ => ((P0_0_ k_ ∨ P0_1_ k_) ∨ w.heap.size ≤ k_) ∧ k_ ≠ gb219 ∧ k_ ≠ gb220 ∧ k_ ≠ gb223) (.slice A0_1 l0_1.length c0_1) l0_1) ∧ Aside0 (w'.heap[gb219]? = some (.cells #[(.slice (some ad222) l0_0.length c0_0), (.slice A0_1 l0_1.length c0_1)] 33 (0, 0))) ∧ Aside0 (w'.heap[gb220]? = some (.cells #[(.slice none 0 0), (.slice none 0 0)] 33 (0, 0))) ∧ Aside0 (w'.heap[gb223]? = some (.cells #[.int .i64 ((rd_T52 l0_0 a1).f0), .int .i64 ((rd_T52 l0_0 a1).f1), .bool ((rd_T52 l0_0 a1).f2), .bool ((rd_T52 l0_0 a1).f3), .int .i64 ((rd_T52 l0_0 a1).f4), .int .i64 ((rd_T52 l0_0 a1).f5)] 52 (0, 0))) ∧ Aside0 (Below w.heap.size w w'))
                  case atStart => exact ⟨(0), (by first | rfl | (simp; done) | (simp [*]; done)), H', ⟨Nat.le_refl _⟩, ⟨by (with_reducible repeat (first | apply Kd.V_alloc | apply Kd.V_drewN | apply Kd.V_drew)); exact Kd.V_mono (Kd.V_far (p := ⟨gb223, 5, none⟩) (Kd.V_far (p := ⟨gb223, 4, none⟩) (Kd.V_far (p := ⟨gb223, 3, none⟩) (Kd.V_far (p := ⟨gb223, 2, none⟩) (Kd.V_far (p := ⟨gb223, 1, none⟩) (Kd.V_far (p := ⟨gb223, 0, none⟩) (Kd.V_mono HO_220000.out (fun k_ hk => (⟨hk, hk.2⟩ : _ ∧ k_ ≠ gb223))) (fun _ hk => hk.2) (.int .i64 ((rd_T52 l0_0 a1).f0))) (fun _ hk => hk.2) (.int .i64 ((rd_T52 l0_0 a1).f1))) (fun _ hk => hk.2) (.bool ((rd_T52 l0_0 a1).f2))) (fun _ hk => hk.2) (.bool ((rd_T52 l0_0 a1).f3))) (fun _ hk => hk.2) (.int .i64 ((rd_T52 l0_0 a1).f4))) (fun _ hk => hk.2) (.int .i64 ((rd_T52 l0_0 a1).f5))) (fun _ hk => ⟨hk.1.1.1, ⟨hk.1.1.2.1, ⟨hk.1.1.2.2, hk.1.2⟩⟩⟩)⟩, ⟨by (with_reducible repeat (first | apply Kd.V_alloc | apply Kd.V_drewN | apply Kd.V_drew)); exact Kd.V_mono (Kd.V_far (p := ⟨gb223, 5, none⟩) (Kd.V_far (p := ⟨gb223, 4, none⟩) (Kd.V_far (p := ⟨gb223, 3, none⟩) (Kd.V_far (p := ⟨gb223, 2, none⟩) (Kd.V_far (p := ⟨gb223, 1, none⟩) (Kd.V_far (p := ⟨gb223, 0, none⟩) (Kd.V_mono HO_220001.out (fun k_ hk => (⟨hk, hk.2⟩ : _ ∧ k_ ≠ gb223))) (fun _ hk => hk.2) (.int .i64 ((rd_T52 l0_0 a1).f0))) (fun _ hk => hk.2) (.int .i64 ((rd_T52 l0_0 a1).f1))) (fun _ hk => hk.2) (.bool ((rd_T52 l0_0 a1).f2))) (fun _ hk => hk.2) (.bool ((rd_T52 l0_0 a1).f3))) (fun _ hk => hk.2) (.int .i64 ((rd_T52 l0_0 a1).f4))) (fun _ hk => hk.2) (.int .i64 ((rd_T52 l0_0 a1).f5))) (fun _ hk => ⟨hk.1.1.1, ⟨hk.1.1.2.1, ⟨hk.1.1.2.2, hk.1.2⟩⟩⟩)⟩, ⟨by (with_reducible repeat (first | refine blk_drewN ?_ _ | refine blk_drew ?_ | refine blk_alloc ?_ _)); refine blk_far ?_ NB219_223.out _; (with_reducible repeat (first | refine blk_drewN ?_ _ | refine blk_drew ?_ | refine blk_alloc ?_ _)); refine blk_far ?_ NB219_223.out _; (with_reducible repeat (first | refine blk_drewN ?_ _ | refine blk_drew ?_ | refine blk_alloc ?_ _)); refine blk_far ?_ NB219_223.out _; (with_reducible repeat (first | refine blk_drewN ?_ _ | refine blk_drew ?_ | refine blk_alloc ?_ _)); refine blk_far ?_ NB219_223.out _; (with_reducible repeat (first | refine blk_drewN ?_ _ | refine blk_drew ?_ | refine blk_alloc ?_ _)); refine blk_far ?_ NB219_223.out _; (with_reducible repeat (first | refine blk_drewN ?_ _ | refine blk_drew ?_ | refine blk_alloc ?_ _)); refine blk_far ?_ NB219_223.out _; (with_reducible repeat (first | refine blk_drewN ?_ _ | refine blk_drew ?_ | refine blk_alloc ?_ _)); exact BK219.out⟩, ⟨by (with_reducible repeat (first | refine blk_drewN ?_ _ | refine blk_drew ?_ | refine blk_alloc ?_ _)); refine blk_far ?_ NB220_223.out _; (with_reducible repeat (first | refine blk_drewN ?_ _ | refine blk_drew ?_ | refine blk_alloc ?_ _)); refine blk_far ?_ NB220_223.out _; (with_reducible repeat (first | refine blk_drewN ?_ _ | refine blk_drew ?_ | refine blk_alloc ?_ _)); refine blk_far ?_ NB220_223.out _; (with_reducible repeat (first | refine blk_drewN ?_ _ | refine blk_drew ?_ | refine blk_alloc ?_ _)); refine blk_far ?_ NB220_223.out _; (with_reducible repeat (first | refine blk_drewN ?_ _ | refine blk_drew ?_ | refine blk_alloc ?_ _)); refine blk_far ?_ NB220_223.out _; (with_reducible repeat (first | refine blk_drewN ?_ _ | refine blk_drew ?_ | refine blk_alloc ?_ _)); refine blk_far ?_ NB220_223.out _; (with_reducible repeat (first | refine blk_drewN ?_ _ | refine blk_drew ?_ | refine blk_alloc ?_ _)); exact BK220.out⟩, ⟨by (with_reducible repeat (first | refine blk_drewN ?_ _ | refine blk_drew ?_ | refine blk_alloc ?_ _)); refine blk_put (cs := #[.int .i64 ((rd_T52 l0_0 a1).f0), .int .i64 ((rd_T52 l0_0 a1).f1), .bool ((rd_T52 l0_0 a1).f2), .bool ((rd_T52 l0_0 a1).f3), .int .i64 ((rd_T52 l0_0 a1).f4), .int .i64 0]) ?_ 5 _ rfl; (with_reducible repeat (first | refine blk_drewN ?_ _ | refine blk_drew ?_ | refine blk_alloc ?_ _)); refine blk_put (cs := #[.int .i64 ((rd_T52 l0_0 a1).f0), .int .i64 ((rd_T52 l0_0 a1).f1), .bool ((rd_T52 l0_0 a1).f2), .bool ((rd_T52 l0_0 a1).f3), .int .i64 0, .int .i64 0]) ?_ 4 _ rfl; (with_reducible repeat (first | refine blk_drewN ?_ _ | refine blk_drew ?_ | refine blk_alloc ?_ _)); refine blk_put (cs := #[.int .i64 ((rd_T52 l0_0 a1).f0), .int .i64 ((rd_T52 l0_0 a1).f1), .bool ((rd_T52 l0_0 a1).f2), .bool false, .int .i64 0, .int .i64 0]) ?_ 3 _ rfl; (with_reducible repeat (first | refine blk_drewN ?_ _ | refine blk_drew ?_ | refine blk_alloc ?_ _)); refine blk_put (cs := #[.int .i64 ((rd_T52 l0_0 a1).f0), .int .i64 ((rd_T52 l0_0 a1).f1), .bool false, .bool false, .int .i64 0, .int .i64 0]) ?_ 2 _ rfl; (with_reducible repeat (first | refine blk_drewN ?_ _ | refine blk_drew ?_ | refine blk_alloc ?_ _)); refine blk_put (cs := #[.int .i64 ((rd_T52 l0_0 a1).f0), .int .i64 0, .bool false, .bool false, .int .i64 0, .int .i64 0]) ?_ 1 _ rfl; (with_reducible repeat (first | refine blk_drewN ?_ _ | refine blk_drew ?_ | refine blk_alloc ?_ _)); refine blk_put (cs := #[.int .i64 0, .int .i64 0, .bool false, .bool false, .int .i64 0, .int .i64 0]) ?_ 0 _ rfl; (with_reducible repeat (first | refine blk_drewN ?_ _ | refine blk_drew ?_ | refine blk_alloc ?_ _)); exact BK223.out⟩, ⟨by repeat (first | (with_reducible first | exact HB.out | apply below_alloc | apply pw_below_drewN | apply below_drew1 | refine below_set ?_ GE219.out | refine below_set ?_ GE220.out | refine below_set ?_ GE223.out) | exact HB.out)⟩⟩
                  case round =>
                    clear H'
                    try clear c1
                    try clear c2
                    try clear p2
                    try clear q2
                    try clear hx2
                    try clear c3
                    try clear c7
                    try clear c7b0
                    try clear c8
                    try clear c9
                    try clear c12
                    try clear c13
                    try clear c13b0
                    try clear c14
                    try clear c14b0
                    try clear c15
                    try clear c17
                    try clear c17b0
                    try clear c18
                    try clear c18b0
                    try clear c19
                    try clear c21
                    try clear c22
                    try clear p22
                    try clear q22
                    try clear hx22
                    try clear c25
                    try clear c25b0
                    try clear c26
                    try clear c26b0
                    try clear c27
                    try clear c30
                    try clear c31
                    try clear hcz10_0
                    try clear hcz10_1
                    try clear hcz11_0
                    try clear hcz11_1
                    try clear hcz16_0
                    try clear hcz16_1
                    try clear hcz20_0
                    try clear hcz20_1
                    try clear hcz23_0
                    try clear hcz23_1
                    try clear hcz24_0
                    try clear hcz24_1
                    try clear hcz28_0
                    try clear hcz28_1
                    try clear hcz32_0
                    try clear hcz32_1
                    try clear hcz32_2
                    try clear hcz32_3
                    try clear hcz32_4
                    try clear hcz32_5
                    try clear hfz10_0
                    try clear hfz10_1
                    try clear hfz11_0
                    try clear hfz11_1
                    try clear hfz16_0
                    try clear hfz16_1
                    try clear hfz20_0
                    try clear hfz20_1
                    try clear hfz23_0
                    try clear hfz23_1
                    try clear hfz24_0
                    try clear hfz24_1
                    try clear hfz28_0
                    try clear hfz28_1
                    try clear hfz32_0
                    try clear hfz32_1
                    try clear hfz32_2
                    try clear hfz32_3
                    try clear hfz32_4
                    try clear hfz32_5
                    try clear hx221_0
                    try clear hx221_1
                    try clear hx221_2
                    try clear hx221_3
                    try clear hx221_4
                    try clear hx221_5
                    try clear hx222_0
                    try clear hx222_1
                    try clear hx222_2
                    try clear hx222_3
                    try clear hx222_4
                    try clear hx222_5
                    try clear p2
                    try clear p221
                    try clear p222
                    try clear q2
                    try clear q221
                    try clear q222
                    obtain ⟨x9_3, rfl, HA, HK3, HO_220000, HO_220001, BK219, BK220, BK223, HB⟩ := hrel
                    cases gk with
                    | zero => exact absurd HA.out (by simp [flagstoneref11_Lock.l0])
                    | succ k3 =>
                      have H := HA.out
                      clear HA
                      simp only [flagstoneref11_Lock.l0] at H
                      by_cases c33 : x9_3 < (l0_0.length : Int)
                      · rw [if_pos c33] at H
                        have c33b0 : decide (x9_3 < (l0_0.length : Int)) = true := decide_eq_true c33
                        clear c33
                        by_cases c34 : 0 ≤ x9_3
                        · rw [if_pos c34] at H
                          have c34b0 : decide (0 ≤ x9_3) = true := decide_eq_true c34
                          clear c34
                          have HC35 := Aside0.mk H
                          clear H
                          have hnb36 := NB219_220.out
                          have hnc36 := NB220_219.out
                          have hnb37 := NB219_223.out
                          have hnc37 := NB223_219.out
                          have hcz38_0 : wr.cell? ⟨gb219, 0, none⟩ = some (.slice (some ad222) l0_0.length c0_0) := (blk_cell BK219.out 0).trans rfl
                          have hcz38_1 : wr.cell? ⟨gb219, 1, none⟩ = some (.slice A0_1 l0_1.length c0_1) := (blk_cell BK219.out 1).trans rfl
                          have hfz38_0 := blk_frozen BK219.out 0
                          have hfz38_1 := blk_frozen BK219.out 1
                          have p230 : 0 ≤ (x9_3 : Int) := of_decide_eq_true (by first | (with_reducible assumption) | assumption)
                          have q230 : x9_3 < (l0_0.length : Int) := of_decide_eq_true (by first | (with_reducible assumption) | assumption)
                          obtain ⟨ad230, e230, hx230_0, hx230_1, hx230_2, hx230_3, hx230_4, hx230_5⟩ := at_T52 (Kd.V_reads' HO_220000.out).2.2 x9_3 p230 q230
                          obtain rfl : ad222 = ad230 := (by injection e230)
                          replace p230 := eq_true p230
                          replace q230 := eq_true q230
                          go_upto_region 10 with (first | ((with_reducible refine gate_dst (N := 10) rfl ?_); (try (refine gate_guard (by rfl) ?_; dsimp only)); refine box_event ?hg (N := 10) ?hd (cs := #[.int .i64 0, .int .i64 0, .bool false, .bool false, .int .i64 0, .int .i64 0]) (t := 52) ?hr ?_; (case hd => rfl); (case hg => rfl); (case hr => first | (go_simp; done) | (go_simp; rfl)); intro gb231 hg w39 hbox hb; have n0_ := Aside0.mk (Kd.V_below (Kd.V_elderB (by (with_reducible repeat (first | apply Kd.V_alloc | apply Kd.V_drewN | apply Kd.V_drew)); exact HO_220000.out) gb231 (Nat.le_of_eq hg.symm)) hb); have n1_ := Aside0.mk (Kd.V_below (Kd.V_elderB (by (with_reducible repeat (first | apply Kd.V_alloc | apply Kd.V_drewN | apply Kd.V_drew)); exact HO_220001.out) gb231 (Nat.le_of_eq hg.symm)) hb); have n2_ := Aside0.mk (blk_below (g := gb219) (o := .cells #[.slice (some ad222) l0_0.length c0_0, .slice A0_1 l0_1.length c0_1] 33 (0, 0)) (by (with_reducible repeat (first | refine blk_drewN ?_ _ | refine blk_drew ?_ | refine blk_alloc ?_ _)); exact BK219.out) hb); have n3_ := Aside0.mk (blk_below (g := gb220) (o := .cells #[.slice none 0 0, .slice none 0 0] 33 (0, 0)) (by (with_reducible repeat (first | refine blk_drewN ?_ _ | refine blk_drew ?_ | refine blk_alloc ?_ _)); exact BK220.out) hb); have n4_ := Aside0.mk (blk_below (g := gb223) (o := .cells #[.int .i64 ((rd_T52 l0_0 a1).f0), .int .i64 ((rd_T52 l0_0 a1).f1), .bool ((rd_T52 l0_0 a1).f2), .bool ((rd_T52 l0_0 a1).f3), .int .i64 ((rd_T52 l0_0 a1).f4), .int .i64 ((rd_T52 l0_0 a1).f5)] 52 (0, 0)) (by (with_reducible repeat (first | refine blk_drewN ?_ _ | refine blk_drew ?_ | refine blk_alloc ?_ _)); exact BK223.out) hb); have n5_ := Aside0.mk (below_step (by repeat (first | (with_reducible first | exact HB.out | apply below_alloc | apply pw_below_drewN | apply below_drew1 | refine below_set ?_ GE219.out | refine below_set ?_ GE220.out | refine below_set ?_ GE223.out) | exact HB.out)) hb); have n6_ := Aside0.mk (hbox); have n7_ := Aside0.mk ((by rw [hg]; exact (below_size (by repeat (first | (with_reducible first | exact HB.out | apply below_alloc | apply pw_below_drewN | apply below_drew1 | refine below_set ?_ GE219.out | refine below_set ?_ GE220.out | refine below_set ?_ GE223.out) | exact HB.out))) : w.heap.size ≤ gb231)); have n8_ := Aside0.mk ((by rw [hg]; exact (below_size (by repeat (first | (with_reducible first | exact HB.out | apply below_alloc | apply pw_below_drewN | apply below_drew1 | refine below_set ?_ GE219.out | refine below_set ?_ GE220.out | refine below_set ?_ GE223.out) | exact HB.out))) : w.heap.size ≤ gb231)); have n9_ := Aside0.mk ((by rw [hg]; exact Nat.ne_of_lt (blk_lt (g := gb219) (o := .cells #[.slice (some ad222) l0_0.length c0_0, .slice A0_1 l0_1.length c0_1] 33 (0, 0)) (by (with_reducible repeat (first | refine blk_drewN ?_ _ | refine blk_drew ?_ | refine blk_alloc ?_ _)); exact BK219.out)) : gb219 ≠ gb231)); have n10_ := Aside0.mk ((by rw [hg]; exact Nat.ne_of_gt (blk_lt (g := gb219) (o := .cells #[.slice (some ad222) l0_0.length c0_0, .slice A0_1 l0_1.length c0_1] 33 (0, 0)) (by (with_reducible repeat (first | refine blk_drewN ?_ _ | refine blk_drew ?_ | refine blk_alloc ?_ _)); exact BK219.out)) : gb231 ≠ gb219)); have n11_ := Aside0.mk ((by rw [hg]; exact Nat.ne_of_lt (blk_lt (g := gb220) (o := .cells #[.slice none 0 0, .slice none 0 0] 33 (0, 0)) (by (with_reducible repeat (first | refine blk_drewN ?_ _ | refine blk_drew ?_ | refine blk_alloc ?_ _)); exact BK220.out)) : gb220 ≠ gb231)); have n12_ := Aside0.mk ((by rw [hg]; exact Nat.ne_of_gt (blk_lt (g := gb220) (o := .cells #[.slice none 0 0, .slice none 0 0] 33 (0, 0)) (by (with_reducible repeat (first | refine blk_drewN ?_ _ | refine blk_drew ?_ | refine blk_alloc ?_ _)); exact BK220.out)) : gb231 ≠ gb220)); have n13_ := Aside0.mk ((by rw [hg]; exact Nat.ne_of_lt (blk_lt (g := gb223) (o := .cells #[.int .i64 ((rd_T52 l0_0 a1).f0), .int .i64 ((rd_T52 l0_0 a1).f1), .bool ((rd_T52 l0_0 a1).f2), .bool ((rd_T52 l0_0 a1).f3), .int .i64 ((rd_T52 l0_0 a1).f4), .int .i64 ((rd_T52 l0_0 a1).f5)] 52 (0, 0)) (by (with_reducible repeat (first | refine blk_drewN ?_ _ | refine blk_drew ?_ | refine blk_alloc ?_ _)); exact BK223.out)) : gb223 ≠ gb231)); have n14_ := Aside0.mk ((by rw [hg]; exact Nat.ne_of_gt (blk_lt (g := gb223) (o := .cells #[.int .i64 ((rd_T52 l0_0 a1).f0), .int .i64 ((rd_T52 l0_0 a1).f1), .bool ((rd_T52 l0_0 a1).f2), .bool ((rd_T52 l0_0 a1).f3), .int .i64 ((rd_T52 l0_0 a1).f4), .int .i64 ((rd_T52 l0_0 a1).f5)] 52 (0, 0)) (by (with_reducible repeat (first | refine blk_drewN ?_ _ | refine blk_drew ?_ | refine blk_alloc ?_ _)); exact BK223.out)) : gb231 ≠ gb223)); clear HO_220000; clear HO_220001; clear BK219; clear BK220; clear BK223; clear HB; have HO_220000 := n0_; have HO_220001 := n1_; have BK219 := n2_; have BK220 := n3_; have BK223 := n4_; have HB := n5_; have BK231 := n6_; have GW231 := n7_; have GE231 := n8_; have NB219_231 := n9_; have NB231_219 := n10_; have NB220_231 := n11_; have NB231_220 := n12_; have NB223_231 := n13_; have NB231_223 := n14_; clear n0_ n1_ n2_ n3_ n4_ n5_ n6_ n7_ n8_ n9_ n10_ n11_ n12_ n13_ n14_; clear hb hbox hg; have hnb40 := NB231_219.out; have hnc40 := NB219_231.out; have hnb41 := NB231_220.out; have hnc41 := NB220_231.out; have hnb42 := NB231_223.out; have hnc42 := NB223_231.out; have hcz43_0 : w39.cell? ⟨gb231, 0, none⟩ = some (.int .i64 0) := (blk_cell BK231.out 0).trans rfl; have hcz43_1 : w39.cell? ⟨gb231, 1, none⟩ = some (.int .i64 0) := (blk_cell BK231.out 1).trans rfl; have hcz43_2 : w39.cell? ⟨gb231, 2, none⟩ = some (.bool false) := (blk_cell BK231.out 2).trans rfl; have hcz43_3 : w39.cell? ⟨gb231, 3, none⟩ = some (.bool false) := (blk_cell BK231.out 3).trans rfl; have hcz43_4 : w39.cell? ⟨gb231, 4, none⟩ = some (.int .i64 0) := (blk_cell BK231.out 4).trans rfl; have hcz43_5 : w39.cell? ⟨gb231, 5, none⟩ = some (.int .i64 0) := (blk_cell BK231.out 5).trans rfl; have hfz43_0 := blk_frozen BK231.out 0; have hfz43_1 := blk_frozen BK231.out 1; have hfz43_2 := blk_frozen BK231.out 2; have hfz43_3 := blk_frozen BK231.out 3; have hfz43_4 := blk_frozen BK231.out 4; have hfz43_5 := blk_frozen BK231.out 5))
                          (try simp only [Act.put, List.setIfInBounds_toArray, List.set_cons_zero, List.set_cons_succ])
                          go_cut [68] (fun v68 wc => ∃ (kq : Nat) (x68_34 : Bool), v68 = .bool x68_34 ∧ Aside0 (flagstoneref11_Lock.j3 kq a1 a2 x9_3 x68_34 l0_0 l0_1 ((rd_T52 l0_0 a1).f0) ((rd_T52 l0_0 a1).f1) ((rd_T52 l0_0 a1).f2) ((rd_T52 l0_0 a1).f3) ((rd_T52 l0_0 a1).f4) ((rd_T52 l0_0 a1).f5) ((rd_T52 l0_0 x9_3).f0) ((rd_T52 l0_0 x9_3).f1) ((rd_T52 l0_0 x9_3).f2) ((rd_T52 l0_0 x9_3).f3) ((rd_T52 l0_0 x9_3).f4) ((rd_T52 l0_0 x9_3).f5) = some (r1, r2, r3)) ∧ Aside0 (kq ≤ k3) ∧ Aside0 (Kd.V k52 52 wc w.heap.size (fun k_ => ((P0_0_ k_ ∨ P0_1_ k_) ∨ w.heap.size ≤ k_) ∧ k_ ≠ gb219 ∧ k_ ≠ gb220 ∧ k_ ≠ gb223 ∧ k_ ≠ gb231) (.slice (some ad222) l0_0.length c0_0) l0_0) ∧ Aside0 (Kd.V (Kd.slice 3 (Kd.int .i64)) 48 wc w.heap.size (fun k_ => ((P0_0_ k_ ∨ P0_1_ k_) ∨ w.heap.size ≤ k_) ∧ k_ ≠ gb219 ∧ k_ ≠ gb220 ∧ k_ ≠ gb223 ∧ k_ ≠ gb231) (.slice A0_1 l0_1.length c0_1) l0_1) ∧ Aside0 (wc.heap[gb219]? = some (.cells #[(.slice (some ad222) l0_0.length c0_0), (.slice A0_1 l0_1.length c0_1)] 33 (0, 0))) ∧ Aside0 (wc.heap[gb220]? = some (.cells #[(.slice none 0 0), (.slice none 0 0)] 33 (0, 0))) ∧ Aside0 (wc.heap[gb223]? = some (.cells #[.int .i64 ((rd_T52 l0_0 a1).f0), .int .i64 ((rd_T52 l0_0 a1).f1), .bool ((rd_T52 l0_0 a1).f2), .bool ((rd_T52 l0_0 a1).f3), .int .i64 ((rd_T52 l0_0 a1).f4), .int .i64 ((rd_T52 l0_0 a1).f5)] 52 (0, 0))) ∧ Aside0 (wc.heap[gb231]? = some (.cells #[.int .i64 ((rd_T52 l0_0 x9_3).f0), .int .i64 ((rd_T52 l0_0 x9_3).f1), .bool ((rd_T52 l0_0 x9_3).f2), .bool ((rd_T52 l0_0 x9_3).f3), .int .i64 ((rd_T52 l0_0 x9_3).f4), .int .i64 ((rd_T52 l0_0 x9_3).f5)] 52 (0, 0))) ∧ Aside0 (Below w.heap.size w wc))
                          case first =>
                            have H := HC35.out
                            clear HC35
                            by_cases c44 : x9_3 = a1
                            · rw [if_pos c44] at H
                              have c44b0 : (x9_3 == a1) = true := beq_iff_eq.mpr c44
                              have c44b1 : (x9_3 != a1) = false := bne_eq_false_iff_eq.mpr c44
                              clear c44
                              (first | rw [c44b0] | (simp only [i64_w, i32_w]; rw [c44b0]) | skip)
                              have H' := Aside0.mk H
                              clear H
                              go_wp2
                              go_meet
                              case rel => exact ⟨_, (true), (by first | rfl | (simp; done) | (simp [*]; done)), H', ⟨by have := HJ3.out; have := HJ11.out; have := HK3.out; first | omega | exact Nat.le_refl _⟩, ⟨by (with_reducible repeat (first | apply Kd.V_alloc | apply Kd.V_drewN | apply Kd.V_drew)); exact Kd.V_mono (Kd.V_far (p := ⟨gb231, 5, none⟩) (Kd.V_far (p := ⟨gb231, 4, none⟩) (Kd.V_far (p := ⟨gb231, 3, none⟩) (Kd.V_far (p := ⟨gb231, 2, none⟩) (Kd.V_far (p := ⟨gb231, 1, none⟩) (Kd.V_far (p := ⟨gb231, 0, none⟩) (Kd.V_mono HO_220000.out (fun k_ hk => (⟨hk, hk.2⟩ : _ ∧ k_ ≠ gb231))) (fun _ hk => hk.2) (.int .i64 ((rd_T52 l0_0 x9_3).f0))) (fun _ hk => hk.2) (.int .i64 ((rd_T52 l0_0 x9_3).f1))) (fun _ hk => hk.2) (.bool ((rd_T52 l0_0 x9_3).f2))) (fun _ hk => hk.2) (.bool ((rd_T52 l0_0 x9_3).f3))) (fun _ hk => hk.2) (.int .i64 ((rd_T52 l0_0 x9_3).f4))) (fun _ hk => hk.2) (.int .i64 ((rd_T52 l0_0 x9_3).f5))) (fun _ hk => ⟨hk.1.1.1, ⟨hk.1.1.2.1, ⟨hk.1.1.2.2.1, ⟨hk.1.1.2.2.2, hk.1.2⟩⟩⟩⟩)⟩, ⟨by (with_reducible repeat (first | apply Kd.V_alloc | apply Kd.V_drewN | apply Kd.V_drew)); exact Kd.V_mono (Kd.V_far (p := ⟨gb231, 5, none⟩) (Kd.V_far (p := ⟨gb231, 4, none⟩) (Kd.V_far (p := ⟨gb231, 3, none⟩) (Kd.V_far (p := ⟨gb231, 2, none⟩) (Kd.V_far (p := ⟨gb231, 1, none⟩) (Kd.V_far (p := ⟨gb231, 0, none⟩) (Kd.V_mono HO_220001.out (fun k_ hk => (⟨hk, hk.2⟩ : _ ∧ k_ ≠ gb231))) (fun _ hk => hk.2) (.int .i64 ((rd_T52 l0_0 x9_3).f0))) (fun _ hk => hk.2) (.int .i64 ((rd_T52 l0_0 x9_3).f1))) (fun _ hk => hk.2) (.bool ((rd_T52 l0_0 x9_3).f2))) (fun _ hk => hk.2) (.bool ((rd_T52 l0_0 x9_3).f3))) (fun _ hk => hk.2) (.int .i64 ((rd_T52 l0_0 x9_3).f4))) (fun _ hk => hk.2) (.int .i64 ((rd_T52 l0_0 x9_3).f5))) (fun _ hk => ⟨hk.1.1.1, ⟨hk.1.1.2.1, ⟨hk.1.1.2.2.1, ⟨hk.1.1.2.2.2, hk.1.2⟩⟩⟩⟩)⟩, ⟨by (with_reducible repeat (first | refine blk_drewN ?_ _ | refine blk_drew ?_ | refine blk_alloc ?_ _)); refine blk_far ?_ NB219_231.out _; (with_reducible repeat (first | refine blk_drewN ?_ _ | refine blk_drew ?_ | refine blk_alloc ?_ _)); refine blk_far ?_ NB219_231.out _; (with_reducible repeat (first | refine blk_drewN ?_ _ | refine blk_drew ?_ | refine blk_alloc ?_ _)); refine blk_far ?_ NB219_231.out _; (with_reducible repeat (first | refine blk_drewN ?_ _ | refine blk_drew ?_ | refine blk_alloc ?_ _)); refine blk_far ?_ NB219_231.out _; (with_reducible repeat (first | refine blk_drewN ?_ _ | refine blk_drew ?_ | refine blk_alloc ?_ _)); refine blk_far ?_ NB219_231.out _; (with_reducible repeat (first | refine blk_drewN ?_ _ | refine blk_drew ?_ | refine blk_alloc ?_ _)); refine blk_far ?_ NB219_231.out _; (with_reducible repeat (first | refine blk_drewN ?_ _ | refine blk_drew ?_ | refine blk_alloc ?_ _)); exact BK219.out⟩, ⟨by (with_reducible repeat (first | refine blk_drewN ?_ _ | refine blk_drew ?_ | refine blk_alloc ?_ _)); refine blk_far ?_ NB220_231.out _; (with_reducible repeat (first | refine blk_drewN ?_ _ | refine blk_drew ?_ | refine blk_alloc ?_ _)); refine blk_far ?_ NB220_231.out _; (with_reducible repeat (first | refine blk_drewN ?_ _ | refine blk_drew ?_ | refine blk_alloc ?_ _)); refine blk_far ?_ NB220_231.out _; (with_reducible repeat (first | refine blk_drewN ?_ _ | refine blk_drew ?_ | refine blk_alloc ?_ _)); refine blk_far ?_ NB220_231.out _; (with_reducible repeat (first | refine blk_drewN ?_ _ | refine blk_drew ?_ | refine blk_alloc ?_ _)); refine blk_far ?_ NB220_231.out _; (with_reducible repeat (first | refine blk_drewN ?_ _ | refine blk_drew ?_ | refine blk_alloc ?_ _)); refine blk_far ?_ NB220_231.out _; (with_reducible repeat (first | refine blk_drewN ?_ _ | refine blk_drew ?_ | refine blk_alloc ?_ _)); exact BK220.out⟩, ⟨by (with_reducible repeat (first | refine blk_drewN ?_ _ | refine blk_drew ?_ | refine blk_alloc ?_ _)); refine blk_far ?_ NB223_231.out _; (with_reducible repeat (first | refine blk_drewN ?_ _ | refine blk_drew ?_ | refine blk_alloc ?_ _)); refine blk_far ?_ NB223_231.out _; (with_reducible repeat (first | refine blk_drewN ?_ _ | refine blk_drew ?_ | refine blk_alloc ?_ _)); refine blk_far ?_ NB223_231.out _; (with_reducible repeat (first | refine blk_drewN ?_ _ | refine blk_drew ?_ | refine blk_alloc ?_ _)); refine blk_far ?_ NB223_231.out _; (with_reducible repeat (first | refine blk_drewN ?_ _ | refine blk_drew ?_ | refine blk_alloc ?_ _)); refine blk_far ?_ NB223_231.out _; (with_reducible repeat (first | refine blk_drewN ?_ _ | refine blk_drew ?_ | refine blk_alloc ?_ _)); refine blk_far ?_ NB223_231.out _; (with_reducible repeat (first | refine blk_drewN ?_ _ | refine blk_drew ?_ | refine blk_alloc ?_ _)); exact BK223.out⟩, ⟨by (with_reducible repeat (first | refine blk_drewN ?_ _ | refine blk_drew ?_ | refine blk_alloc ?_ _)); refine blk_put (cs := #[.int .i64 ((rd_T52 l0_0 x9_3).f0), .int .i64 ((rd_T52 l0_0 x9_3).f1), .bool ((rd_T52 l0_0 x9_3).f2), .bool ((rd_T52 l0_0 x9_3).f3), .int .i64 ((rd_T52 l0_0 x9_3).f4), .int .i64 0]) ?_ 5 _ rfl; (with_reducible repeat (first | refine blk_drewN ?_ _ | refine blk_drew ?_ | refine blk_alloc ?_ _)); refine blk_put (cs := #[.int .i64 ((rd_T52 l0_0 x9_3).f0), .int .i64 ((rd_T52 l0_0 x9_3).f1), .bool ((rd_T52 l0_0 x9_3).f2), .bool ((rd_T52 l0_0 x9_3).f3), .int .i64 0, .int .i64 0]) ?_ 4 _ rfl; (with_reducible repeat (first | refine blk_drewN ?_ _ | refine blk_drew ?_ | refine blk_alloc ?_ _)); refine blk_put (cs := #[.int .i64 ((rd_T52 l0_0 x9_3).f0), .int .i64 ((rd_T52 l0_0 x9_3).f1), .bool ((rd_T52 l0_0 x9_3).f2), .bool false, .int .i64 0, .int .i64 0]) ?_ 3 _ rfl; (with_reducible repeat (first | refine blk_drewN ?_ _ | refine blk_drew ?_ | refine blk_alloc ?_ _)); refine blk_put (cs := #[.int .i64 ((rd_T52 l0_0 x9_3).f0), .int .i64 ((rd_T52 l0_0 x9_3).f1), .bool false, .bool false, .int .i64 0, .int .i64 0]) ?_ 2 _ rfl; (with_reducible repeat (first | refine blk_drewN ?_ _ | refine blk_drew ?_ | refine blk_alloc ?_ _)); refine blk_put (cs := #[.int .i64 ((rd_T52 l0_0 x9_3).f0), .int .i64 0, .bool false, .bool false, .int .i64 0, .int .i64 0]) ?_ 1 _ rfl; (with_reducible repeat (first | refine blk_drewN ?_ _ | refine blk_drew ?_ | refine blk_alloc ?_ _)); refine blk_put (cs := #[.int .i64 0, .int .i64 0, .bool false, .bool false, .int .i64 0, .int .i64 0]) ?_ 0 _ rfl; (with_reducible repeat (first | refine blk_drewN ?_ _ | refine blk_drew ?_ | refine blk_alloc ?_ _)); exact BK231.out⟩, ⟨by repeat (first | (with_reducible first | exact HB.out | apply below_alloc | apply pw_below_drewN | apply below_drew1 | refine below_set ?_ GE219.out | refine below_set ?_ GE220.out | refine below_set ?_ GE223.out | refine below_set ?_ GE231.out) | exact HB.out)⟩⟩
                            · rw [if_neg c44] at H
                              have c44b0 : (x9_3 == a1) = false := beq_eq_false_iff_ne.mpr c44
                              have c44b1 : (x9_3 != a1) = true := bne_iff_ne.mpr c44
                              (first | rw [c44b0] | (simp only [i64_w, i32_w]; rw [c44b0]) | skip)
                              by_cases c45 : ((rd_T52 l0_0 x9_3).f4) < 1
                              · rw [if_pos c45] at H
                                have c45b0 : decide (((rd_T52 l0_0 x9_3).f4) < 1) = true := decide_eq_true c45
                                clear c45
                                have H' := Aside0.mk H
                                clear H
                                have hnb46 := NB231_219.out
                                have hnc46 := NB219_231.out
                                have hnb47 := NB231_220.out
                                have hnc47 := NB220_231.out
                                have hnb48 := NB231_223.out
                                have hnc48 := NB223_231.out
                                have hcz49_0 : w39.cell? ⟨gb231, 0, none⟩ = some (.int .i64 0) := (blk_cell BK231.out 0).trans rfl
                                have hcz49_1 : w39.cell? ⟨gb231, 1, none⟩ = some (.int .i64 0) := (blk_cell BK231.out 1).trans rfl
                                have hcz49_2 : w39.cell? ⟨gb231, 2, none⟩ = some (.bool false) := (blk_cell BK231.out 2).trans rfl
                                have hcz49_3 : w39.cell? ⟨gb231, 3, none⟩ = some (.bool false) := (blk_cell BK231.out 3).trans rfl
                                have hcz49_4 : w39.cell? ⟨gb231, 4, none⟩ = some (.int .i64 0) := (blk_cell BK231.out 4).trans rfl
                                have hcz49_5 : w39.cell? ⟨gb231, 5, none⟩ = some (.int .i64 0) := (blk_cell BK231.out 5).trans rfl
                                have hfz49_0 := blk_frozen BK231.out 0
                                have hfz49_1 := blk_frozen BK231.out 1
                                have hfz49_2 := blk_frozen BK231.out 2
                                have hfz49_3 := blk_frozen BK231.out 3
                                have hfz49_4 := blk_frozen BK231.out 4
                                have hfz49_5 := blk_frozen BK231.out 5
                                go_wp2
                                go_meet
                                case rel => exact ⟨_, (true), (by first | rfl | (simp; done) | (simp [*]; done)), H', ⟨by have := HJ3.out; have := HJ11.out; have := HK3.out; first | omega | exact Nat.le_refl _⟩, ⟨by (with_reducible repeat (first | apply Kd.V_alloc | apply Kd.V_drewN | apply Kd.V_drew)); exact Kd.V_mono (Kd.V_far (p := ⟨gb231, 5, none⟩) (Kd.V_far (p := ⟨gb231, 4, none⟩) (Kd.V_far (p := ⟨gb231, 3, none⟩) (Kd.V_far (p := ⟨gb231, 2, none⟩) (Kd.V_far (p := ⟨gb231, 1, none⟩) (Kd.V_far (p := ⟨gb231, 0, none⟩) (Kd.V_mono HO_220000.out (fun k_ hk => (⟨hk, hk.2⟩ : _ ∧ k_ ≠ gb231))) (fun _ hk => hk.2) (.int .i64 ((rd_T52 l0_0 x9_3).f0))) (fun _ hk => hk.2) (.int .i64 ((rd_T52 l0_0 x9_3).f1))) (fun _ hk => hk.2) (.bool ((rd_T52 l0_0 x9_3).f2))) (fun _ hk => hk.2) (.bool ((rd_T52 l0_0 x9_3).f3))) (fun _ hk => hk.2) (.int .i64 ((rd_T52 l0_0 x9_3).f4))) (fun _ hk => hk.2) (.int .i64 ((rd_T52 l0_0 x9_3).f5))) (fun _ hk => ⟨hk.1.1.1, ⟨hk.1.1.2.1, ⟨hk.1.1.2.2.1, ⟨hk.1.1.2.2.2, hk.1.2⟩⟩⟩⟩)⟩, ⟨by (with_reducible repeat (first | apply Kd.V_alloc | apply Kd.V_drewN | apply Kd.V_drew)); exact Kd.V_mono (Kd.V_far (p := ⟨gb231, 5, none⟩) (Kd.V_far (p := ⟨gb231, 4, none⟩) (Kd.V_far (p := ⟨gb231, 3, none⟩) (Kd.V_far (p := ⟨gb231, 2, none⟩) (Kd.V_far (p := ⟨gb231, 1, none⟩) (Kd.V_far (p := ⟨gb231, 0, none⟩) (Kd.V_mono HO_220001.out (fun k_ hk => (⟨hk, hk.2⟩ : _ ∧ k_ ≠ gb231))) (fun _ hk => hk.2) (.int .i64 ((rd_T52 l0_0 x9_3).f0))) (fun _ hk => hk.2) (.int .i64 ((rd_T52 l0_0 x9_3).f1))) (fun _ hk => hk.2) (.bool ((rd_T52 l0_0 x9_3).f2))) (fun _ hk => hk.2) (.bool ((rd_T52 l0_0 x9_3).f3))) (fun _ hk => hk.2) (.int .i64 ((rd_T52 l0_0 x9_3).f4))) (fun _ hk => hk.2) (.int .i64 ((rd_T52 l0_0 x9_3).f5))) (fun _ hk => ⟨hk.1.1.1, ⟨hk.1.1.2.1, ⟨hk.1.1.2.2.1, ⟨hk.1.1.2.2.2, hk.1.2⟩⟩⟩⟩)⟩, ⟨by (with_reducible repeat (first | refine blk_drewN ?_ _ | refine blk_drew ?_ | refine blk_alloc ?_ _)); refine blk_far ?_ NB219_231.out _; (with_reducible repeat (first | refine blk_drewN ?_ _ | refine blk_drew ?_ | refine blk_alloc ?_ _)); refine blk_far ?_ NB219_231.out _; (with_reducible repeat (first | refine blk_drewN ?_ _ | refine blk_drew ?_ | refine blk_alloc ?_ _)); refine blk_far ?_ NB219_231.out _; (with_reducible repeat (first | refine blk_drewN ?_ _ | refine blk_drew ?_ | refine blk_alloc ?_ _)); refine blk_far ?_ NB219_231.out _; (with_reducible repeat (first | refine blk_drewN ?_ _ | refine blk_drew ?_ | refine blk_alloc ?_ _)); refine blk_far ?_ NB219_231.out _; (with_reducible repeat (first | refine blk_drewN ?_ _ | refine blk_drew ?_ | refine blk_alloc ?_ _)); refine blk_far ?_ NB219_231.out _; (with_reducible repeat (first | refine blk_drewN ?_ _ | refine blk_drew ?_ | refine blk_alloc ?_ _)); exact BK219.out⟩, ⟨by (with_reducible repeat (first | refine blk_drewN ?_ _ | refine blk_drew ?_ | refine blk_alloc ?_ _)); refine blk_far ?_ NB220_231.out _; (with_reducible repeat (first | refine blk_drewN ?_ _ | refine blk_drew ?_ | refine blk_alloc ?_ _)); refine blk_far ?_ NB220_231.out _; (with_reducible repeat (first | refine blk_drewN ?_ _ | refine blk_drew ?_ | refine blk_alloc ?_ _)); refine blk_far ?_ NB220_231.out _; (with_reducible repeat (first | refine blk_drewN ?_ _ | refine blk_drew ?_ | refine blk_alloc ?_ _)); refine blk_far ?_ NB220_231.out _; (with_reducible repeat (first | refine blk_drewN ?_ _ | refine blk_drew ?_ | refine blk_alloc ?_ _)); refine blk_far ?_ NB220_231.out _; (with_reducible repeat (first | refine blk_drewN ?_ _ | refine blk_drew ?_ | refine blk_alloc ?_ _)); refine blk_far ?_ NB220_231.out _; (with_reducible repeat (first | refine blk_drewN ?_ _ | refine blk_drew ?_ | refine blk_alloc ?_ _)); exact BK220.out⟩, ⟨by (with_reducible repeat (first | refine blk_drewN ?_ _ | refine blk_drew ?_ | refine blk_alloc ?_ _)); refine blk_far ?_ NB223_231.out _; (with_reducible repeat (first | refine blk_drewN ?_ _ | refine blk_drew ?_ | refine blk_alloc ?_ _)); refine blk_far ?_ NB223_231.out _; (with_reducible repeat (first | refine blk_drewN ?_ _ | refine blk_drew ?_ | refine blk_alloc ?_ _)); refine blk_far ?_ NB223_231.out _; (with_reducible repeat (first | refine blk_drewN ?_ _ | refine blk_drew ?_ | refine blk_alloc ?_ _)); refine blk_far ?_ NB223_231.out _; (with_reducible repeat (first | refine blk_drewN ?_ _ | refine blk_drew ?_ | refine blk_alloc ?_ _)); refine blk_far ?_ NB223_231.out _; (with_reducible repeat (first | refine blk_drewN ?_ _ | refine blk_drew ?_ | refine blk_alloc ?_ _)); refine blk_far ?_ NB223_231.out _; (with_reducible repeat (first | refine blk_drewN ?_ _ | refine blk_drew ?_ | refine blk_alloc ?_ _)); exact BK223.out⟩, ⟨by (with_reducible repeat (first | refine blk_drewN ?_ _ | refine blk_drew ?_ | refine blk_alloc ?_ _)); refine blk_put (cs := #[.int .i64 ((rd_T52 l0_0 x9_3).f0), .int .i64 ((rd_T52 l0_0 x9_3).f1), .bool ((rd_T52 l0_0 x9_3).f2), .bool ((rd_T52 l0_0 x9_3).f3), .int .i64 ((rd_T52 l0_0 x9_3).f4), .int .i64 0]) ?_ 5 _ rfl; (with_reducible repeat (first | refine blk_drewN ?_ _ | refine blk_drew ?_ | refine blk_alloc ?_ _)); refine blk_put (cs := #[.int .i64 ((rd_T52 l0_0 x9_3).f0), .int .i64 ((rd_T52 l0_0 x9_3).f1), .bool ((rd_T52 l0_0 x9_3).f2), .bool ((rd_T52 l0_0 x9_3).f3), .int .i64 0, .int .i64 0]) ?_ 4 _ rfl; (with_reducible repeat (first | refine blk_drewN ?_ _ | refine blk_drew ?_ | refine blk_alloc ?_ _)); refine blk_put (cs := #[.int .i64 ((rd_T52 l0_0 x9_3).f0), .int .i64 ((rd_T52 l0_0 x9_3).f1), .bool ((rd_T52 l0_0 x9_3).f2), .bool false, .int .i64 0, .int .i64 0]) ?_ 3 _ rfl; (with_reducible repeat (first | refine blk_drewN ?_ _ | refine blk_drew ?_ | refine blk_alloc ?_ _)); refine blk_put (cs := #[.int .i64 ((rd_T52 l0_0 x9_3).f0), .int .i64 ((rd_T52 l0_0 x9_3).f1), .bool false, .bool false, .int .i64 0, .int .i64 0]) ?_ 2 _ rfl; (with_reducible repeat (first | refine blk_drewN ?_ _ | refine blk_drew ?_ | refine blk_alloc ?_ _)); refine blk_put (cs := #[.int .i64 ((rd_T52 l0_0 x9_3).f0), .int .i64 0, .bool false, .bool false, .int .i64 0, .int .i64 0]) ?_ 1 _ rfl; (with_reducible repeat (first | refine blk_drewN ?_ _ | refine blk_drew ?_ | refine blk_alloc ?_ _)); refine blk_put (cs := #[.int .i64 0, .int .i64 0, .bool false, .bool false, .int .i64 0, .int .i64 0]) ?_ 0 _ rfl; (with_reducible repeat (first | refine blk_drewN ?_ _ | refine blk_drew ?_ | refine blk_alloc ?_ _)); exact BK231.out⟩, ⟨by repeat (first | (with_reducible first | exact HB.out | apply below_alloc | apply pw_below_drewN | apply below_drew1 | refine below_set ?_ GE219.out | refine below_set ?_ GE220.out | refine below_set ?_ GE223.out | refine below_set ?_ GE231.out) | exact HB.out)⟩⟩
                              · rw [if_neg c45] at H
                                have c45b0 : decide (((rd_T52 l0_0 x9_3).f4) < 1) = false := decide_eq_false c45
                                clear c45
                                have H' := Aside0.mk H
                                clear H
                                have hnb50 := NB231_219.out
                                have hnc50 := NB219_231.out
                                have hnb51 := NB231_220.out
                                have hnc51 := NB220_231.out
                                have hnb52 := NB231_223.out
                                have hnc52 := NB223_231.out
                                have hcz53_0 : w39.cell? ⟨gb231, 0, none⟩ = some (.int .i64 0) := (blk_cell BK231.out 0).trans rfl
                                have hcz53_1 : w39.cell? ⟨gb231, 1, none⟩ = some (.int .i64 0) := (blk_cell BK231.out 1).trans rfl
                                have hcz53_2 : w39.cell? ⟨gb231, 2, none⟩ = some (.bool false) := (blk_cell BK231.out 2).trans rfl
                                have hcz53_3 : w39.cell? ⟨gb231, 3, none⟩ = some (.bool false) := (blk_cell BK231.out 3).trans rfl
                                have hcz53_4 : w39.cell? ⟨gb231, 4, none⟩ = some (.int .i64 0) := (blk_cell BK231.out 4).trans rfl
                                have hcz53_5 : w39.cell? ⟨gb231, 5, none⟩ = some (.int .i64 0) := (blk_cell BK231.out 5).trans rfl
                                have hfz53_0 := blk_frozen BK231.out 0
                                have hfz53_1 := blk_frozen BK231.out 1
                                have hfz53_2 := blk_frozen BK231.out 2
                                have hfz53_3 := blk_frozen BK231.out 3
                                have hfz53_4 := blk_frozen BK231.out 4
                                have hfz53_5 := blk_frozen BK231.out 5
                                have hnb54 := NB223_219.out
                                have hnc54 := NB219_223.out
                                have hnb55 := NB223_220.out
                                have hnc55 := NB220_223.out
                                have hcz56_0 : w39.cell? ⟨gb223, 0, none⟩ = some (.int .i64 ((rd_T52 l0_0 a1).f0)) := (blk_cell BK223.out 0).trans rfl
                                have hcz56_1 : w39.cell? ⟨gb223, 1, none⟩ = some (.int .i64 ((rd_T52 l0_0 a1).f1)) := (blk_cell BK223.out 1).trans rfl
                                have hcz56_2 : w39.cell? ⟨gb223, 2, none⟩ = some (.bool ((rd_T52 l0_0 a1).f2)) := (blk_cell BK223.out 2).trans rfl
                                have hcz56_3 : w39.cell? ⟨gb223, 3, none⟩ = some (.bool ((rd_T52 l0_0 a1).f3)) := (blk_cell BK223.out 3).trans rfl
                                have hcz56_4 : w39.cell? ⟨gb223, 4, none⟩ = some (.int .i64 ((rd_T52 l0_0 a1).f4)) := (blk_cell BK223.out 4).trans rfl
                                have hcz56_5 : w39.cell? ⟨gb223, 5, none⟩ = some (.int .i64 ((rd_T52 l0_0 a1).f5)) := (blk_cell BK223.out 5).trans rfl
                                have hfz56_0 := blk_frozen BK223.out 0
                                have hfz56_1 := blk_frozen BK223.out 1
                                have hfz56_2 := blk_frozen BK223.out 2
                                have hfz56_3 := blk_frozen BK223.out 3
                                have hfz56_4 := blk_frozen BK223.out 4
                                have hfz56_5 := blk_frozen BK223.out 5
                                go_wp2
                                go_meet
                                case rel => exact ⟨_, ((((rd_T52 l0_0 x9_3).f0) != ((rd_T52 l0_0 a1).f0))), (by first | rfl | (simp; done) | (simp [*]; done)), H', ⟨by have := HJ3.out; have := HJ11.out; have := HK3.out; first | omega | exact Nat.le_refl _⟩, ⟨by (with_reducible repeat (first | apply Kd.V_alloc | apply Kd.V_drewN | apply Kd.V_drew)); exact Kd.V_mono (Kd.V_far (p := ⟨gb231, 5, none⟩) (Kd.V_far (p := ⟨gb231, 4, none⟩) (Kd.V_far (p := ⟨gb231, 3, none⟩) (Kd.V_far (p := ⟨gb231, 2, none⟩) (Kd.V_far (p := ⟨gb231, 1, none⟩) (Kd.V_far (p := ⟨gb231, 0, none⟩) (Kd.V_mono HO_220000.out (fun k_ hk => (⟨hk, hk.2⟩ : _ ∧ k_ ≠ gb231))) (fun _ hk => hk.2) (.int .i64 ((rd_T52 l0_0 x9_3).f0))) (fun _ hk => hk.2) (.int .i64 ((rd_T52 l0_0 x9_3).f1))) (fun _ hk => hk.2) (.bool ((rd_T52 l0_0 x9_3).f2))) (fun _ hk => hk.2) (.bool ((rd_T52 l0_0 x9_3).f3))) (fun _ hk => hk.2) (.int .i64 ((rd_T52 l0_0 x9_3).f4))) (fun _ hk => hk.2) (.int .i64 ((rd_T52 l0_0 x9_3).f5))) (fun _ hk => ⟨hk.1.1.1, ⟨hk.1.1.2.1, ⟨hk.1.1.2.2.1, ⟨hk.1.1.2.2.2, hk.1.2⟩⟩⟩⟩)⟩, ⟨by (with_reducible repeat (first | apply Kd.V_alloc | apply Kd.V_drewN | apply Kd.V_drew)); exact Kd.V_mono (Kd.V_far (p := ⟨gb231, 5, none⟩) (Kd.V_far (p := ⟨gb231, 4, none⟩) (Kd.V_far (p := ⟨gb231, 3, none⟩) (Kd.V_far (p := ⟨gb231, 2, none⟩) (Kd.V_far (p := ⟨gb231, 1, none⟩) (Kd.V_far (p := ⟨gb231, 0, none⟩) (Kd.V_mono HO_220001.out (fun k_ hk => (⟨hk, hk.2⟩ : _ ∧ k_ ≠ gb231))) (fun _ hk => hk.2) (.int .i64 ((rd_T52 l0_0 x9_3).f0))) (fun _ hk => hk.2) (.int .i64 ((rd_T52 l0_0 x9_3).f1))) (fun _ hk => hk.2) (.bool ((rd_T52 l0_0 x9_3).f2))) (fun _ hk => hk.2) (.bool ((rd_T52 l0_0 x9_3).f3))) (fun _ hk => hk.2) (.int .i64 ((rd_T52 l0_0 x9_3).f4))) (fun _ hk => hk.2) (.int .i64 ((rd_T52 l0_0 x9_3).f5))) (fun _ hk => ⟨hk.1.1.1, ⟨hk.1.1.2.1, ⟨hk.1.1.2.2.1, ⟨hk.1.1.2.2.2, hk.1.2⟩⟩⟩⟩)⟩, ⟨by (with_reducible repeat (first | refine blk_drewN ?_ _ | refine blk_drew ?_ | refine blk_alloc ?_ _)); refine blk_far ?_ NB219_231.out _; (with_reducible repeat (first | refine blk_drewN ?_ _ | refine blk_drew ?_ | refine blk_alloc ?_ _)); refine blk_far ?_ NB219_231.out _; (with_reducible repeat (first | refine blk_drewN ?_ _ | refine blk_drew ?_ | refine blk_alloc ?_ _)); refine blk_far ?_ NB219_231.out _; (with_reducible repeat (first | refine blk_drewN ?_ _ | refine blk_drew ?_ | refine blk_alloc ?_ _)); refine blk_far ?_ NB219_231.out _; (with_reducible repeat (first | refine blk_drewN ?_ _ | refine blk_drew ?_ | refine blk_alloc ?_ _)); refine blk_far ?_ NB219_231.out _; (with_reducible repeat (first | refine blk_drewN ?_ _ | refine blk_drew ?_ | refine blk_alloc ?_ _)); refine blk_far ?_ NB219_231.out _; (with_reducible repeat (first | refine blk_drewN ?_ _ | refine blk_drew ?_ | refine blk_alloc ?_ _)); exact BK219.out⟩, ⟨by (with_reducible repeat (first | refine blk_drewN ?_ _ | refine blk_drew ?_ | refine blk_alloc ?_ _)); refine blk_far ?_ NB220_231.out _; (with_reducible repeat (first | refine blk_drewN ?_ _ | refine blk_drew ?_ | refine blk_alloc ?_ _)); refine blk_far ?_ NB220_231.out _; (with_reducible repeat (first | refine blk_drewN ?_ _ | refine blk_drew ?_ | refine blk_alloc ?_ _)); refine blk_far ?_ NB220_231.out _; (with_reducible repeat (first | refine blk_drewN ?_ _ | refine blk_drew ?_ | refine blk_alloc ?_ _)); refine blk_far ?_ NB220_231.out _; (with_reducible repeat (first | refine blk_drewN ?_ _ | refine blk_drew ?_ | refine blk_alloc ?_ _)); refine blk_far ?_ NB220_231.out _; (with_reducible repeat (first | refine blk_drewN ?_ _ | refine blk_drew ?_ | refine blk_alloc ?_ _)); refine blk_far ?_ NB220_231.out _; (with_reducible repeat (first | refine blk_drewN ?_ _ | refine blk_drew ?_ | refine blk_alloc ?_ _)); exact BK220.out⟩, ⟨by (with_reducible repeat (first | refine blk_drewN ?_ _ | refine blk_drew ?_ | refine blk_alloc ?_ _)); refine blk_far ?_ NB223_231.out _; (with_reducible repeat (first | refine blk_drewN ?_ _ | refine blk_drew ?_ | refine blk_alloc ?_ _)); refine blk_far ?_ NB223_231.out _; (with_reducible repeat (first | refine blk_drewN ?_ _ | refine blk_drew ?_ | refine blk_alloc ?_ _)); refine blk_far ?_ NB223_231.out _; (with_reducible repeat (first | refine blk_drewN ?_ _ | refine blk_drew ?_ | refine blk_alloc ?_ _)); refine blk_far ?_ NB223_231.out _; (with_reducible repeat (first | refine blk_drewN ?_ _ | refine blk_drew ?_ | refine blk_alloc ?_ _)); refine blk_far ?_ NB223_231.out _; (with_reducible repeat (first | refine blk_drewN ?_ _ | refine blk_drew ?_ | refine blk_alloc ?_ _)); refine blk_far ?_ NB223_231.out _; (with_reducible repeat (first | refine blk_drewN ?_ _ | refine blk_drew ?_ | refine blk_alloc ?_ _)); exact BK223.out⟩, ⟨by (with_reducible repeat (first | refine blk_drewN ?_ _ | refine blk_drew ?_ | refine blk_alloc ?_ _)); refine blk_put (cs := #[.int .i64 ((rd_T52 l0_0 x9_3).f0), .int .i64 ((rd_T52 l0_0 x9_3).f1), .bool ((rd_T52 l0_0 x9_3).f2), .bool ((rd_T52 l0_0 x9_3).f3), .int .i64 ((rd_T52 l0_0 x9_3).f4), .int .i64 0]) ?_ 5 _ rfl; (with_reducible repeat (first | refine blk_drewN ?_ _ | refine blk_drew ?_ | refine blk_alloc ?_ _)); refine blk_put (cs := #[.int .i64 ((rd_T52 l0_0 x9_3).f0), .int .i64 ((rd_T52 l0_0 x9_3).f1), .bool ((rd_T52 l0_0 x9_3).f2), .bool ((rd_T52 l0_0 x9_3).f3), .int .i64 0, .int .i64 0]) ?_ 4 _ rfl; (with_reducible repeat (first | refine blk_drewN ?_ _ | refine blk_drew ?_ | refine blk_alloc ?_ _)); refine blk_put (cs := #[.int .i64 ((rd_T52 l0_0 x9_3).f0), .int .i64 ((rd_T52 l0_0 x9_3).f1), .bool ((rd_T52 l0_0 x9_3).f2), .bool false, .int .i64 0, .int .i64 0]) ?_ 3 _ rfl; (with_reducible repeat (first | refine blk_drewN ?_ _ | refine blk_drew ?_ | refine blk_alloc ?_ _)); refine blk_put (cs := #[.int .i64 ((rd_T52 l0_0 x9_3).f0), .int .i64 ((rd_T52 l0_0 x9_3).f1), .bool false, .bool false, .int .i64 0, .int .i64 0]) ?_ 2 _ rfl; (with_reducible repeat (first | refine blk_drewN ?_ _ | refine blk_drew ?_ | refine blk_alloc ?_ _)); refine blk_put (cs := #[.int .i64 ((rd_T52 l0_0 x9_3).f0), .int .i64 0, .bool false, .bool false, .int .i64 0, .int .i64 0]) ?_ 1 _ rfl; (with_reducible repeat (first | refine blk_drewN ?_ _ | refine blk_drew ?_ | refine blk_alloc ?_ _)); refine blk_put (cs := #[.int .i64 0, .int .i64 0, .bool false, .bool false, .int .i64 0, .int .i64 0]) ?_ 0 _ rfl; (with_reducible repeat (first | refine blk_drewN ?_ _ | refine blk_drew ?_ | refine blk_alloc ?_ _)); exact BK231.out⟩, ⟨by repeat (first | (with_reducible first | exact HB.out | apply below_alloc | apply pw_below_drewN | apply below_drew1 | refine below_set ?_ GE219.out | refine below_set ?_ GE220.out | refine below_set ?_ GE223.out | refine below_set ?_ GE231.out) | exact HB.out)⟩⟩
                          case rest =>
                            clear HC35
                            try clear c1
                            try clear c2
                            try clear p2
                            try clear q2
                            try clear hx2
                            try clear c3
                            try clear c4
                            try clear c5
                            try clear c7
                            try clear c7b0
                            try clear c8
                            try clear c9
                            try clear c12
                            try clear c13
                            try clear c13b0
                            try clear c14
                            try clear c14b0
                            try clear c15
                            try clear c17
                            try clear c17b0
                            try clear c18
                            try clear c18b0
                            try clear c19
                            try clear c21
                            try clear c22
                            try clear p22
                            try clear q22
                            try clear hx22
                            try clear p23
                            try clear q23
                            try clear hx23
                            try clear c25
                            try clear c25b0
                            try clear c26
                            try clear c26b0
                            try clear c27
                            try clear c30
                            try clear c31
                            try clear c33
                            try clear c33b0
                            try clear c34
                            try clear c34b0
                            try clear c36
                            try clear c37
                            try clear c40
                            try clear c41
                            try clear c42
                            try clear c44
                            try clear c44b0
                            try clear c44b1
                            try clear c45
                            try clear c45b0
                            try clear c46
                            try clear c47
                            try clear c48
                            try clear c50
                            try clear c51
                            try clear c52
                            try clear c54
                            try clear c55
                            try clear hcz10_0
                            try clear hcz10_1
                            try clear hcz11_0
                            try clear hcz11_1
                            try clear hcz16_0
                            try clear hcz16_1
                            try clear hcz20_0
                            try clear hcz20_1
                            try clear hcz23_0
                            try clear hcz23_1
                            try clear hcz24_0
                            try clear hcz24_1
                            try clear hcz28_0
                            try clear hcz28_1
                            try clear hcz32_0
                            try clear hcz32_1
                            try clear hcz32_2
                            try clear hcz32_3
                            try clear hcz32_4
                            try clear hcz32_5
                            try clear hcz38_0
                            try clear hcz38_1
                            try clear hcz43_0
                            try clear hcz43_1
                            try clear hcz43_2
                            try clear hcz43_3
                            try clear hcz43_4
                            try clear hcz43_5
                            try clear hcz49_0
                            try clear hcz49_1
                            try clear hcz49_2
                            try clear hcz49_3
                            try clear hcz49_4
                            try clear hcz49_5
                            try clear hcz53_0
                            try clear hcz53_1
                            try clear hcz53_2
                            try clear hcz53_3
                            try clear hcz53_4
                            try clear hcz53_5
                            try clear hcz56_0
                            try clear hcz56_1
                            try clear hcz56_2
                            try clear hcz56_3
                            try clear hcz56_4
                            try clear hcz56_5
                            try clear hfz10_0
                            try clear hfz10_1
                            try clear hfz11_0
                            try clear hfz11_1
                            try clear hfz16_0
                            try clear hfz16_1
                            try clear hfz20_0
                            try clear hfz20_1
                            try clear hfz23_0
                            try clear hfz23_1
                            try clear hfz24_0
                            try clear hfz24_1
                            try clear hfz28_0
                            try clear hfz28_1
                            try clear hfz32_0
                            try clear hfz32_1
                            try clear hfz32_2
                            try clear hfz32_3
                            try clear hfz32_4
                            try clear hfz32_5
                            try clear hfz38_0
                            try clear hfz38_1
                            try clear hfz43_0
                            try clear hfz43_1
                            try clear hfz43_2
                            try clear hfz43_3
                            try clear hfz43_4
                            try clear hfz43_5
                            try clear hfz49_0
                            try clear hfz49_1
                            try clear hfz49_2
                            try clear hfz49_3
                            try clear hfz49_4
                            try clear hfz49_5
                            try clear hfz53_0
                            try clear hfz53_1
                            try clear hfz53_2
                            try clear hfz53_3
                            try clear hfz53_4
                            try clear hfz53_5
                            try clear hfz56_0
                            try clear hfz56_1
                            try clear hfz56_2
                            try clear hfz56_3
                            try clear hfz56_4
                            try clear hfz56_5
                            try clear hx221_0
                            try clear hx221_1
                            try clear hx221_2
                            try clear hx221_3
                            try clear hx221_4
                            try clear hx221_5
                            try clear hx222_0
                            try clear hx222_1
                            try clear hx222_2
                            try clear hx222_3
                            try clear hx222_4
                            try clear hx222_5
                            try clear hx230_0
                            try clear hx230_1
                            try clear hx230_2
                            try clear hx230_3
                            try clear hx230_4
                            try clear hx230_5
                            try clear p2
                            try clear p22
                            try clear p221
                            try clear p222
                            try clear p230
                            try clear q2
                            try clear q22
                            try clear q221
                            try clear q222
                            try clear q230
                            obtain ⟨kq, x68_34, rfl, HA, HJ34, HO_220000, HO_220001, BK219, BK220, BK223, BK231, HB⟩ := hcut
                            cases kq with
                            | zero => exact absurd HA.out (by simp [flagstoneref11_Lock.j3])
                            | succ kj34 =>
                              have H := HA.out
                              clear HA
                              simp only [flagstoneref11_Lock.j3] at H
                              by_cases c57 : x68_34 = true
                              · subst c57
                                have H1 : (flagstoneref11_Lock.l0 kj34 a1 a2 (wrap64 (x9_3 + 1)) l0_0 l0_1 ((rd_T52 l0_0 a1).f0) ((rd_T52 l0_0 a1).f1) ((rd_T52 l0_0 a1).f2) ((rd_T52 l0_0 a1).f3) ((rd_T52 l0_0 a1).f4) ((rd_T52 l0_0 a1).f5)) = some (r1, r2, r3) := by rw [if_pos rfl] at H; exact H
                                clear H
                                have H := H1
                                clear H1
                                have H' := Aside0.mk H
                                clear H
                                go_wp2
                                go_roundg kj34
                                case measure => have := HJ3.out; have := HJ11.out; have := HK3.out; have := HJ34.out; omega
                                case rel => exact ⟨(wrap64 (x9_3 + 1)), (by first | rfl | (simp; done) | (simp [*]; done)), H', ⟨by have := HJ3.out; have := HJ11.out; have := HK3.out; have := HJ34.out; omega⟩, ⟨by (with_reducible repeat (first | apply Kd.V_alloc | apply Kd.V_drewN | apply Kd.V_drew)); exact Kd.V_mono HO_220000.out (fun _ hk => ⟨hk.1, ⟨hk.2.1, ⟨hk.2.2.1, hk.2.2.2.1⟩⟩⟩)⟩, ⟨by (with_reducible repeat (first | apply Kd.V_alloc | apply Kd.V_drewN | apply Kd.V_drew)); exact Kd.V_mono HO_220001.out (fun _ hk => ⟨hk.1, ⟨hk.2.1, ⟨hk.2.2.1, hk.2.2.2.1⟩⟩⟩)⟩, ⟨by (with_reducible repeat (first | refine blk_drewN ?_ _ | refine blk_drew ?_ | refine blk_alloc ?_ _)); exact BK219.out⟩, ⟨by (with_reducible repeat (first | refine blk_drewN ?_ _ | refine blk_drew ?_ | refine blk_alloc ?_ _)); exact BK220.out⟩, ⟨by (with_reducible repeat (first | refine blk_drewN ?_ _ | refine blk_drew ?_ | refine blk_alloc ?_ _)); exact BK223.out⟩, ⟨by repeat (first | (with_reducible first | exact HB.out | apply below_alloc | apply pw_below_drewN | apply below_drew1 | refine below_set ?_ GE219.out | refine below_set ?_ GE220.out | refine below_set ?_ GE223.out | refine below_set ?_ GE231.out) | exact HB.out)⟩⟩
                              · replace c57 := Bool.eq_false_iff.mpr c57
                                subst c57
                                have H1 : (if a2 = 2 then (if ((rd_T52 l0_0 x9_3).f5) = 0 then (if a2 = 1 then (if ((rd_T52 l0_0 x9_3).f5) = 2 then (some (l0_0, l0_1, 14)) else (flagstoneref11_Lock.l0 kj34 a1 a2 (wrap64 (x9_3 + 1)) l0_0 l0_1 ((rd_T52 l0_0 a1).f0) ((rd_T52 l0_0 a1).f1) ((rd_T52 l0_0 a1).f2) ((rd_T52 l0_0 a1).f3) ((rd_T52 l0_0 a1).f4) ((rd_T52 l0_0 a1).f5))) else (flagstoneref11_Lock.l0 kj34 a1 a2 (wrap64 (x9_3 + 1)) l0_0 l0_1 ((rd_T52 l0_0 a1).f0) ((rd_T52 l0_0 a1).f1) ((rd_T52 l0_0 a1).f2) ((rd_T52 l0_0 a1).f3) ((rd_T52 l0_0 a1).f4) ((rd_T52 l0_0 a1).f5))) else (some (l0_0, l0_1, 14))) else (if a2 = 1 then (if ((rd_T52 l0_0 x9_3).f5) = 2 then (some (l0_0, l0_1, 14)) else (flagstoneref11_Lock.l0 kj34 a1 a2 (wrap64 (x9_3 + 1)) l0_0 l0_1 ((rd_T52 l0_0 a1).f0) ((rd_T52 l0_0 a1).f1) ((rd_T52 l0_0 a1).f2) ((rd_T52 l0_0 a1).f3) ((rd_T52 l0_0 a1).f4) ((rd_T52 l0_0 a1).f5))) else (flagstoneref11_Lock.l0 kj34 a1 a2 (wrap64 (x9_3 + 1)) l0_0 l0_1 ((rd_T52 l0_0 a1).f0) ((rd_T52 l0_0 a1).f1) ((rd_T52 l0_0 a1).f2) ((rd_T52 l0_0 a1).f3) ((rd_T52 l0_0 a1).f4) ((rd_T52 l0_0 a1).f5)))) = some (r1, r2, r3) := by rw [if_neg (show ¬ (false = true) by decide)] at H; exact H
                                clear H
                                have H := H1
                                clear H1
                                by_cases c58 : a2 = 2
                                · rw [if_pos c58] at H
                                  have c58b0 : (a2 == 2) = true := beq_iff_eq.mpr c58
                                  have c58b1 : (a2 != 2) = false := bne_eq_false_iff_eq.mpr c58
                                  clear c58
                                  by_cases c59 : ((rd_T52 l0_0 x9_3).f5) = 0
                                  · rw [if_pos c59] at H
                                    have c59b0 : (((rd_T52 l0_0 x9_3).f5) == 0) = true := beq_iff_eq.mpr c59
                                    have c59b1 : (((rd_T52 l0_0 x9_3).f5) != 0) = false := bne_eq_false_iff_eq.mpr c59
                                    clear c59
                                    by_cases c60 : a2 = 1
                                    · rw [if_pos c60] at H
                                      have c60b0 : (a2 == 1) = true := beq_iff_eq.mpr c60
                                      have c60b1 : (a2 != 1) = false := bne_eq_false_iff_eq.mpr c60
                                      clear c60
                                      by_cases c61 : ((rd_T52 l0_0 x9_3).f5) = 2
                                      · rw [if_pos c61] at H
                                        have c61b0 : (((rd_T52 l0_0 x9_3).f5) == 2) = true := beq_iff_eq.mpr c61
                                        have c61b1 : (((rd_T52 l0_0 x9_3).f5) != 2) = false := bne_eq_false_iff_eq.mpr c61
                                        clear c61
                                        simp only [Option.some.injEq, Prod.mk.injEq] at H
                                        obtain ⟨rfl, rfl, rfl⟩ := H
                                        have hnb62 := NB231_219.out
                                        have hnc62 := NB219_231.out
                                        have hnb63 := NB231_220.out
                                        have hnc63 := NB220_231.out
                                        have hnb64 := NB231_223.out
                                        have hnc64 := NB223_231.out
                                        have hcz65_0 : wc.cell? ⟨gb231, 0, none⟩ = some (.int .i64 ((rd_T52 l0_0 x9_3).f0)) := (blk_cell BK231.out 0).trans rfl
                                        have hcz65_1 : wc.cell? ⟨gb231, 1, none⟩ = some (.int .i64 ((rd_T52 l0_0 x9_3).f1)) := (blk_cell BK231.out 1).trans rfl
                                        have hcz65_2 : wc.cell? ⟨gb231, 2, none⟩ = some (.bool ((rd_T52 l0_0 x9_3).f2)) := (blk_cell BK231.out 2).trans rfl
                                        have hcz65_3 : wc.cell? ⟨gb231, 3, none⟩ = some (.bool ((rd_T52 l0_0 x9_3).f3)) := (blk_cell BK231.out 3).trans rfl
                                        have hcz65_4 : wc.cell? ⟨gb231, 4, none⟩ = some (.int .i64 ((rd_T52 l0_0 x9_3).f4)) := (blk_cell BK231.out 4).trans rfl
                                        have hcz65_5 : wc.cell? ⟨gb231, 5, none⟩ = some (.int .i64 ((rd_T52 l0_0 x9_3).f5)) := (blk_cell BK231.out 5).trans rfl
                                        have hfz65_0 := blk_frozen BK231.out 0
                                        have hfz65_1 := blk_frozen BK231.out 1
                                        have hfz65_2 := blk_frozen BK231.out 2
                                        have hfz65_3 := blk_frozen BK231.out 3
                                        have hfz65_4 := blk_frozen BK231.out 4
                                        have hfz65_5 := blk_frozen BK231.out 5
                                        have hnb66 := NB219_220.out
                                        have hnc66 := NB220_219.out
                                        have hnb67 := NB219_223.out
                                        have hnc67 := NB223_219.out
                                        have hcz68_0 : wc.cell? ⟨gb219, 0, none⟩ = some (.slice (some ad222) l0_0.length c0_0) := (blk_cell BK219.out 0).trans rfl
                                        have hcz68_1 : wc.cell? ⟨gb219, 1, none⟩ = some (.slice A0_1 l0_1.length c0_1) := (blk_cell BK219.out 1).trans rfl
                                        have hfz68_0 := blk_frozen BK219.out 0
                                        have hfz68_1 := blk_frozen BK219.out 1
                                        have hnb69 := NB220_223.out
                                        have hnc69 := NB223_220.out
                                        have hcz70_0 : wc.cell? ⟨gb220, 0, none⟩ = some (.slice none 0 0) := (blk_cell BK220.out 0).trans rfl
                                        have hcz70_1 : wc.cell? ⟨gb220, 1, none⟩ = some (.slice none 0 0) := (blk_cell BK220.out 1).trans rfl
                                        have hfz70_0 := blk_frozen BK220.out 0
                                        have hfz70_1 := blk_frozen BK220.out 1
                                        go_wp2
                                        refine bodyPost_ret (results_ct rfl _ _ gb220 33 #[.slice (some ad222) l0_0.length c0_0, .slice A0_1 l0_1.length c0_1] (0, 0) _ rfl (by (with_reducible repeat (first | refine blk_drewN ?_ _ | refine blk_drew ?_ | refine blk_alloc ?_ _)); refine blk_put (cs := #[.slice (some ad222) l0_0.length c0_0, .slice none 0 0]) ?_ 1 _ rfl; (with_reducible repeat (first | refine blk_drewN ?_ _ | refine blk_drew ?_ | refine blk_alloc ?_ _)); refine blk_put (cs := #[.slice none 0 0, .slice none 0 0]) ?_ 0 _ rfl; (with_reducible repeat (first | refine blk_drewN ?_ _ | refine blk_drew ?_ | refine blk_alloc ?_ _)); exact BK220.out) Try.underlying33 rfl (by kernel_rfl)) rfl ?_
                                        exact ⟨_, _, by first | rfl | (simp [errW_none, errW_some] <;> rfl) | (simp [*, errW_none, errW_some] <;> rfl), by (with_reducible repeat (first | apply Kd.V_alloc | apply Kd.V_drewN | apply Kd.V_drew)); exact Kd.V_mono (Kd.V_far (p := ⟨gb220, 1, none⟩) (Kd.V_far (p := ⟨gb220, 0, none⟩) (Kd.V_mono HO_220000.out (fun k_ hk => (⟨hk, hk.2.2.1⟩ : _ ∧ k_ ≠ gb220))) (fun _ hk => hk.2) (.slice (some ad222) l0_0.length c0_0)) (fun _ hk => hk.2) (.slice A0_1 l0_1.length c0_1)) (fun _ hk => hk.1.1), by (with_reducible repeat (first | apply Kd.V_alloc | apply Kd.V_drewN | apply Kd.V_drew)); exact Kd.V_mono (Kd.V_far (p := ⟨gb220, 1, none⟩) (Kd.V_far (p := ⟨gb220, 0, none⟩) (Kd.V_mono HO_220001.out (fun k_ hk => (⟨hk, hk.2.2.1⟩ : _ ∧ k_ ≠ gb220))) (fun _ hk => hk.2) (.slice (some ad222) l0_0.length c0_0)) (fun _ hk => hk.2) (.slice A0_1 l0_1.length c0_1)) (fun _ hk => hk.1.1), by repeat (first | (with_reducible first | exact HB.out | apply below_alloc | apply pw_below_drewN | apply below_drew1 | refine below_set ?_ GE219.out | refine below_set ?_ GE220.out | refine below_set ?_ GE223.out | refine below_set ?_ GE231.out) | exact HB.out)⟩
                                      · rw [if_neg c61] at H
                                        have c61b0 : (((rd_T52 l0_0 x9_3).f5) == 2) = false := beq_eq_false_iff_ne.mpr c61
                                        have c61b1 : (((rd_T52 l0_0 x9_3).f5) != 2) = true := bne_iff_ne.mpr c61
                                        have H' := Aside0.mk H
                                        clear H
                                        have hnb71 := NB231_219.out
                                        have hnc71 := NB219_231.out
                                        have hnb72 := NB231_220.out
                                        have hnc72 := NB220_231.out
                                        have hnb73 := NB231_223.out
                                        have hnc73 := NB223_231.out
                                        have hcz74_0 : wc.cell? ⟨gb231, 0, none⟩ = some (.int .i64 ((rd_T52 l0_0 x9_3).f0)) := (blk_cell BK231.out 0).trans rfl
                                        have hcz74_1 : wc.cell? ⟨gb231, 1, none⟩ = some (.int .i64 ((rd_T52 l0_0 x9_3).f1)) := (blk_cell BK231.out 1).trans rfl
                                        have hcz74_2 : wc.cell? ⟨gb231, 2, none⟩ = some (.bool ((rd_T52 l0_0 x9_3).f2)) := (blk_cell BK231.out 2).trans rfl
                                        have hcz74_3 : wc.cell? ⟨gb231, 3, none⟩ = some (.bool ((rd_T52 l0_0 x9_3).f3)) := (blk_cell BK231.out 3).trans rfl
                                        have hcz74_4 : wc.cell? ⟨gb231, 4, none⟩ = some (.int .i64 ((rd_T52 l0_0 x9_3).f4)) := (blk_cell BK231.out 4).trans rfl
                                        have hcz74_5 : wc.cell? ⟨gb231, 5, none⟩ = some (.int .i64 ((rd_T52 l0_0 x9_3).f5)) := (blk_cell BK231.out 5).trans rfl
                                        have hfz74_0 := blk_frozen BK231.out 0
                                        have hfz74_1 := blk_frozen BK231.out 1
                                        have hfz74_2 := blk_frozen BK231.out 2
                                        have hfz74_3 := blk_frozen BK231.out 3
                                        have hfz74_4 := blk_frozen BK231.out 4
                                        have hfz74_5 := blk_frozen BK231.out 5
                                        go_wp2
                                        go_roundg kj34
                                        case measure => have := HJ3.out; have := HJ11.out; have := HK3.out; have := HJ34.out; omega
                                        case rel => exact ⟨(wrap64 (x9_3 + 1)), (by first | rfl | (simp; done) | (simp [*]; done)), H', ⟨by have := HJ3.out; have := HJ11.out; have := HK3.out; have := HJ34.out; omega⟩, ⟨by (with_reducible repeat (first | apply Kd.V_alloc | apply Kd.V_drewN | apply Kd.V_drew)); exact Kd.V_mono HO_220000.out (fun _ hk => ⟨hk.1, ⟨hk.2.1, ⟨hk.2.2.1, hk.2.2.2.1⟩⟩⟩)⟩, ⟨by (with_reducible repeat (first | apply Kd.V_alloc | apply Kd.V_drewN | apply Kd.V_drew)); exact Kd.V_mono HO_220001.out (fun _ hk => ⟨hk.1, ⟨hk.2.1, ⟨hk.2.2.1, hk.2.2.2.1⟩⟩⟩)⟩, ⟨by (with_reducible repeat (first | refine blk_drewN ?_ _ | refine blk_drew ?_ | refine blk_alloc ?_ _)); exact BK219.out⟩, ⟨by (with_reducible repeat (first | refine blk_drewN ?_ _ | refine blk_drew ?_ | refine blk_alloc ?_ _)); exact BK220.out⟩, ⟨by (with_reducible repeat (first | refine blk_drewN ?_ _ | refine blk_drew ?_ | refine blk_alloc ?_ _)); exact BK223.out⟩, ⟨by repeat (first | (with_reducible first | exact HB.out | apply below_alloc | apply pw_below_drewN | apply below_drew1 | refine below_set ?_ GE219.out | refine below_set ?_ GE220.out | refine below_set ?_ GE223.out | refine below_set ?_ GE231.out) | exact HB.out)⟩⟩
                                    · rw [if_neg c60] at H
                                      have c60b0 : (a2 == 1) = false := beq_eq_false_iff_ne.mpr c60
                                      have c60b1 : (a2 != 1) = true := bne_iff_ne.mpr c60
                                      have H' := Aside0.mk H
                                      clear H
                                      have hnb75 := NB231_219.out
                                      have hnc75 := NB219_231.out
                                      have hnb76 := NB231_220.out
                                      have hnc76 := NB220_231.out
                                      have hnb77 := NB231_223.out
                                      have hnc77 := NB223_231.out
                                      have hcz78_0 : wc.cell? ⟨gb231, 0, none⟩ = some (.int .i64 ((rd_T52 l0_0 x9_3).f0)) := (blk_cell BK231.out 0).trans rfl
                                      have hcz78_1 : wc.cell? ⟨gb231, 1, none⟩ = some (.int .i64 ((rd_T52 l0_0 x9_3).f1)) := (blk_cell BK231.out 1).trans rfl
                                      have hcz78_2 : wc.cell? ⟨gb231, 2, none⟩ = some (.bool ((rd_T52 l0_0 x9_3).f2)) := (blk_cell BK231.out 2).trans rfl
                                      have hcz78_3 : wc.cell? ⟨gb231, 3, none⟩ = some (.bool ((rd_T52 l0_0 x9_3).f3)) := (blk_cell BK231.out 3).trans rfl
                                      have hcz78_4 : wc.cell? ⟨gb231, 4, none⟩ = some (.int .i64 ((rd_T52 l0_0 x9_3).f4)) := (blk_cell BK231.out 4).trans rfl
                                      have hcz78_5 : wc.cell? ⟨gb231, 5, none⟩ = some (.int .i64 ((rd_T52 l0_0 x9_3).f5)) := (blk_cell BK231.out 5).trans rfl
                                      have hfz78_0 := blk_frozen BK231.out 0
                                      have hfz78_1 := blk_frozen BK231.out 1
                                      have hfz78_2 := blk_frozen BK231.out 2
                                      have hfz78_3 := blk_frozen BK231.out 3
                                      have hfz78_4 := blk_frozen BK231.out 4
                                      have hfz78_5 := blk_frozen BK231.out 5
                                      go_wp2
                                      go_roundg kj34
                                      case measure => have := HJ3.out; have := HJ11.out; have := HK3.out; have := HJ34.out; omega
                                      case rel => exact ⟨(wrap64 (x9_3 + 1)), (by first | rfl | (simp; done) | (simp [*]; done)), H', ⟨by have := HJ3.out; have := HJ11.out; have := HK3.out; have := HJ34.out; omega⟩, ⟨by (with_reducible repeat (first | apply Kd.V_alloc | apply Kd.V_drewN | apply Kd.V_drew)); exact Kd.V_mono HO_220000.out (fun _ hk => ⟨hk.1, ⟨hk.2.1, ⟨hk.2.2.1, hk.2.2.2.1⟩⟩⟩)⟩, ⟨by (with_reducible repeat (first | apply Kd.V_alloc | apply Kd.V_drewN | apply Kd.V_drew)); exact Kd.V_mono HO_220001.out (fun _ hk => ⟨hk.1, ⟨hk.2.1, ⟨hk.2.2.1, hk.2.2.2.1⟩⟩⟩)⟩, ⟨by (with_reducible repeat (first | refine blk_drewN ?_ _ | refine blk_drew ?_ | refine blk_alloc ?_ _)); exact BK219.out⟩, ⟨by (with_reducible repeat (first | refine blk_drewN ?_ _ | refine blk_drew ?_ | refine blk_alloc ?_ _)); exact BK220.out⟩, ⟨by (with_reducible repeat (first | refine blk_drewN ?_ _ | refine blk_drew ?_ | refine blk_alloc ?_ _)); exact BK223.out⟩, ⟨by repeat (first | (with_reducible first | exact HB.out | apply below_alloc | apply pw_below_drewN | apply below_drew1 | refine below_set ?_ GE219.out | refine below_set ?_ GE220.out | refine below_set ?_ GE223.out | refine below_set ?_ GE231.out) | exact HB.out)⟩⟩
                                  · rw [if_neg c59] at H
                                    have c59b0 : (((rd_T52 l0_0 x9_3).f5) == 0) = false := beq_eq_false_iff_ne.mpr c59
                                    have c59b1 : (((rd_T52 l0_0 x9_3).f5) != 0) = true := bne_iff_ne.mpr c59
                                    simp only [Option.some.injEq, Prod.mk.injEq] at H
                                    obtain ⟨rfl, rfl, rfl⟩ := H
                                    have hnb79 := NB231_219.out
                                    have hnc79 := NB219_231.out
                                    have hnb80 := NB231_220.out
                                    have hnc80 := NB220_231.out
                                    have hnb81 := NB231_223.out
                                    have hnc81 := NB223_231.out
                                    have hcz82_0 : wc.cell? ⟨gb231, 0, none⟩ = some (.int .i64 ((rd_T52 l0_0 x9_3).f0)) := (blk_cell BK231.out 0).trans rfl
                                    have hcz82_1 : wc.cell? ⟨gb231, 1, none⟩ = some (.int .i64 ((rd_T52 l0_0 x9_3).f1)) := (blk_cell BK231.out 1).trans rfl
                                    have hcz82_2 : wc.cell? ⟨gb231, 2, none⟩ = some (.bool ((rd_T52 l0_0 x9_3).f2)) := (blk_cell BK231.out 2).trans rfl
                                    have hcz82_3 : wc.cell? ⟨gb231, 3, none⟩ = some (.bool ((rd_T52 l0_0 x9_3).f3)) := (blk_cell BK231.out 3).trans rfl
                                    have hcz82_4 : wc.cell? ⟨gb231, 4, none⟩ = some (.int .i64 ((rd_T52 l0_0 x9_3).f4)) := (blk_cell BK231.out 4).trans rfl
                                    have hcz82_5 : wc.cell? ⟨gb231, 5, none⟩ = some (.int .i64 ((rd_T52 l0_0 x9_3).f5)) := (blk_cell BK231.out 5).trans rfl
                                    have hfz82_0 := blk_frozen BK231.out 0
                                    have hfz82_1 := blk_frozen BK231.out 1
                                    have hfz82_2 := blk_frozen BK231.out 2
                                    have hfz82_3 := blk_frozen BK231.out 3
                                    have hfz82_4 := blk_frozen BK231.out 4
                                    have hfz82_5 := blk_frozen BK231.out 5
                                    have hnb83 := NB219_220.out
                                    have hnc83 := NB220_219.out
                                    have hnb84 := NB219_223.out
                                    have hnc84 := NB223_219.out
                                    have hcz85_0 : wc.cell? ⟨gb219, 0, none⟩ = some (.slice (some ad222) l0_0.length c0_0) := (blk_cell BK219.out 0).trans rfl
                                    have hcz85_1 : wc.cell? ⟨gb219, 1, none⟩ = some (.slice A0_1 l0_1.length c0_1) := (blk_cell BK219.out 1).trans rfl
                                    have hfz85_0 := blk_frozen BK219.out 0
                                    have hfz85_1 := blk_frozen BK219.out 1
                                    have hnb86 := NB220_223.out
                                    have hnc86 := NB223_220.out
                                    have hcz87_0 : wc.cell? ⟨gb220, 0, none⟩ = some (.slice none 0 0) := (blk_cell BK220.out 0).trans rfl
                                    have hcz87_1 : wc.cell? ⟨gb220, 1, none⟩ = some (.slice none 0 0) := (blk_cell BK220.out 1).trans rfl
                                    have hfz87_0 := blk_frozen BK220.out 0
                                    have hfz87_1 := blk_frozen BK220.out 1
                                    go_wp2
                                    refine bodyPost_ret (results_ct rfl _ _ gb220 33 #[.slice (some ad222) l0_0.length c0_0, .slice A0_1 l0_1.length c0_1] (0, 0) _ rfl (by (with_reducible repeat (first | refine blk_drewN ?_ _ | refine blk_drew ?_ | refine blk_alloc ?_ _)); refine blk_put (cs := #[.slice (some ad222) l0_0.length c0_0, .slice none 0 0]) ?_ 1 _ rfl; (with_reducible repeat (first | refine blk_drewN ?_ _ | refine blk_drew ?_ | refine blk_alloc ?_ _)); refine blk_put (cs := #[.slice none 0 0, .slice none 0 0]) ?_ 0 _ rfl; (with_reducible repeat (first | refine blk_drewN ?_ _ | refine blk_drew ?_ | refine blk_alloc ?_ _)); exact BK220.out) Try.underlying33 rfl (by kernel_rfl)) rfl ?_
                                    exact ⟨_, _, by first | rfl | (simp [errW_none, errW_some] <;> rfl) | (simp [*, errW_none, errW_some] <;> rfl), by (with_reducible repeat (first | apply Kd.V_alloc | apply Kd.V_drewN | apply Kd.V_drew)); exact Kd.V_mono (Kd.V_far (p := ⟨gb220, 1, none⟩) (Kd.V_far (p := ⟨gb220, 0, none⟩) (Kd.V_mono HO_220000.out (fun k_ hk => (⟨hk, hk.2.2.1⟩ : _ ∧ k_ ≠ gb220))) (fun _ hk => hk.2) (.slice (some ad222) l0_0.length c0_0)) (fun _ hk => hk.2) (.slice A0_1 l0_1.length c0_1)) (fun _ hk => hk.1.1), by (with_reducible repeat (first | apply Kd.V_alloc | apply Kd.V_drewN | apply Kd.V_drew)); exact Kd.V_mono (Kd.V_far (p := ⟨gb220, 1, none⟩) (Kd.V_far (p := ⟨gb220, 0, none⟩) (Kd.V_mono HO_220001.out (fun k_ hk => (⟨hk, hk.2.2.1⟩ : _ ∧ k_ ≠ gb220))) (fun _ hk => hk.2) (.slice (some ad222) l0_0.length c0_0)) (fun _ hk => hk.2) (.slice A0_1 l0_1.length c0_1)) (fun _ hk => hk.1.1), by repeat (first | (with_reducible first | exact HB.out | apply below_alloc | apply pw_below_drewN | apply below_drew1 | refine below_set ?_ GE219.out | refine below_set ?_ GE220.out | refine below_set ?_ GE223.out | refine below_set ?_ GE231.out) | exact HB.out)⟩
                                · rw [if_neg c58] at H
                                  have c58b0 : (a2 == 2) = false := beq_eq_false_iff_ne.mpr c58
                                  have c58b1 : (a2 != 2) = true := bne_iff_ne.mpr c58
                                  by_cases c88 : a2 = 1
                                  · rw [if_pos c88] at H
                                    have c88b0 : (a2 == 1) = true := beq_iff_eq.mpr c88
                                    have c88b1 : (a2 != 1) = false := bne_eq_false_iff_eq.mpr c88
                                    clear c88
                                    by_cases c89 : ((rd_T52 l0_0 x9_3).f5) = 2
                                    · rw [if_pos c89] at H
                                      have c89b0 : (((rd_T52 l0_0 x9_3).f5) == 2) = true := beq_iff_eq.mpr c89
                                      have c89b1 : (((rd_T52 l0_0 x9_3).f5) != 2) = false := bne_eq_false_iff_eq.mpr c89
                                      clear c89
                                      simp only [Option.some.injEq, Prod.mk.injEq] at H
                                      obtain ⟨rfl, rfl, rfl⟩ := H
                                      have hnb90 := NB231_219.out
                                      have hnc90 := NB219_231.out
                                      have hnb91 := NB231_220.out
                                      have hnc91 := NB220_231.out
                                      have hnb92 := NB231_223.out
                                      have hnc92 := NB223_231.out
                                      have hcz93_0 : wc.cell? ⟨gb231, 0, none⟩ = some (.int .i64 ((rd_T52 l0_0 x9_3).f0)) := (blk_cell BK231.out 0).trans rfl
                                      have hcz93_1 : wc.cell? ⟨gb231, 1, none⟩ = some (.int .i64 ((rd_T52 l0_0 x9_3).f1)) := (blk_cell BK231.out 1).trans rfl
                                      have hcz93_2 : wc.cell? ⟨gb231, 2, none⟩ = some (.bool ((rd_T52 l0_0 x9_3).f2)) := (blk_cell BK231.out 2).trans rfl
                                      have hcz93_3 : wc.cell? ⟨gb231, 3, none⟩ = some (.bool ((rd_T52 l0_0 x9_3).f3)) := (blk_cell BK231.out 3).trans rfl
                                      have hcz93_4 : wc.cell? ⟨gb231, 4, none⟩ = some (.int .i64 ((rd_T52 l0_0 x9_3).f4)) := (blk_cell BK231.out 4).trans rfl
                                      have hcz93_5 : wc.cell? ⟨gb231, 5, none⟩ = some (.int .i64 ((rd_T52 l0_0 x9_3).f5)) := (blk_cell BK231.out 5).trans rfl
                                      have hfz93_0 := blk_frozen BK231.out 0
                                      have hfz93_1 := blk_frozen BK231.out 1
                                      have hfz93_2 := blk_frozen BK231.out 2
                                      have hfz93_3 := blk_frozen BK231.out 3
                                      have hfz93_4 := blk_frozen BK231.out 4
                                      have hfz93_5 := blk_frozen BK231.out 5
                                      have hnb94 := NB219_220.out
                                      have hnc94 := NB220_219.out
                                      have hnb95 := NB219_223.out
                                      have hnc95 := NB223_219.out
                                      have hcz96_0 : wc.cell? ⟨gb219, 0, none⟩ = some (.slice (some ad222) l0_0.length c0_0) := (blk_cell BK219.out 0).trans rfl
                                      have hcz96_1 : wc.cell? ⟨gb219, 1, none⟩ = some (.slice A0_1 l0_1.length c0_1) := (blk_cell BK219.out 1).trans rfl
                                      have hfz96_0 := blk_frozen BK219.out 0
                                      have hfz96_1 := blk_frozen BK219.out 1
                                      have hnb97 := NB220_223.out
                                      have hnc97 := NB223_220.out
                                      have hcz98_0 : wc.cell? ⟨gb220, 0, none⟩ = some (.slice none 0 0) := (blk_cell BK220.out 0).trans rfl
                                      have hcz98_1 : wc.cell? ⟨gb220, 1, none⟩ = some (.slice none 0 0) := (blk_cell BK220.out 1).trans rfl
                                      have hfz98_0 := blk_frozen BK220.out 0
                                      have hfz98_1 := blk_frozen BK220.out 1
                                      go_wp2
                                      refine bodyPost_ret (results_ct rfl _ _ gb220 33 #[.slice (some ad222) l0_0.length c0_0, .slice A0_1 l0_1.length c0_1] (0, 0) _ rfl (by (with_reducible repeat (first | refine blk_drewN ?_ _ | refine blk_drew ?_ | refine blk_alloc ?_ _)); refine blk_put (cs := #[.slice (some ad222) l0_0.length c0_0, .slice none 0 0]) ?_ 1 _ rfl; (with_reducible repeat (first | refine blk_drewN ?_ _ | refine blk_drew ?_ | refine blk_alloc ?_ _)); refine blk_put (cs := #[.slice none 0 0, .slice none 0 0]) ?_ 0 _ rfl; (with_reducible repeat (first | refine blk_drewN ?_ _ | refine blk_drew ?_ | refine blk_alloc ?_ _)); exact BK220.out) Try.underlying33 rfl (by kernel_rfl)) rfl ?_
                                      exact ⟨_, _, by first | rfl | (simp [errW_none, errW_some] <;> rfl) | (simp [*, errW_none, errW_some] <;> rfl), by (with_reducible repeat (first | apply Kd.V_alloc | apply Kd.V_drewN | apply Kd.V_drew)); exact Kd.V_mono (Kd.V_far (p := ⟨gb220, 1, none⟩) (Kd.V_far (p := ⟨gb220, 0, none⟩) (Kd.V_mono HO_220000.out (fun k_ hk => (⟨hk, hk.2.2.1⟩ : _ ∧ k_ ≠ gb220))) (fun _ hk => hk.2) (.slice (some ad222) l0_0.length c0_0)) (fun _ hk => hk.2) (.slice A0_1 l0_1.length c0_1)) (fun _ hk => hk.1.1), by (with_reducible repeat (first | apply Kd.V_alloc | apply Kd.V_drewN | apply Kd.V_drew)); exact Kd.V_mono (Kd.V_far (p := ⟨gb220, 1, none⟩) (Kd.V_far (p := ⟨gb220, 0, none⟩) (Kd.V_mono HO_220001.out (fun k_ hk => (⟨hk, hk.2.2.1⟩ : _ ∧ k_ ≠ gb220))) (fun _ hk => hk.2) (.slice (some ad222) l0_0.length c0_0)) (fun _ hk => hk.2) (.slice A0_1 l0_1.length c0_1)) (fun _ hk => hk.1.1), by repeat (first | (with_reducible first | exact HB.out | apply below_alloc | apply pw_below_drewN | apply below_drew1 | refine below_set ?_ GE219.out | refine below_set ?_ GE220.out | refine below_set ?_ GE223.out | refine below_set ?_ GE231.out) | exact HB.out)⟩
                                    · rw [if_neg c89] at H
                                      have c89b0 : (((rd_T52 l0_0 x9_3).f5) == 2) = false := beq_eq_false_iff_ne.mpr c89
                                      have c89b1 : (((rd_T52 l0_0 x9_3).f5) != 2) = true := bne_iff_ne.mpr c89
                                      have H' := Aside0.mk H
                                      clear H
                                      have hnb99 := NB231_219.out
                                      have hnc99 := NB219_231.out
                                      have hnb100 := NB231_220.out
                                      have hnc100 := NB220_231.out
                                      have hnb101 := NB231_223.out
                                      have hnc101 := NB223_231.out
                                      have hcz102_0 : wc.cell? ⟨gb231, 0, none⟩ = some (.int .i64 ((rd_T52 l0_0 x9_3).f0)) := (blk_cell BK231.out 0).trans rfl
                                      have hcz102_1 : wc.cell? ⟨gb231, 1, none⟩ = some (.int .i64 ((rd_T52 l0_0 x9_3).f1)) := (blk_cell BK231.out 1).trans rfl
                                      have hcz102_2 : wc.cell? ⟨gb231, 2, none⟩ = some (.bool ((rd_T52 l0_0 x9_3).f2)) := (blk_cell BK231.out 2).trans rfl
                                      have hcz102_3 : wc.cell? ⟨gb231, 3, none⟩ = some (.bool ((rd_T52 l0_0 x9_3).f3)) := (blk_cell BK231.out 3).trans rfl
                                      have hcz102_4 : wc.cell? ⟨gb231, 4, none⟩ = some (.int .i64 ((rd_T52 l0_0 x9_3).f4)) := (blk_cell BK231.out 4).trans rfl
                                      have hcz102_5 : wc.cell? ⟨gb231, 5, none⟩ = some (.int .i64 ((rd_T52 l0_0 x9_3).f5)) := (blk_cell BK231.out 5).trans rfl
                                      have hfz102_0 := blk_frozen BK231.out 0
                                      have hfz102_1 := blk_frozen BK231.out 1
                                      have hfz102_2 := blk_frozen BK231.out 2
                                      have hfz102_3 := blk_frozen BK231.out 3
                                      have hfz102_4 := blk_frozen BK231.out 4
                                      have hfz102_5 := blk_frozen BK231.out 5
                                      go_wp2
                                      go_roundg kj34
                                      case measure => have := HJ3.out; have := HJ11.out; have := HK3.out; have := HJ34.out; omega
                                      case rel => exact ⟨(wrap64 (x9_3 + 1)), (by first | rfl | (simp; done) | (simp [*]; done)), H', ⟨by have := HJ3.out; have := HJ11.out; have := HK3.out; have := HJ34.out; omega⟩, ⟨by (with_reducible repeat (first | apply Kd.V_alloc | apply Kd.V_drewN | apply Kd.V_drew)); exact Kd.V_mono HO_220000.out (fun _ hk => ⟨hk.1, ⟨hk.2.1, ⟨hk.2.2.1, hk.2.2.2.1⟩⟩⟩)⟩, ⟨by (with_reducible repeat (first | apply Kd.V_alloc | apply Kd.V_drewN | apply Kd.V_drew)); exact Kd.V_mono HO_220001.out (fun _ hk => ⟨hk.1, ⟨hk.2.1, ⟨hk.2.2.1, hk.2.2.2.1⟩⟩⟩)⟩, ⟨by (with_reducible repeat (first | refine blk_drewN ?_ _ | refine blk_drew ?_ | refine blk_alloc ?_ _)); exact BK219.out⟩, ⟨by (with_reducible repeat (first | refine blk_drewN ?_ _ | refine blk_drew ?_ | refine blk_alloc ?_ _)); exact BK220.out⟩, ⟨by (with_reducible repeat (first | refine blk_drewN ?_ _ | refine blk_drew ?_ | refine blk_alloc ?_ _)); exact BK223.out⟩, ⟨by repeat (first | (with_reducible first | exact HB.out | apply below_alloc | apply pw_below_drewN | apply below_drew1 | refine below_set ?_ GE219.out | refine below_set ?_ GE220.out | refine below_set ?_ GE223.out | refine below_set ?_ GE231.out) | exact HB.out)⟩⟩
                                  · rw [if_neg c88] at H
                                    have c88b0 : (a2 == 1) = false := beq_eq_false_iff_ne.mpr c88
                                    have c88b1 : (a2 != 1) = true := bne_iff_ne.mpr c88
                                    have H' := Aside0.mk H
                                    clear H
                                    go_wp2
                                    go_roundg kj34
                                    case measure => have := HJ3.out; have := HJ11.out; have := HK3.out; have := HJ34.out; omega
                                    case rel => exact ⟨(wrap64 (x9_3 + 1)), (by first | rfl | (simp; done) | (simp [*]; done)), H', ⟨by have := HJ3.out; have := HJ11.out; have := HK3.out; have := HJ34.out; omega⟩, ⟨by (with_reducible repeat (first | apply Kd.V_alloc | apply Kd.V_drewN | apply Kd.V_drew)); exact Kd.V_mono HO_220000.out (fun _ hk => ⟨hk.1, ⟨hk.2.1, ⟨hk.2.2.1, hk.2.2.2.1⟩⟩⟩)⟩, ⟨by (with_reducible repeat (first | apply Kd.V_alloc | apply Kd.V_drewN | apply Kd.V_drew)); exact Kd.V_mono HO_220001.out (fun _ hk => ⟨hk.1, ⟨hk.2.1, ⟨hk.2.2.1, hk.2.2.2.1⟩⟩⟩)⟩, ⟨by (with_reducible repeat (first | refine blk_drewN ?_ _ | refine blk_drew ?_ | refine blk_alloc ?_ _)); exact BK219.out⟩, ⟨by (with_reducible repeat (first | refine blk_drewN ?_ _ | refine blk_drew ?_ | refine blk_alloc ?_ _)); exact BK220.out⟩, ⟨by (with_reducible repeat (first | refine blk_drewN ?_ _ | refine blk_drew ?_ | refine blk_alloc ?_ _)); exact BK223.out⟩, ⟨by repeat (first | (with_reducible first | exact HB.out | apply below_alloc | apply pw_below_drewN | apply below_drew1 | refine below_set ?_ GE219.out | refine below_set ?_ GE220.out | refine below_set ?_ GE223.out | refine below_set ?_ GE231.out) | exact HB.out)⟩⟩
                        · rw [if_neg c34] at H
                          exact absurd H (by simp)
                      · rw [if_neg c33] at H
                        have c33b0 : decide (x9_3 < (l0_0.length : Int)) = false := decide_eq_false c33
                        clear c33
                        replace H := Option.bind_eq_some_iff.mp H
                        obtain ⟨⟨t224, t227⟩, A1030, H⟩ := H
                        replace H : (some (t224, t227, 0)) = some (r1, r2, r3) := H
                        have A103 := Aside0.mk A1030
                        clear A1030
                        simp only [Option.some.injEq, Prod.mk.injEq] at H
                        obtain ⟨rfl, rfl, rfl⟩ := H
                        have hnb104 := NB219_220.out
                        have hnc104 := NB220_219.out
                        have hnb105 := NB219_223.out
                        have hnc105 := NB223_219.out
                        have hcz106_0 : wr.cell? ⟨gb219, 0, none⟩ = some (.slice (some ad222) l0_0.length c0_0) := (blk_cell BK219.out 0).trans rfl
                        have hcz106_1 : wr.cell? ⟨gb219, 1, none⟩ = some (.slice A0_1 l0_1.length c0_1) := (blk_cell BK219.out 1).trans rfl
                        have hfz106_0 := blk_frozen BK219.out 0
                        have hfz106_1 := blk_frozen BK219.out 1
                        have hnb107 := NB223_220.out
                        have hnc107 := NB220_223.out
                        have hcz108_0 : wr.cell? ⟨gb223, 0, none⟩ = some (.int .i64 ((rd_T52 l0_0 a1).f0)) := (blk_cell BK223.out 0).trans rfl
                        have hcz108_1 : wr.cell? ⟨gb223, 1, none⟩ = some (.int .i64 ((rd_T52 l0_0 a1).f1)) := (blk_cell BK223.out 1).trans rfl
                        have hcz108_2 : wr.cell? ⟨gb223, 2, none⟩ = some (.bool ((rd_T52 l0_0 a1).f2)) := (blk_cell BK223.out 2).trans rfl
                        have hcz108_3 : wr.cell? ⟨gb223, 3, none⟩ = some (.bool ((rd_T52 l0_0 a1).f3)) := (blk_cell BK223.out 3).trans rfl
                        have hcz108_4 : wr.cell? ⟨gb223, 4, none⟩ = some (.int .i64 ((rd_T52 l0_0 a1).f4)) := (blk_cell BK223.out 4).trans rfl
                        have hcz108_5 : wr.cell? ⟨gb223, 5, none⟩ = some (.int .i64 ((rd_T52 l0_0 a1).f5)) := (blk_cell BK223.out 5).trans rfl
                        have hfz108_0 := blk_frozen BK223.out 0
                        have hfz108_1 := blk_frozen BK223.out 1
                        have hfz108_2 := blk_frozen BK223.out 2
                        have hfz108_3 := blk_frozen BK223.out 3
                        have hfz108_4 := blk_frozen BK223.out 4
                        have hfz108_5 := blk_frozen BK223.out 5
                        go_wp2_with (first | ((with_reducible refine gate_store (t := 3) (p := 87) rfl ?_); refine store_event (t := 3) (p := 87) (v := ?vo_w109) (w1 := (wr.setCell ⟨gb223, 5, none⟩ (.int .i64 a2))) ?hg ?ho ?hn ?hr ?_; (case ho => rfl); (case hg => rfl); (case hn => rfl); (case hr => first | (go_simp; done) | (go_simp; rfl)); intro w109 hw; have n0_ : Aside0 (Kd.V k52 52 w109 w.heap.size (fun k_ => ((P0_0_ k_ ∨ P0_1_ k_) ∨ w.heap.size ≤ k_) ∧ k_ ≠ gb219 ∧ k_ ≠ gb220 ∧ k_ ≠ gb223) (.slice (some ad222) l0_0.length c0_0) l0_0) := ⟨(by rw [hw]; exact (by (with_reducible repeat (first | apply Kd.V_alloc | apply Kd.V_drewN | apply Kd.V_drew)); exact Kd.V_mono (Kd.V_far (p := ⟨gb223, 5, none⟩) (Kd.V_mono HO_220000.out (fun k_ hk => (⟨hk, hk.2.2.2⟩ : _ ∧ k_ ≠ gb223))) (fun _ hk => hk.2) (.int .i64 a2)) (fun _ hk => ⟨hk.1.1, ⟨hk.1.2.1, ⟨hk.1.2.2.1, hk.1.2.2.2⟩⟩⟩)))⟩; have n1_ : Aside0 (Kd.V (Kd.slice 3 (Kd.int .i64)) 48 w109 w.heap.size (fun k_ => ((P0_0_ k_ ∨ P0_1_ k_) ∨ w.heap.size ≤ k_) ∧ k_ ≠ gb219 ∧ k_ ≠ gb220 ∧ k_ ≠ gb223) (.slice A0_1 l0_1.length c0_1) l0_1) := ⟨(by rw [hw]; exact (by (with_reducible repeat (first | apply Kd.V_alloc | apply Kd.V_drewN | apply Kd.V_drew)); exact Kd.V_mono (Kd.V_far (p := ⟨gb223, 5, none⟩) (Kd.V_mono HO_220001.out (fun k_ hk => (⟨hk, hk.2.2.2⟩ : _ ∧ k_ ≠ gb223))) (fun _ hk => hk.2) (.int .i64 a2)) (fun _ hk => ⟨hk.1.1, ⟨hk.1.2.1, ⟨hk.1.2.2.1, hk.1.2.2.2⟩⟩⟩)))⟩; have n2_ : Aside0 (w109.heap[gb219]? = some (.cells #[.slice (some ad222) l0_0.length c0_0, .slice A0_1 l0_1.length c0_1] 33 (0, 0))) := ⟨(by rw [hw]; exact (by (with_reducible repeat (first | refine blk_drewN ?_ _ | refine blk_drew ?_ | refine blk_alloc ?_ _)); refine blk_far ?_ NB219_223.out _; (with_reducible repeat (first | refine blk_drewN ?_ _ | refine blk_drew ?_ | refine blk_alloc ?_ _)); exact BK219.out))⟩; have n3_ : Aside0 (w109.heap[gb220]? = some (.cells #[.slice none 0 0, .slice none 0 0] 33 (0, 0))) := ⟨(by rw [hw]; exact (by (with_reducible repeat (first | refine blk_drewN ?_ _ | refine blk_drew ?_ | refine blk_alloc ?_ _)); refine blk_far ?_ NB220_223.out _; (with_reducible repeat (first | refine blk_drewN ?_ _ | refine blk_drew ?_ | refine blk_alloc ?_ _)); exact BK220.out))⟩; have n4_ : Aside0 (w109.heap[gb223]? = some (.cells #[.int .i64 ((rd_T52 l0_0 a1).f0), .int .i64 ((rd_T52 l0_0 a1).f1), .bool ((rd_T52 l0_0 a1).f2), .bool ((rd_T52 l0_0 a1).f3), .int .i64 ((rd_T52 l0_0 a1).f4), .int .i64 a2] 52 (0, 0))) := ⟨(by rw [hw]; exact (by (with_reducible repeat (first | refine blk_drewN ?_ _ | refine blk_drew ?_ | refine blk_alloc ?_ _)); refine blk_put (cs := #[.int .i64 ((rd_T52 l0_0 a1).f0), .int .i64 ((rd_T52 l0_0 a1).f1), .bool ((rd_T52 l0_0 a1).f2), .bool ((rd_T52 l0_0 a1).f3), .int .i64 ((rd_T52 l0_0 a1).f4), .int .i64 ((rd_T52 l0_0 a1).f5)]) ?_ 5 _ rfl; (with_reducible repeat (first | refine blk_drewN ?_ _ | refine blk_drew ?_ | refine blk_alloc ?_ _)); exact BK223.out))⟩; have n5_ : Aside0 (Below w.heap.size w w109) := ⟨(by rw [hw]; exact (by repeat (first | (with_reducible first | exact HB.out | apply below_alloc | apply pw_below_drewN | apply below_drew1 | refine below_set ?_ GE219.out | refine below_set ?_ GE220.out | refine below_set ?_ GE223.out) | exact HB.out)))⟩; clear hw; clear HO_220000; clear HO_220001; clear BK219; clear BK220; clear BK223; clear HB; have HO_220000 := n0_; have HO_220001 := n1_; have BK219 := n2_; have BK220 := n3_; have BK223 := n4_; have HB := n5_; clear n0_ n1_ n2_ n3_ n4_ n5_; have hcz110_0 : w109.cell? ⟨gb219, 0, none⟩ = some (.slice (some ad222) l0_0.length c0_0) := (blk_cell BK219.out 0).trans rfl; have hcz110_1 : w109.cell? ⟨gb219, 1, none⟩ = some (.slice A0_1 l0_1.length c0_1) := (blk_cell BK219.out 1).trans rfl; have hfz110_0 := blk_frozen BK219.out 0; have hfz110_1 := blk_frozen BK219.out 1; have hcz111_0 : w109.cell? ⟨gb223, 0, none⟩ = some (.int .i64 ((rd_T52 l0_0 a1).f0)) := (blk_cell BK223.out 0).trans rfl; have hcz111_1 : w109.cell? ⟨gb223, 1, none⟩ = some (.int .i64 ((rd_T52 l0_0 a1).f1)) := (blk_cell BK223.out 1).trans rfl; have hcz111_2 : w109.cell? ⟨gb223, 2, none⟩ = some (.bool ((rd_T52 l0_0 a1).f2)) := (blk_cell BK223.out 2).trans rfl; have hcz111_3 : w109.cell? ⟨gb223, 3, none⟩ = some (.bool ((rd_T52 l0_0 a1).f3)) := (blk_cell BK223.out 3).trans rfl; have hcz111_4 : w109.cell? ⟨gb223, 4, none⟩ = some (.int .i64 ((rd_T52 l0_0 a1).f4)) := (blk_cell BK223.out 4).trans rfl; have hcz111_5 : w109.cell? ⟨gb223, 5, none⟩ = some (.int .i64 a2) := (blk_cell BK223.out 5).trans rfl; have hfz111_0 := blk_frozen BK223.out 0; have hfz111_1 := blk_frozen BK223.out 1; have hfz111_2 := blk_frozen BK223.out 2; have hfz111_3 := blk_frozen BK223.out 3; have hfz111_4 := blk_frozen BK223.out 4; have hfz111_5 := blk_frozen BK223.out 5) | ((with_reducible refine gate_callee (f := 23) rfl ?_); refine goesL_ (some 91) rfl rfl Try.func23 (by kernel_rfl) rfl #[.agg #[.slice (some ad222) l0_0.length c0_0, .slice A0_1 l0_1.length c0_1], .int .i64 a1, .agg #[.int .i64 ((rd_T52 l0_0 a1).f0), .int .i64 ((rd_T52 l0_0 a1).f1), .bool ((rd_T52 l0_0 a1).f2), .bool ((rd_T52 l0_0 a1).f3), .int .i64 ((rd_T52 l0_0 a1).f4), .int .i64 a2]] rfl (by (try simp only [List.map_toArray, List.map_cons, List.map_nil]); first | done | rfl | (simp only [List.length_drop, List.length_take]; rfl)) ?_; (with_reducible refine (flagstoneref10_Set.calls k3 (fun k_ => (((P0_0_ k_ ∨ P0_1_ k_) ∨ w.heap.size ≤ k_) ∧ (k_ ≠ gb219 ∧ (k_ ≠ gb220 ∧ k_ ≠ gb223)))) _ _ l0_0 (fun k_ => (((P0_0_ k_ ∨ P0_1_ k_) ∨ w.heap.size ≤ k_) ∧ (k_ ≠ gb219 ∧ (k_ ≠ gb220 ∧ k_ ≠ gb223)))) _ _ l0_1 a1 ((rd_T52 l0_0 a1).f0) ((rd_T52 l0_0 a1).f1) ((rd_T52 l0_0 a1).f2) ((rd_T52 l0_0 a1).f3) ((rd_T52 l0_0 a1).f4) a2 t224 t227 _ ?side1 ?side2 A103.out).mono ?_); (case side1 => exact HO_220000.out); (case side2 => exact HO_220001.out); rintro e w112 ⟨v225, v228, rfl, ho0, ho1, hb⟩; refine ⟨_, rfl, ?_⟩; have n0_ := Aside0.mk (Kd.V_below (by (with_reducible repeat (first | apply Kd.V_alloc | apply Kd.V_drewN | apply Kd.V_drew)); exact HO_220000.out) hb); have n1_ := Aside0.mk (Kd.V_below (by (with_reducible repeat (first | apply Kd.V_alloc | apply Kd.V_drewN | apply Kd.V_drew)); exact HO_220001.out) hb); have n2_ := Aside0.mk (Kd.V_lower (Kd.V_mono (ok' := fun k_ => ((P0_0_ k_ ∨ P0_1_ k_) ∨ w.heap.size ≤ k_) ∧ k_ ≠ gb219 ∧ k_ ≠ gb220 ∧ k_ ≠ gb223) ho0 (fun k_ hk_ => ⟨Or.elim hk_ (fun hs_ => Or.elim hs_ (fun hs_ => hs_.1) (fun hs_ => hs_.1)) (fun hn_ => (.inr (Nat.le_trans (below_size (by repeat (first | (with_reducible first | exact HB.out | apply below_alloc | apply pw_below_drewN | apply below_drew1 | refine below_set ?_ GE219.out | refine below_set ?_ GE220.out | refine below_set ?_ GE223.out) | exact HB.out))) hn_))), Or.elim hk_ (fun hs_ => Or.elim hs_ (fun hs_ => hs_.2.1) (fun hs_ => hs_.2.1)) (fun hn_ => (Kd.freshB (g := gb219) (o := .cells #[.slice (some ad222) l0_0.length c0_0, .slice A0_1 l0_1.length c0_1] 33 (0, 0)) (by (with_reducible repeat (first | refine blk_drewN ?_ _ | refine blk_drew ?_ | refine blk_alloc ?_ _)); exact BK219.out) k_ hn_)), Or.elim hk_ (fun hs_ => Or.elim hs_ (fun hs_ => hs_.2.2.1) (fun hs_ => hs_.2.2.1)) (fun hn_ => (Kd.freshB (g := gb220) (o := .cells #[.slice none 0 0, .slice none 0 0] 33 (0, 0)) (by (with_reducible repeat (first | refine blk_drewN ?_ _ | refine blk_drew ?_ | refine blk_alloc ?_ _)); exact BK220.out) k_ hn_)), Or.elim hk_ (fun hs_ => Or.elim hs_ (fun hs_ => hs_.2.2.2) (fun hs_ => hs_.2.2.2)) (fun hn_ => (Kd.freshB (g := gb223) (o := .cells #[.int .i64 ((rd_T52 l0_0 a1).f0), .int .i64 ((rd_T52 l0_0 a1).f1), .bool ((rd_T52 l0_0 a1).f2), .bool ((rd_T52 l0_0 a1).f3), .int .i64 ((rd_T52 l0_0 a1).f4), .int .i64 a2] 52 (0, 0)) (by (with_reducible repeat (first | refine blk_drewN ?_ _ | refine blk_drew ?_ | refine blk_alloc ?_ _)); exact BK223.out) k_ hn_))⟩)) (below_size (by repeat (first | (with_reducible first | exact HB.out | apply below_alloc | apply pw_below_drewN | apply below_drew1 | refine below_set ?_ GE219.out | refine below_set ?_ GE220.out | refine below_set ?_ GE223.out) | exact HB.out)))); have n3_ := Aside0.mk (Kd.V_lower (Kd.V_mono (ok' := fun k_ => ((P0_0_ k_ ∨ P0_1_ k_) ∨ w.heap.size ≤ k_) ∧ k_ ≠ gb219 ∧ k_ ≠ gb220 ∧ k_ ≠ gb223) ho1 (fun k_ hk_ => ⟨Or.elim hk_ (fun hs_ => Or.elim hs_ (fun hs_ => hs_.1) (fun hs_ => hs_.1)) (fun hn_ => (.inr (Nat.le_trans (below_size (by repeat (first | (with_reducible first | exact HB.out | apply below_alloc | apply pw_below_drewN | apply below_drew1 | refine below_set ?_ GE219.out | refine below_set ?_ GE220.out | refine below_set ?_ GE223.out) | exact HB.out))) hn_))), Or.elim hk_ (fun hs_ => Or.elim hs_ (fun hs_ => hs_.2.1) (fun hs_ => hs_.2.1)) (fun hn_ => (Kd.freshB (g := gb219) (o := .cells #[.slice (some ad222) l0_0.length c0_0, .slice A0_1 l0_1.length c0_1] 33 (0, 0)) (by (with_reducible repeat (first | refine blk_drewN ?_ _ | refine blk_drew ?_ | refine blk_alloc ?_ _)); exact BK219.out) k_ hn_)), Or.elim hk_ (fun hs_ => Or.elim hs_ (fun hs_ => hs_.2.2.1) (fun hs_ => hs_.2.2.1)) (fun hn_ => (Kd.freshB (g := gb220) (o := .cells #[.slice none 0 0, .slice none 0 0] 33 (0, 0)) (by (with_reducible repeat (first | refine blk_drewN ?_ _ | refine blk_drew ?_ | refine blk_alloc ?_ _)); exact BK220.out) k_ hn_)), Or.elim hk_ (fun hs_ => Or.elim hs_ (fun hs_ => hs_.2.2.2) (fun hs_ => hs_.2.2.2)) (fun hn_ => (Kd.freshB (g := gb223) (o := .cells #[.int .i64 ((rd_T52 l0_0 a1).f0), .int .i64 ((rd_T52 l0_0 a1).f1), .bool ((rd_T52 l0_0 a1).f2), .bool ((rd_T52 l0_0 a1).f3), .int .i64 ((rd_T52 l0_0 a1).f4), .int .i64 a2] 52 (0, 0)) (by (with_reducible repeat (first | refine blk_drewN ?_ _ | refine blk_drew ?_ | refine blk_alloc ?_ _)); exact BK223.out) k_ hn_))⟩)) (below_size (by repeat (first | (with_reducible first | exact HB.out | apply below_alloc | apply pw_below_drewN | apply below_drew1 | refine below_set ?_ GE219.out | refine below_set ?_ GE220.out | refine below_set ?_ GE223.out) | exact HB.out)))); have n4_ := Aside0.mk (blk_below (g := gb219) (o := .cells #[.slice (some ad222) l0_0.length c0_0, .slice A0_1 l0_1.length c0_1] 33 (0, 0)) (by (with_reducible repeat (first | refine blk_drewN ?_ _ | refine blk_drew ?_ | refine blk_alloc ?_ _)); exact BK219.out) hb); have n5_ := Aside0.mk (blk_below (g := gb220) (o := .cells #[.slice none 0 0, .slice none 0 0] 33 (0, 0)) (by (with_reducible repeat (first | refine blk_drewN ?_ _ | refine blk_drew ?_ | refine blk_alloc ?_ _)); exact BK220.out) hb); have n6_ := Aside0.mk (blk_below (g := gb223) (o := .cells #[.int .i64 ((rd_T52 l0_0 a1).f0), .int .i64 ((rd_T52 l0_0 a1).f1), .bool ((rd_T52 l0_0 a1).f2), .bool ((rd_T52 l0_0 a1).f3), .int .i64 ((rd_T52 l0_0 a1).f4), .int .i64 a2] 52 (0, 0)) (by (with_reducible repeat (first | refine blk_drewN ?_ _ | refine blk_drew ?_ | refine blk_alloc ?_ _)); exact BK223.out) hb); have n7_ := Aside0.mk (below_step (by repeat (first | (with_reducible first | exact HB.out | apply below_alloc | apply pw_below_drewN | apply below_drew1 | refine below_set ?_ GE219.out | refine below_set ?_ GE220.out | refine below_set ?_ GE223.out) | exact HB.out)) hb); clear HO_220000; clear HO_220001; clear BK219; clear BK220; clear BK223; clear HB; have HO_220000 := n0_; have HO_220001 := n1_; have HO226 := n2_; have HO229 := n3_; have BK219 := n4_; have BK220 := n5_; have BK223 := n6_; have HB := n7_; clear n0_ n1_ n2_ n3_ n4_ n5_ n6_ n7_; (try clear hb); (try clear hb2); (try clear hk); (try clear hi); (try clear ho0); (try clear ho1); obtain ⟨Ao113, co113, eo113⟩ := Kd.V_slice HO226.out; subst eo113; have hcz114_0 : w112.cell? ⟨gb220, 0, none⟩ = some (.slice none 0 0) := (blk_cell BK220.out 0).trans rfl; have hcz114_1 : w112.cell? ⟨gb220, 1, none⟩ = some (.slice none 0 0) := (blk_cell BK220.out 1).trans rfl; have hfz114_0 := blk_frozen BK220.out 0; have hfz114_1 := blk_frozen BK220.out 1; obtain ⟨Ao115, co115, eo115⟩ := Kd.V_slice HO229.out; subst eo115))
                        refine bodyPost_ret (results_ct rfl _ _ gb220 33 #[.slice Ao113 t224.length co113, .slice Ao115 t227.length co115] (0, 0) _ rfl (by (with_reducible repeat (first | refine blk_drewN ?_ _ | refine blk_drew ?_ | refine blk_alloc ?_ _)); refine blk_put (cs := #[.slice Ao113 t224.length co113, .slice none 0 0]) ?_ 1 _ rfl; (with_reducible repeat (first | refine blk_drewN ?_ _ | refine blk_drew ?_ | refine blk_alloc ?_ _)); refine blk_put (cs := #[.slice none 0 0, .slice none 0 0]) ?_ 0 _ rfl; (with_reducible repeat (first | refine blk_drewN ?_ _ | refine blk_drew ?_ | refine blk_alloc ?_ _)); exact BK220.out) Try.underlying33 rfl (by kernel_rfl)) rfl ?_
                        exact ⟨_, _, by first | rfl | (simp [errW_none, errW_some] <;> rfl) | (simp [*, errW_none, errW_some] <;> rfl), by (with_reducible repeat (first | apply Kd.V_alloc | apply Kd.V_drewN | apply Kd.V_drew)); exact Kd.V_mono (Kd.V_far (p := ⟨gb220, 1, none⟩) (Kd.V_far (p := ⟨gb220, 0, none⟩) (Kd.V_mono HO226.out (fun k_ hk => (⟨hk, hk.2.2.1⟩ : _ ∧ k_ ≠ gb220))) (fun _ hk => hk.2) (.slice Ao113 t224.length co113)) (fun _ hk => hk.2) (.slice Ao115 t227.length co115)) (fun _ hk => hk.1.1), by (with_reducible repeat (first | apply Kd.V_alloc | apply Kd.V_drewN | apply Kd.V_drew)); exact Kd.V_mono (Kd.V_far (p := ⟨gb220, 1, none⟩) (Kd.V_far (p := ⟨gb220, 0, none⟩) (Kd.V_mono HO229.out (fun k_ hk => (⟨hk, hk.2.2.1⟩ : _ ∧ k_ ≠ gb220))) (fun _ hk => hk.2) (.slice Ao113 t224.length co113)) (fun _ hk => hk.2) (.slice Ao115 t227.length co115)) (fun _ hk => hk.1.1), by repeat (first | (with_reducible first | exact HB.out | apply below_alloc | apply pw_below_drewN | apply below_drew1 | refine below_set ?_ GE219.out | refine below_set ?_ GE220.out | refine below_set ?_ GE223.out) | exact HB.out)⟩
                · rw [if_neg c26] at H
                  exact absurd H (by simp)
              · rw [if_neg c25] at H
                exact absurd H (by simp)

end Go.Proofs.Ytbfjakhloabhmaa.P
