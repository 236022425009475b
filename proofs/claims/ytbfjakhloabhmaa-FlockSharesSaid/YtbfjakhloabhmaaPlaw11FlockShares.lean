-- Printed by a program of this session (inject.py) over the kit's print, with functions that were proved by hand in their places.
import Derived.Test.YtbfjakhloabhmaaPK
import Derived.Test.YtbfjakhloabhmaaPlaw11fine
import Derived.Test.YtbfjakhloabhmaaPflockLock
import Derived.Test.YtbfjakhloabhmaaPflockHolders
import Derived.Test.YtbfjakhloabhmaaPlaw11shown
namespace Go.Proofs.Ytbfjakhloabhmaa.P
open Go.RowKit Go.Proofs.YtbfjakhloabhmaaW.PrintWords Go.Proofs.YtbfjakhloabhmaaW.PrintLast Go.Proofs.YtbfjakhloabhmaaW.PrintMore
attribute [local go_sem] max2_int min2_int max_two min_two max_three min_three max_four min_four   -- for this text's walks alone
set_option linter.unusedVariables false
set_option linter.unusedSimpArgs false

/-! ### flagstonelaw11_FlockShares: function 7 -/
mutual
def flagstonelaw11_FlockShares.j0 : Nat → Int → Bool → List (S44) → List (List Int) → Option (Bool)
  | 0, _, _, _, _ => none
  | k + 1, x1, x23, x490000, x490001 => if x23 = true then ((flagstonelaw11_shown.f k).bind fun t492 => (some t492)) else (flagstonelaw11_FlockShares.l0 k x1 0 (-1) 0 x490000 x490001)
def flagstonelaw11_FlockShares.l0 : Nat → Int → Int → Int → Int → List (S44) → List (List Int) → Option (Bool)
  | 0, _, _, _, _, _, _ => none
  | k + 1, x1, x5, x6, x7, x490000, x490001 => if x7 < (x490000.length : Int) then (if 0 ≤ x7 then (if ((rd_T44 x490000 x7).f4) > 0 then (flagstonelaw11_FlockShares.j2 k x1 x5 x6 x7 (((rd_T44 x490000 x7).f0) == x1) x490000 x490001) else (flagstonelaw11_FlockShares.j2 k x1 x5 x6 x7 false x490000 x490001)) else (none)) else (flagstonelaw11_FlockShares.l1 k x1 x5 x6 0 x490000 x490001)
def flagstonelaw11_FlockShares.j2 : Nat → Int → Int → Int → Int → Bool → List (S44) → List (List Int) → Option (Bool)
  | 0, _, _, _, _, _, _, _ => none
  | k + 1, x1, x5, x6, x7, x48, x490000, x490001 => if x48 = true then ((flock_Lock.f x490000 x490001 x7 0).bind fun bt495 => (if bt495.2.2 = 0 then (if (bt495.1.length : Int) = (x490000.length : Int) then (flagstonelaw11_FlockShares.l0 k x1 x5 x6 (wrap64 (x7 + 1)) bt495.1 bt495.2.1) else (none)) else (none))) else (flagstonelaw11_FlockShares.l0 k x1 x5 x6 (wrap64 (x7 + 1)) x490000 x490001)
def flagstonelaw11_FlockShares.l1 : Nat → Int → Int → Int → Int → List (S44) → List (List Int) → Option (Bool)
  | 0, _, _, _, _, _, _ => none
  | k + 1, x1, x5, x6, x10, x490000, x490001 => if x10 < (x490000.length : Int) then (if 0 ≤ x10 then (if ((rd_T44 x490000 x10).f4) > 0 then (flagstonelaw11_FlockShares.j4 k x1 x5 x6 x10 (((rd_T44 x490000 x10).f0) == x1) x490000 x490001) else (flagstonelaw11_FlockShares.j4 k x1 x5 x6 x10 false x490000 x490001)) else (none)) else ((flock_Holders.f x490000 x490001 x1).bind fun bt513 => (if bt513.1 = x5 then (flagstonelaw11_FlockShares.j5 k x5 x6 (bt513.2 != 0) x490000 x490001) else (flagstonelaw11_FlockShares.j5 k x5 x6 true x490000 x490001)))
def flagstonelaw11_FlockShares.j4 : Nat → Int → Int → Int → Int → Bool → List (S44) → List (List Int) → Option (Bool)
  | 0, _, _, _, _, _, _, _ => none
  | k + 1, x1, x5, x6, x10, x90, x490000, x490001 => if x90 = true then ((flock_Lock.f x490000 x490001 x10 1).bind fun bt505 => (if bt505.2.2 = 0 then (if (bt505.1.length : Int) = (x490000.length : Int) then (flagstonelaw11_FlockShares.l1 k x1 (wrap64 (x5 + 1)) x10 (wrap64 (x10 + 1)) bt505.1 bt505.2.1) else (none)) else (none))) else (flagstonelaw11_FlockShares.l1 k x1 x5 x6 (wrap64 (x10 + 1)) x490000 x490001)
def flagstonelaw11_FlockShares.j5 : Nat → Int → Int → Bool → List (S44) → List (List Int) → Option (Bool)
  | 0, _, _, _, _, _ => none
  | k + 1, x5, x6, x124, x490000, x490001 => if x124 = true then (none) else (if x5 = 0 then (some true) else ((flock_Lock.f x490000 x490001 x6 2).bind fun bt515 => (if ((bt515.2.2 == 0) == (x5 == 1)) = true then (if bt515.2.2 = 0 then (some true) else (some (bt515.2.2 == 14))) else (none))))
end
def flagstonelaw11_FlockShares.f (k : Nat) (l0_0 : List (S44)) (l0_1 : List (List Int)) (a1 : Int) : Option (Bool) := (flagstonelaw11_fine.f k l0_0 l0_1).bind fun t490 => (if t490 = true then ((flagstonelaw11_shown.f k).bind fun t491 => (flagstonelaw11_FlockShares.j0 k a1 (!t491) l0_0 l0_1)) else (flagstonelaw11_FlockShares.j0 k a1 true l0_0 l0_1))
theorem flagstonelaw11_FlockShares.mono_l : ∀ k, (∀ y0 y1 y2 y3, LeO (flagstonelaw11_FlockShares.j0 k y0 y1 y2 y3) (flagstonelaw11_FlockShares.j0 (k + 1) y0 y1 y2 y3)) ∧ (∀ y0 y1 y2 y3 y4 y5, LeO (flagstonelaw11_FlockShares.l0 k y0 y1 y2 y3 y4 y5) (flagstonelaw11_FlockShares.l0 (k + 1) y0 y1 y2 y3 y4 y5)) ∧ (∀ y0 y1 y2 y3 y4 y5 y6, LeO (flagstonelaw11_FlockShares.j2 k y0 y1 y2 y3 y4 y5 y6) (flagstonelaw11_FlockShares.j2 (k + 1) y0 y1 y2 y3 y4 y5 y6)) ∧ (∀ y0 y1 y2 y3 y4 y5, LeO (flagstonelaw11_FlockShares.l1 k y0 y1 y2 y3 y4 y5) (flagstonelaw11_FlockShares.l1 (k + 1) y0 y1 y2 y3 y4 y5)) ∧ (∀ y0 y1 y2 y3 y4 y5 y6, LeO (flagstonelaw11_FlockShares.j4 k y0 y1 y2 y3 y4 y5 y6) (flagstonelaw11_FlockShares.j4 (k + 1) y0 y1 y2 y3 y4 y5 y6)) ∧ (∀ y0 y1 y2 y3 y4, LeO (flagstonelaw11_FlockShares.j5 k y0 y1 y2 y3 y4) (flagstonelaw11_FlockShares.j5 (k + 1) y0 y1 y2 y3 y4))
  | 0 => ⟨fun _ _ _ _ r h => by simp [flagstonelaw11_FlockShares.j0] at h, fun _ _ _ _ _ _ r h => by simp [flagstonelaw11_FlockShares.l0] at h, fun _ _ _ _ _ _ _ r h => by simp [flagstonelaw11_FlockShares.j2] at h, fun _ _ _ _ _ _ r h => by simp [flagstonelaw11_FlockShares.l1] at h, fun _ _ _ _ _ _ _ r h => by simp [flagstonelaw11_FlockShares.j4] at h, fun _ _ _ _ _ r h => by simp [flagstonelaw11_FlockShares.j5] at h⟩
  | k + 1 => by
    obtain ⟨ih0, ih1, ih2, ih3, ih4, ih5⟩ := flagstonelaw11_FlockShares.mono_l k
    refine ⟨?_, ?_, ?_, ?_, ?_, ?_⟩
    · intro y0 y1 y2 y3
      unfold flagstonelaw11_FlockShares.j0
      repeat' first
      | (with_reducible exact ih0 _ _ _ _)
      | (with_reducible exact ih1 _ _ _ _ _ _)
      | (with_reducible exact ih2 _ _ _ _ _ _ _)
      | (with_reducible exact ih3 _ _ _ _ _ _)
      | (with_reducible exact ih4 _ _ _ _ _ _ _)
      | (with_reducible exact ih5 _ _ _ _ _)
      | (with_reducible exact flagstonelaw11_fine.mono _ _ _)
      | (with_reducible exact flagstonelaw11_shown.mono _)
      | (with_reducible exact LeO.refl _)
      | (with_reducible exact LeO.none _)
      | (with_reducible refine LeO.ite ?_ ?_)
      | (with_reducible refine LeO.bind ?_ (fun _ => ?_))
      | exact ih0 _ _ _ _
      | exact ih1 _ _ _ _ _ _
      | exact ih2 _ _ _ _ _ _ _
      | exact ih3 _ _ _ _ _ _
      | exact ih4 _ _ _ _ _ _ _
      | exact ih5 _ _ _ _ _
      | exact flagstonelaw11_fine.mono _ _ _
      | exact flagstonelaw11_shown.mono _
      | exact LeO.none _
      | refine LeO.ite ?_ ?_
      | refine LeO.bind ?_ (fun _ => ?_)
    · intro y0 y1 y2 y3 y4 y5
      unfold flagstonelaw11_FlockShares.l0
      repeat' first
      | (with_reducible exact ih0 _ _ _ _)
      | (with_reducible exact ih1 _ _ _ _ _ _)
      | (with_reducible exact ih2 _ _ _ _ _ _ _)
      | (with_reducible exact ih3 _ _ _ _ _ _)
      | (with_reducible exact ih4 _ _ _ _ _ _ _)
      | (with_reducible exact ih5 _ _ _ _ _)
      | (with_reducible exact flagstonelaw11_fine.mono _ _ _)
      | (with_reducible exact flagstonelaw11_shown.mono _)
      | (with_reducible exact LeO.refl _)
      | (with_reducible exact LeO.none _)
      | (with_reducible refine LeO.ite ?_ ?_)
      | (with_reducible refine LeO.bind ?_ (fun _ => ?_))
      | exact ih0 _ _ _ _
      | exact ih1 _ _ _ _ _ _
      | exact ih2 _ _ _ _ _ _ _
      | exact ih3 _ _ _ _ _ _
      | exact ih4 _ _ _ _ _ _ _
      | exact ih5 _ _ _ _ _
      | exact flagstonelaw11_fine.mono _ _ _
      | exact flagstonelaw11_shown.mono _
      | exact LeO.none _
      | refine LeO.ite ?_ ?_
      | refine LeO.bind ?_ (fun _ => ?_)
    · intro y0 y1 y2 y3 y4 y5 y6
      unfold flagstonelaw11_FlockShares.j2
      repeat' first
      | (with_reducible exact ih0 _ _ _ _)
      | (with_reducible exact ih1 _ _ _ _ _ _)
      | (with_reducible exact ih2 _ _ _ _ _ _ _)
      | (with_reducible exact ih3 _ _ _ _ _ _)
      | (with_reducible exact ih4 _ _ _ _ _ _ _)
      | (with_reducible exact ih5 _ _ _ _ _)
      | (with_reducible exact flagstonelaw11_fine.mono _ _ _)
      | (with_reducible exact flagstonelaw11_shown.mono _)
      | (with_reducible exact LeO.refl _)
      | (with_reducible exact LeO.none _)
      | (with_reducible refine LeO.ite ?_ ?_)
      | (with_reducible refine LeO.bind ?_ (fun _ => ?_))
      | exact ih0 _ _ _ _
      | exact ih1 _ _ _ _ _ _
      | exact ih2 _ _ _ _ _ _ _
      | exact ih3 _ _ _ _ _ _
      | exact ih4 _ _ _ _ _ _ _
      | exact ih5 _ _ _ _ _
      | exact flagstonelaw11_fine.mono _ _ _
      | exact flagstonelaw11_shown.mono _
      | exact LeO.none _
      | refine LeO.ite ?_ ?_
      | refine LeO.bind ?_ (fun _ => ?_)
    · intro y0 y1 y2 y3 y4 y5
      unfold flagstonelaw11_FlockShares.l1
      repeat' first
      | (with_reducible exact ih0 _ _ _ _)
      | (with_reducible exact ih1 _ _ _ _ _ _)
      | (with_reducible exact ih2 _ _ _ _ _ _ _)
      | (with_reducible exact ih3 _ _ _ _ _ _)
      | (with_reducible exact ih4 _ _ _ _ _ _ _)
      | (with_reducible exact ih5 _ _ _ _ _)
      | (with_reducible exact flagstonelaw11_fine.mono _ _ _)
      | (with_reducible exact flagstonelaw11_shown.mono _)
      | (with_reducible exact LeO.refl _)
      | (with_reducible exact LeO.none _)
      | (with_reducible refine LeO.ite ?_ ?_)
      | (with_reducible refine LeO.bind ?_ (fun _ => ?_))
      | exact ih0 _ _ _ _
      | exact ih1 _ _ _ _ _ _
      | exact ih2 _ _ _ _ _ _ _
      | exact ih3 _ _ _ _ _ _
      | exact ih4 _ _ _ _ _ _ _
      | exact ih5 _ _ _ _ _
      | exact flagstonelaw11_fine.mono _ _ _
      | exact flagstonelaw11_shown.mono _
      | exact LeO.none _
      | refine LeO.ite ?_ ?_
      | refine LeO.bind ?_ (fun _ => ?_)
    · intro y0 y1 y2 y3 y4 y5 y6
      unfold flagstonelaw11_FlockShares.j4
      repeat' first
      | (with_reducible exact ih0 _ _ _ _)
      | (with_reducible exact ih1 _ _ _ _ _ _)
      | (with_reducible exact ih2 _ _ _ _ _ _ _)
      | (with_reducible exact ih3 _ _ _ _ _ _)
      | (with_reducible exact ih4 _ _ _ _ _ _ _)
      | (with_reducible exact ih5 _ _ _ _ _)
      | (with_reducible exact flagstonelaw11_fine.mono _ _ _)
      | (with_reducible exact flagstonelaw11_shown.mono _)
      | (with_reducible exact LeO.refl _)
      | (with_reducible exact LeO.none _)
      | (with_reducible refine LeO.ite ?_ ?_)
      | (with_reducible refine LeO.bind ?_ (fun _ => ?_))
      | exact ih0 _ _ _ _
      | exact ih1 _ _ _ _ _ _
      | exact ih2 _ _ _ _ _ _ _
      | exact ih3 _ _ _ _ _ _
      | exact ih4 _ _ _ _ _ _ _
      | exact ih5 _ _ _ _ _
      | exact flagstonelaw11_fine.mono _ _ _
      | exact flagstonelaw11_shown.mono _
      | exact LeO.none _
      | refine LeO.ite ?_ ?_
      | refine LeO.bind ?_ (fun _ => ?_)
    · intro y0 y1 y2 y3 y4
      unfold flagstonelaw11_FlockShares.j5
      repeat' first
      | (with_reducible exact ih0 _ _ _ _)
      | (with_reducible exact ih1 _ _ _ _ _ _)
      | (with_reducible exact ih2 _ _ _ _ _ _ _)
      | (with_reducible exact ih3 _ _ _ _ _ _)
      | (with_reducible exact ih4 _ _ _ _ _ _ _)
      | (with_reducible exact ih5 _ _ _ _ _)
      | (with_reducible exact flagstonelaw11_fine.mono _ _ _)
      | (with_reducible exact flagstonelaw11_shown.mono _)
      | (with_reducible exact LeO.refl _)
      | (with_reducible exact LeO.none _)
      | (with_reducible refine LeO.ite ?_ ?_)
      | (with_reducible refine LeO.bind ?_ (fun _ => ?_))
      | exact ih0 _ _ _ _
      | exact ih1 _ _ _ _ _ _
      | exact ih2 _ _ _ _ _ _ _
      | exact ih3 _ _ _ _ _ _
      | exact ih4 _ _ _ _ _ _ _
      | exact ih5 _ _ _ _ _
      | exact flagstonelaw11_fine.mono _ _ _
      | exact flagstonelaw11_shown.mono _
      | exact LeO.none _
      | refine LeO.ite ?_ ?_
      | refine LeO.bind ?_ (fun _ => ?_)
theorem flagstonelaw11_FlockShares.mono : ∀ a0 a1 a2 k, LeO (flagstonelaw11_FlockShares.f k a0 a1 a2) (flagstonelaw11_FlockShares.f (k + 1) a0 a1 a2) := by
  intro a0 a1 a2 k
  obtain ⟨ih0, ih1, ih2, ih3, ih4, ih5⟩ := flagstonelaw11_FlockShares.mono_l k
  unfold flagstonelaw11_FlockShares.f
  repeat' first
      | (with_reducible exact ih0 _ _ _ _)
      | (with_reducible exact ih1 _ _ _ _ _ _)
      | (with_reducible exact ih2 _ _ _ _ _ _ _)
      | (with_reducible exact ih3 _ _ _ _ _ _)
      | (with_reducible exact ih4 _ _ _ _ _ _ _)
      | (with_reducible exact ih5 _ _ _ _ _)
      | (with_reducible exact flagstonelaw11_fine.mono _ _ _)
      | (with_reducible exact flagstonelaw11_shown.mono _)
      | (with_reducible exact LeO.refl _)
      | (with_reducible exact LeO.none _)
      | (with_reducible refine LeO.ite ?_ ?_)
      | (with_reducible refine LeO.bind ?_ (fun _ => ?_))
      | exact ih0 _ _ _ _
      | exact ih1 _ _ _ _ _ _
      | exact ih2 _ _ _ _ _ _ _
      | exact ih3 _ _ _ _ _ _
      | exact ih4 _ _ _ _ _ _ _
      | exact ih5 _ _ _ _ _
      | exact flagstonelaw11_fine.mono _ _ _
      | exact flagstonelaw11_shown.mono _
      | exact LeO.none _
      | refine LeO.ite ?_ ?_
      | refine LeO.bind ?_ (fun _ => ?_)
set_option maxHeartbeats 8000000 in
set_option maxRecDepth 100000 in
theorem flagstonelaw11_FlockShares.calls (k : Nat) (P0_0_ : Nat → Prop) (A0_0 : Option Addr) (c0_0 : Nat) (l0_0 : List (S44)) (P0_1_ : Nat → Prop) (A0_1 : Option Addr) (c0_1 : Nat) (l0_1 : List (List Int)) (a1 : Int) (r : Bool) (w : World) (hs0_0 : Kd.V k44 44 w w.heap.size (fun k_ => P0_0_ k_) (.slice A0_0 l0_0.length c0_0) l0_0) (hs0_1 : Kd.V (Kd.slice 3 (Kd.int .i64)) 48 w w.heap.size (fun k_ => P0_1_ k_) (.slice A0_1 l0_1.length c0_1) l0_1) (h : flagstonelaw11_FlockShares.f k l0_0 l0_1 a1 = some r) :
    Calls Try.prog 7 #[.agg #[.slice A0_0 l0_0.length c0_0, .slice A0_1 l0_1.length c0_1], .int .i64 a1] w fun e w' => e = .returned (.bool r) ∧ Below w.heap.size w w' := by
  have hu25 := Try.underlying25
  have HO0_0 := Aside0.mk (show Kd.V k44 44 w w.heap.size (fun k_ => ((P0_0_ k_ ∨ P0_1_ k_) ∨ w.heap.size ≤ k_)) (.slice A0_0 l0_0.length c0_0) l0_0 from Kd.V_mono hs0_0 (fun k_ hk => .inl (.inl hk)))
  have HO0_1 := Aside0.mk (show Kd.V (Kd.slice 3 (Kd.int .i64)) 48 w w.heap.size (fun k_ => ((P0_0_ k_ ∨ P0_1_ k_) ∨ w.heap.size ≤ k_)) (.slice A0_1 l0_1.length c0_1) l0_1 from Kd.V_mono hs0_1 (fun k_ hk => .inl (.inr hk)))
  have HB := Aside0.mk (Below.refl w.heap.size w)
  have H : ((flagstonelaw11_fine.f k l0_0 l0_1).bind fun t490 => (if t490 = true then ((flagstonelaw11_shown.f k).bind fun t491 => (flagstonelaw11_FlockShares.j0 k a1 (!t491) l0_0 l0_1)) else (flagstonelaw11_FlockShares.j0 k a1 true l0_0 l0_1))) = some r := h
  clear h
  have HC3 := Aside0.mk H
  clear H
  go_enter Try.func7, Try.ntmps7
  go_upto_region 1 with (first | ((with_reducible refine gate_dst (N := 2) rfl ?_); (try (refine gate_guard (by rfl) ?_; dsimp only)); refine box_event ?hg (N := 2) ?hd (cs := #[.slice A0_0 l0_0.length c0_0, .slice A0_1 l0_1.length c0_1]) (t := 25) ?hr ?_; (case hd => rfl); (case hg => rfl); (case hr => first | (go_simp; done) | (go_simp; rfl)); intro gb489 hg w4 hbox hb; have n0_ := Aside0.mk (Kd.V_below (Kd.V_elderB (by (with_reducible repeat (first | apply Kd.V_alloc | apply Kd.V_drewN | apply Kd.V_drew)); exact HO0_0.out) gb489 (Nat.le_of_eq hg.symm)) hb); have n1_ := Aside0.mk (Kd.V_below (Kd.V_elderB (by (with_reducible repeat (first | apply Kd.V_alloc | apply Kd.V_drewN | apply Kd.V_drew)); exact HO0_1.out) gb489 (Nat.le_of_eq hg.symm)) hb); have n2_ := Aside0.mk (below_step (by repeat (first | (with_reducible first | exact HB.out | apply below_alloc | apply pw_below_drewN | apply below_drew1) | exact HB.out)) hb); have n3_ := Aside0.mk (hbox); have n4_ := Aside0.mk ((by rw [hg]; exact (below_size (by repeat (first | (with_reducible first | exact HB.out | apply below_alloc | apply pw_below_drewN | apply below_drew1) | exact HB.out))) : w.heap.size ≤ gb489)); have n5_ := Aside0.mk ((by rw [hg]; exact (below_size (by repeat (first | (with_reducible first | exact HB.out | apply below_alloc | apply pw_below_drewN | apply below_drew1) | exact HB.out))) : w.heap.size ≤ gb489)); clear HO0_0; clear HO0_1; clear HB; have HO0_0 := n0_; have HO0_1 := n1_; have HB := n2_; have BK489 := n3_; have GW489 := n4_; have GE489 := n5_; clear n0_ n1_ n2_ n3_ n4_ n5_; clear hb hbox hg))
  (try simp only [Act.put, List.setIfInBounds_toArray, List.set_cons_zero, List.set_cons_succ])
  go_cut [23] (fun v23 wc => ∃ (kq : Nat) (x23_2 : Bool), v23 = .bool x23_2 ∧ Aside0 (flagstonelaw11_FlockShares.j0 kq a1 x23_2 l0_0 l0_1 = some r) ∧ Aside0 (kq ≤ k) ∧ Aside0 (Kd.V k44 44 wc w.heap.size (fun k_ => ((P0_0_ k_ ∨ P0_1_ k_) ∨ w.heap.size ≤ k_) ∧ k_ ≠ gb489) (.slice A0_0 l0_0.length c0_0) l0_0) ∧ Aside0 (Kd.V (Kd.slice 3 (Kd.int .i64)) 48 wc w.heap.size (fun k_ => ((P0_0_ k_ ∨ P0_1_ k_) ∨ w.heap.size ≤ k_) ∧ k_ ≠ gb489) (.slice A0_1 l0_1.length c0_1) l0_1) ∧ Aside0 (wc.heap[gb489]? = some (.cells #[(.slice A0_0 l0_0.length c0_0), (.slice A0_1 l0_1.length c0_1)] 25 (0, 0))) ∧ Aside0 (Below w.heap.size w wc))
  case first =>
    have H := HC3.out
    clear HC3
    replace H := Option.bind_eq_some_iff.mp H
    obtain ⟨t490, A50, H⟩ := H
    replace H : (if t490 = true then ((flagstonelaw11_shown.f k).bind fun t491 => (flagstonelaw11_FlockShares.j0 k a1 (!t491) l0_0 l0_1)) else (flagstonelaw11_FlockShares.j0 k a1 true l0_0 l0_1)) = some r := H
    have A5 := Aside0.mk A50
    clear A50
    by_cases c6 : t490 = true
    · subst c6
      have H1 : ((flagstonelaw11_shown.f k).bind fun t491 => (flagstonelaw11_FlockShares.j0 k a1 (!t491) l0_0 l0_1)) = some r := by rw [if_pos rfl] at H; exact H
      clear H
      have H := H1
      clear H1
      replace H := Option.bind_eq_some_iff.mp H
      obtain ⟨t491, A70, H⟩ := H
      replace H : (flagstonelaw11_FlockShares.j0 k a1 (!t491) l0_0 l0_1) = some r := H
      have A7 := Aside0.mk A70
      clear A70
      have H' := Aside0.mk H
      clear H
      have hcz8_0 : w4.cell? ⟨gb489, 0, none⟩ = some (.slice A0_0 l0_0.length c0_0) := (blk_cell BK489.out 0).trans rfl
      have hcz8_1 : w4.cell? ⟨gb489, 1, none⟩ = some (.slice A0_1 l0_1.length c0_1) := (blk_cell BK489.out 1).trans rfl
      have hfz8_0 := blk_frozen BK489.out 0
      have hfz8_1 := blk_frozen BK489.out 1
      go_wp2_with (first | ((with_reducible refine gate_callee (f := 9) rfl ?_); refine goesL_ (some 18) rfl rfl Try.func9 (by kernel_rfl) rfl #[.agg #[.slice A0_0 l0_0.length c0_0, .slice A0_1 l0_1.length c0_1]] rfl (by (try simp only [List.map_toArray, List.map_cons, List.map_nil]); first | done | rfl | (simp only [List.length_drop, List.length_take]; rfl)) ?_; (with_reducible refine (flagstonelaw11_fine.calls k _ _ l0_0 _ _ l0_1 true _ ?side1 ?side2 ?side3 ?side4 A5.out).mono ?_); (case side1 => repeat (first | exact (Kd.V_reads' HO0_0.out).2.2 | (with_reducible refine Kd.C_alloc ?_ _) | (with_reducible refine Kd.C_drewN ?_ _) | (with_reducible refine Kd.C_drew ?_))); (case side2 => exact (Kd.V_reads' HO0_0.out).2.1); (case side3 => repeat (first | exact (Kd.V_reads' HO0_1.out).2.2 | (with_reducible refine Kd.C_alloc ?_ _) | (with_reducible refine Kd.C_drewN ?_ _) | (with_reducible refine Kd.C_drew ?_))); (case side4 => exact (Kd.V_reads' HO0_1.out).2.1); rintro e w9 ⟨rfl, hb⟩; refine ⟨_, rfl, ?_⟩; have n0_ := Aside0.mk (Kd.V_below (by (with_reducible repeat (first | apply Kd.V_alloc | apply Kd.V_drewN | apply Kd.V_drew)); exact HO0_0.out) hb); have n1_ := Aside0.mk (Kd.V_below (by (with_reducible repeat (first | apply Kd.V_alloc | apply Kd.V_drewN | apply Kd.V_drew)); exact HO0_1.out) hb); have n2_ := Aside0.mk (blk_below (g := gb489) (o := .cells #[.slice A0_0 l0_0.length c0_0, .slice A0_1 l0_1.length c0_1] 25 (0, 0)) (by (with_reducible repeat (first | refine blk_drewN ?_ _ | refine blk_drew ?_ | refine blk_alloc ?_ _)); exact BK489.out) hb); have n3_ := Aside0.mk (below_step (by repeat (first | (with_reducible first | exact HB.out | apply below_alloc | apply pw_below_drewN | apply below_drew1 | refine below_set ?_ GE489.out) | exact HB.out)) hb); clear HO0_0; clear HO0_1; clear BK489; clear HB; have HO0_0 := n0_; have HO0_1 := n1_; have BK489 := n2_; have HB := n3_; clear n0_ n1_ n2_ n3_; (try clear hb); (try clear hb2); (try clear hk); (try clear hi)) | (go_at_call 10; (with_reducible refine (flagstonelaw11_shown.calls k  t491 _ A7.out).mono ?_); rintro e w10 ⟨rfl, hb⟩; have n0_ := Aside0.mk (Kd.V_below (by (with_reducible repeat (first | apply Kd.V_alloc | apply Kd.V_drewN | apply Kd.V_drew)); exact HO0_0.out) hb); have n1_ := Aside0.mk (Kd.V_below (by (with_reducible repeat (first | apply Kd.V_alloc | apply Kd.V_drewN | apply Kd.V_drew)); exact HO0_1.out) hb); have n2_ := Aside0.mk (blk_below (g := gb489) (o := .cells #[.slice A0_0 l0_0.length c0_0, .slice A0_1 l0_1.length c0_1] 25 (0, 0)) (by (with_reducible repeat (first | refine blk_drewN ?_ _ | refine blk_drew ?_ | refine blk_alloc ?_ _)); exact BK489.out) hb); have n3_ := Aside0.mk (below_step (by repeat (first | (with_reducible first | exact HB.out | apply below_alloc | apply pw_below_drewN | apply below_drew1 | refine below_set ?_ GE489.out) | exact HB.out)) hb); clear HO0_0; clear HO0_1; clear BK489; clear HB; have HO0_0 := n0_; have HO0_1 := n1_; have BK489 := n2_; have HB := n3_; clear n0_ n1_ n2_ n3_; (try clear hb); (try clear hb2); (try clear hk); (try clear hi)))
      go_meet
      case rel => exact ⟨_, (!t491), (by first | rfl | (simp; done) | (simp [*]; done)), H', ⟨by first | omega | exact Nat.le_refl _⟩, ⟨by (with_reducible repeat (first | apply Kd.V_alloc | apply Kd.V_drewN | apply Kd.V_drew)); exact HO0_0.out⟩, ⟨by (with_reducible repeat (first | apply Kd.V_alloc | apply Kd.V_drewN | apply Kd.V_drew)); exact HO0_1.out⟩, ⟨by (with_reducible repeat (first | refine blk_drewN ?_ _ | refine blk_drew ?_ | refine blk_alloc ?_ _)); exact BK489.out⟩, ⟨by repeat (first | (with_reducible first | exact HB.out | apply below_alloc | apply pw_below_drewN | apply below_drew1 | refine below_set ?_ GE489.out) | exact HB.out)⟩⟩
    · replace c6 := Bool.eq_false_iff.mpr c6
      subst c6
      have H1 : (flagstonelaw11_FlockShares.j0 k a1 true l0_0 l0_1) = some r := by rw [if_neg (show ¬ (false = true) by decide)] at H; exact H
      clear H
      have H := H1
      clear H1
      have H' := Aside0.mk H
      clear H
      have hcz11_0 : w4.cell? ⟨gb489, 0, none⟩ = some (.slice A0_0 l0_0.length c0_0) := (blk_cell BK489.out 0).trans rfl
      have hcz11_1 : w4.cell? ⟨gb489, 1, none⟩ = some (.slice A0_1 l0_1.length c0_1) := (blk_cell BK489.out 1).trans rfl
      have hfz11_0 := blk_frozen BK489.out 0
      have hfz11_1 := blk_frozen BK489.out 1
      go_wp2_with (first | ((with_reducible refine gate_callee (f := 9) rfl ?_); refine goesL_ (some 18) rfl rfl Try.func9 (by kernel_rfl) rfl #[.agg #[.slice A0_0 l0_0.length c0_0, .slice A0_1 l0_1.length c0_1]] rfl (by (try simp only [List.map_toArray, List.map_cons, List.map_nil]); first | done | rfl | (simp only [List.length_drop, List.length_take]; rfl)) ?_; (with_reducible refine (flagstonelaw11_fine.calls k _ _ l0_0 _ _ l0_1 false _ ?side1 ?side2 ?side3 ?side4 A5.out).mono ?_); (case side1 => repeat (first | exact (Kd.V_reads' HO0_0.out).2.2 | (with_reducible refine Kd.C_alloc ?_ _) | (with_reducible refine Kd.C_drewN ?_ _) | (with_reducible refine Kd.C_drew ?_))); (case side2 => exact (Kd.V_reads' HO0_0.out).2.1); (case side3 => repeat (first | exact (Kd.V_reads' HO0_1.out).2.2 | (with_reducible refine Kd.C_alloc ?_ _) | (with_reducible refine Kd.C_drewN ?_ _) | (with_reducible refine Kd.C_drew ?_))); (case side4 => exact (Kd.V_reads' HO0_1.out).2.1); rintro e w12 ⟨rfl, hb⟩; refine ⟨_, rfl, ?_⟩; have n0_ := Aside0.mk (Kd.V_below (by (with_reducible repeat (first | apply Kd.V_alloc | apply Kd.V_drewN | apply Kd.V_drew)); exact HO0_0.out) hb); have n1_ := Aside0.mk (Kd.V_below (by (with_reducible repeat (first | apply Kd.V_alloc | apply Kd.V_drewN | apply Kd.V_drew)); exact HO0_1.out) hb); have n2_ := Aside0.mk (blk_below (g := gb489) (o := .cells #[.slice A0_0 l0_0.length c0_0, .slice A0_1 l0_1.length c0_1] 25 (0, 0)) (by (with_reducible repeat (first | refine blk_drewN ?_ _ | refine blk_drew ?_ | refine blk_alloc ?_ _)); exact BK489.out) hb); have n3_ := Aside0.mk (below_step (by repeat (first | (with_reducible first | exact HB.out | apply below_alloc | apply pw_below_drewN | apply below_drew1 | refine below_set ?_ GE489.out) | exact HB.out)) hb); clear HO0_0; clear HO0_1; clear BK489; clear HB; have HO0_0 := n0_; have HO0_1 := n1_; have BK489 := n2_; have HB := n3_; clear n0_ n1_ n2_ n3_; (try clear hb); (try clear hb2); (try clear hk); (try clear hi)))
      go_meet
      case rel => exact ⟨_, (true), (by first | rfl | (simp; done) | (simp [*]; done)), H', ⟨by first | omega | exact Nat.le_refl _⟩, ⟨by (with_reducible repeat (first | apply Kd.V_alloc | apply Kd.V_drewN | apply Kd.V_drew)); exact HO0_0.out⟩, ⟨by (with_reducible repeat (first | apply Kd.V_alloc | apply Kd.V_drewN | apply Kd.V_drew)); exact HO0_1.out⟩, ⟨by (with_reducible repeat (first | refine blk_drewN ?_ _ | refine blk_drew ?_ | refine blk_alloc ?_ _)); exact BK489.out⟩, ⟨by repeat (first | (with_reducible first | exact HB.out | apply below_alloc | apply pw_below_drewN | apply below_drew1 | refine below_set ?_ GE489.out) | exact HB.out)⟩⟩
  case rest =>
    clear HC3
    try clear p2
    try clear c6
    try clear c7
    try clear c9
    try clear hcz11_0
    try clear hcz11_1
    try clear hcz8_0
    try clear hcz8_1
    try clear hfz11_0
    try clear hfz11_1
    try clear hfz8_0
    try clear hfz8_1
    obtain ⟨kq, x23_2, rfl, HA, HJ2, HO_490000, HO_490001, BK489, HB⟩ := hcut
    cases kq with
    | zero => exact absurd HA.out (by simp [flagstonelaw11_FlockShares.j0])
    | succ kj2 =>
      have H := HA.out
      clear HA
      simp only [flagstonelaw11_FlockShares.j0] at H
      by_cases c13 : x23_2 = true
      · subst c13
        have H1 : ((flagstonelaw11_shown.f kj2).bind fun t492 => (some t492)) = some r := by rw [if_pos rfl] at H; exact H
        clear H
        have H := H1
        clear H1
        replace H := Option.bind_eq_some_iff.mp H
        obtain ⟨t492, A140, H⟩ := H
        replace H : (some t492) = some r := H
        have A14 := Aside0.mk A140
        clear A140
        obtain rfl := Option.some.inj H
        go_wp2_with (first | ((with_reducible refine gate_callee (f := 10) rfl ?_); refine goesL_ (some 24) rfl rfl Try.func10 (by kernel_rfl) rfl #[] rfl (by (try simp only [List.map_toArray, List.map_cons, List.map_nil]); first | done | rfl | (simp only [List.length_drop, List.length_take]; rfl)) ?_; (with_reducible refine (flagstonelaw11_shown.calls kj2  t492 _ A14.out).mono ?_); rintro e w15 ⟨rfl, hb⟩; refine ⟨_, rfl, ?_⟩; have n0_ := Aside0.mk (Kd.V_below (by (with_reducible repeat (first | apply Kd.V_alloc | apply Kd.V_drewN | apply Kd.V_drew)); exact HO_490000.out) hb); have n1_ := Aside0.mk (Kd.V_below (by (with_reducible repeat (first | apply Kd.V_alloc | apply Kd.V_drewN | apply Kd.V_drew)); exact HO_490001.out) hb); have n2_ := Aside0.mk (blk_below (g := gb489) (o := .cells #[.slice A0_0 l0_0.length c0_0, .slice A0_1 l0_1.length c0_1] 25 (0, 0)) (by (with_reducible repeat (first | refine blk_drewN ?_ _ | refine blk_drew ?_ | refine blk_alloc ?_ _)); exact BK489.out) hb); have n3_ := Aside0.mk (below_step (by repeat (first | (with_reducible first | exact HB.out | apply below_alloc | apply pw_below_drewN | apply below_drew1 | refine below_set ?_ GE489.out) | exact HB.out)) hb); clear HO_490000; clear HO_490001; clear BK489; clear HB; have HO_490000 := n0_; have HO_490001 := n1_; have BK489 := n2_; have HB := n3_; clear n0_ n1_ n2_ n3_; (try clear hb); (try clear hb2); (try clear hk); (try clear hi)))
        go_ret
        exact ⟨by first | rfl | (simp [errW_none, errW_some] <;> rfl) | (simp [*, errW_none, errW_some] <;> rfl), by repeat (first | (with_reducible first | exact HB.out | apply below_alloc | apply pw_below_drewN | apply below_drew1 | refine below_set ?_ GE489.out) | exact HB.out)⟩
      · replace c13 := Bool.eq_false_iff.mpr c13
        subst c13
        have H1 : (flagstonelaw11_FlockShares.l0 kj2 a1 0 (-1) 0 l0_0 l0_1) = some r := by rw [if_neg (show ¬ (false = true) by decide)] at H; exact H
        clear H
        have H := H1
        clear H1
        have H' := Aside0.mk H
        clear H
        go_wp2
        go_loopg [7] kj2 (fun kq v7 w' => ∃ (x7_2 : Int) (x490000_2 : List (S44)) (x490001_2 : List (List Int)) (u490000 : Value) (u490001 : Value), v7 = .int .i64 x7_2 ∧ Aside0 (flagstonelaw11_FlockShares.l0 kq a1 0 (-1) x7_2 x490000_2 x490001_2 = some r) ∧ Aside0 (kq ≤ kj2) ∧ Aside0 (Kd.V k44 44 w' w.heap.size (fun k_ => ((P0_0_ k_ ∨ P0_1_ k_) ∨ w.heap.size ≤ k_) ∧ k_ ≠ gb489) u490000 x490000_2) ∧ Aside0 (Kd.V (Kd.slice 3 (Kd.int .i64)) 48 w' w.heap.size (fun k_ => ((P0_0_ k_ ∨ P0_1_ k_) ∨ w.heap.size ≤ k_) ∧ k_ ≠ gb489) u490001 x490001_2) ∧ Aside0 (w'.heap[gb489]? = some (.cells #[u490000, u490001] 25 (0, 0))) ∧ Aside0 (Below w.heap.size w w'))
        case atStart => exact ⟨(0), (l0_0), (l0_1), (.slice A0_0 l0_0.length c0_0), (.slice A0_1 l0_1.length c0_1), (by first | rfl | (simp; done) | (simp [*]; done)), H', ⟨Nat.le_refl _⟩, ⟨by (with_reducible repeat (first | apply Kd.V_alloc | apply Kd.V_drewN | apply Kd.V_drew)); exact HO_490000.out⟩, ⟨by (with_reducible repeat (first | apply Kd.V_alloc | apply Kd.V_drewN | apply Kd.V_drew)); exact HO_490001.out⟩, ⟨by (with_reducible repeat (first | refine blk_drewN ?_ _ | refine blk_drew ?_ | refine blk_alloc ?_ _)); exact BK489.out⟩, ⟨by repeat (first | (with_reducible first | exact HB.out | apply below_alloc | apply pw_below_drewN | apply below_drew1 | refine below_set ?_ GE489.out) | exact HB.out)⟩⟩
        case round =>
          clear H'
          try clear c1
          try clear p2
          try clear c6
          try clear c7
          try clear c9
          try clear c10
          try clear c13
          try clear hcz11_0
          try clear hcz11_1
          try clear hcz8_0
          try clear hcz8_1
          try clear hfz11_0
          try clear hfz11_1
          try clear hfz8_0
          try clear hfz8_1
          try clear p2
          obtain ⟨x7_2, x490000_2, x490001_2, u490000, u490001, rfl, HA, HK2, HO_490000, HO_490001, BK489, HB⟩ := hrel
          cases gk with
          | zero => exact absurd HA.out (by simp [flagstonelaw11_FlockShares.l0])
          | succ k2 =>
            have H := HA.out
            clear HA
            simp only [flagstonelaw11_FlockShares.l0] at H
            by_cases c16 : x7_2 < (x490000_2.length : Int)
            · rw [if_pos c16] at H
              have c16b0 : decide (x7_2 < (x490000_2.length : Int)) = true := decide_eq_true c16
              clear c16
              have HC17 := Aside0.mk H
              clear H
              have hcz18_0 : wr.cell? ⟨gb489, 0, none⟩ = some (u490000) := (blk_cell BK489.out 0).trans rfl
              have hcz18_1 : wr.cell? ⟨gb489, 1, none⟩ = some (u490001) := (blk_cell BK489.out 1).trans rfl
              have hfz18_0 := blk_frozen BK489.out 0
              have hfz18_1 := blk_frozen BK489.out 1
              obtain ⟨Ao19, co19, eo19⟩ := Kd.V_slice HO_490000.out
              subst eo19
              go_upto_region 8 with (fail)
              go_cut [48] (fun v48 wc => ∃ (kq : Nat) (x48_16 : Bool), v48 = .bool x48_16 ∧ Aside0 (flagstonelaw11_FlockShares.j2 kq a1 0 (-1) x7_2 x48_16 x490000_2 x490001_2 = some r) ∧ Aside0 (kq ≤ k2) ∧ Aside0 (Kd.V k44 44 wc w.heap.size (fun k_ => ((P0_0_ k_ ∨ P0_1_ k_) ∨ w.heap.size ≤ k_) ∧ k_ ≠ gb489) (.slice Ao19 x490000_2.length co19) x490000_2) ∧ Aside0 (Kd.V (Kd.slice 3 (Kd.int .i64)) 48 wc w.heap.size (fun k_ => ((P0_0_ k_ ∨ P0_1_ k_) ∨ w.heap.size ≤ k_) ∧ k_ ≠ gb489) u490001 x490001_2) ∧ Aside0 (wc.heap[gb489]? = some (.cells #[(.slice Ao19 x490000_2.length co19), u490001] 25 (0, 0))) ∧ Aside0 (Below w.heap.size w wc))
              case first =>
                have H := HC17.out
                clear HC17
                by_cases c20 : 0 ≤ x7_2
                · rw [if_pos c20] at H
                  have c20b0 : decide (0 ≤ x7_2) = true := decide_eq_true c20
                  clear c20
                  (first | rw [c20b0] | (simp only [i64_w, i32_w]; rw [c20b0]) | skip)
                  by_cases c21 : ((rd_T44 x490000_2 x7_2).f4) > 0
                  · rw [if_pos c21] at H
                    have c21b0 : decide (0 < ((rd_T44 x490000_2 x7_2).f4)) = true := decide_eq_true c21
                    clear c21
                    have H' := Aside0.mk H
                    clear H
                    have hcz22_0 : wr.cell? ⟨gb489, 0, none⟩ = some (.slice Ao19 x490000_2.length co19) := (blk_cell BK489.out 0).trans rfl
                    have hcz22_1 : wr.cell? ⟨gb489, 1, none⟩ = some (u490001) := (blk_cell BK489.out 1).trans rfl
                    have hfz22_0 := blk_frozen BK489.out 0
                    have hfz22_1 := blk_frozen BK489.out 1
                    have p493 : 0 ≤ (x7_2 : Int) := of_decide_eq_true (by first | (with_reducible assumption) | assumption)
                    have q493 : x7_2 < (x490000_2.length : Int) := of_decide_eq_true (by first | (with_reducible assumption) | assumption)
                    obtain ⟨ad493, e493, hx493_0, hx493_1, hx493_2, hx493_3, hx493_4, hx493_5⟩ := at_T44 (Kd.V_reads' HO_490000.out).2.2 x7_2 p493 q493
                    cases e493
                    replace p493 := eq_true p493
                    replace q493 := eq_true q493
                    have p494 : 0 ≤ (x7_2 : Int) := of_decide_eq_true (by first | (with_reducible assumption) | assumption)
                    have q494 : x7_2 < (x490000_2.length : Int) := of_decide_eq_true (by first | (with_reducible assumption) | assumption)
                    obtain ⟨ad494, e494, hx494_0, hx494_1, hx494_2, hx494_3, hx494_4, hx494_5⟩ := at_T44 (Kd.V_reads' HO_490000.out).2.2 x7_2 p494 q494
                    obtain rfl : ad493 = ad494 := (by injection e494)
                    replace p494 := eq_true p494
                    replace q494 := eq_true q494
                    go_wp2
                    go_meet
                    case rel => exact ⟨_, ((((rd_T44 x490000_2 x7_2).f0) == a1)), (by first | rfl | (simp; done) | (simp [*]; done)), H', ⟨by have := HJ2.out; have := HK2.out; first | omega | exact Nat.le_refl _⟩, ⟨by (with_reducible repeat (first | apply Kd.V_alloc | apply Kd.V_drewN | apply Kd.V_drew)); exact HO_490000.out⟩, ⟨by (with_reducible repeat (first | apply Kd.V_alloc | apply Kd.V_drewN | apply Kd.V_drew)); exact HO_490001.out⟩, ⟨by (with_reducible repeat (first | refine blk_drewN ?_ _ | refine blk_drew ?_ | refine blk_alloc ?_ _)); exact BK489.out⟩, ⟨by repeat (first | (with_reducible first | exact HB.out | apply below_alloc | apply pw_below_drewN | apply below_drew1 | refine below_set ?_ GE489.out) | exact HB.out)⟩⟩
                  · rw [if_neg c21] at H
                    have c21b0 : decide (0 < ((rd_T44 x490000_2 x7_2).f4)) = false := decide_eq_false c21
                    clear c21
                    have H' := Aside0.mk H
                    clear H
                    have hcz23_0 : wr.cell? ⟨gb489, 0, none⟩ = some (.slice Ao19 x490000_2.length co19) := (blk_cell BK489.out 0).trans rfl
                    have hcz23_1 : wr.cell? ⟨gb489, 1, none⟩ = some (u490001) := (blk_cell BK489.out 1).trans rfl
                    have hfz23_0 := blk_frozen BK489.out 0
                    have hfz23_1 := blk_frozen BK489.out 1
                    have p493 : 0 ≤ (x7_2 : Int) := of_decide_eq_true (by first | (with_reducible assumption) | assumption)
                    have q493 : x7_2 < (x490000_2.length : Int) := of_decide_eq_true (by first | (with_reducible assumption) | assumption)
                    obtain ⟨ad493, e493, hx493_0, hx493_1, hx493_2, hx493_3, hx493_4, hx493_5⟩ := at_T44 (Kd.V_reads' HO_490000.out).2.2 x7_2 p493 q493
                    cases e493
                    replace p493 := eq_true p493
                    replace q493 := eq_true q493
                    go_wp2
                    go_meet
                    case rel => exact ⟨_, (false), (by first | rfl | (simp; done) | (simp [*]; done)), H', ⟨by have := HJ2.out; have := HK2.out; first | omega | exact Nat.le_refl _⟩, ⟨by (with_reducible repeat (first | apply Kd.V_alloc | apply Kd.V_drewN | apply Kd.V_drew)); exact HO_490000.out⟩, ⟨by (with_reducible repeat (first | apply Kd.V_alloc | apply Kd.V_drewN | apply Kd.V_drew)); exact HO_490001.out⟩, ⟨by (with_reducible repeat (first | refine blk_drewN ?_ _ | refine blk_drew ?_ | refine blk_alloc ?_ _)); exact BK489.out⟩, ⟨by repeat (first | (with_reducible first | exact HB.out | apply below_alloc | apply pw_below_drewN | apply below_drew1 | refine below_set ?_ GE489.out) | exact HB.out)⟩⟩
                · rw [if_neg c20] at H
                  exact absurd H (by simp)
              case rest =>
                clear HC17
                try clear c1
                try clear c2
                try clear p2
                try clear p4
                try clear q4
                try clear hx4
                try clear c6
                try clear c7
                try clear c9
                try clear c10
                try clear c13
                try clear c16
                try clear c16b0
                try clear c20
                try clear c20b0
                try clear c21
                try clear c21b0
                try clear hcz11_0
                try clear hcz11_1
                try clear hcz18_0
                try clear hcz18_1
                try clear hcz22_0
                try clear hcz22_1
                try clear hcz23_0
                try clear hcz23_1
                try clear hcz8_0
                try clear hcz8_1
                try clear hfz11_0
                try clear hfz11_1
                try clear hfz18_0
                try clear hfz18_1
                try clear hfz22_0
                try clear hfz22_1
                try clear hfz23_0
                try clear hfz23_1
                try clear hfz8_0
                try clear hfz8_1
                try clear hx493_0
                try clear hx493_1
                try clear hx493_2
                try clear hx493_3
                try clear hx493_4
                try clear hx493_5
                try clear hx494_0
                try clear hx494_1
                try clear hx494_2
                try clear hx494_3
                try clear hx494_4
                try clear hx494_5
                try clear p2
                try clear p493
                try clear p494
                try clear q493
                try clear q494
                obtain ⟨kq, x48_16, rfl, HA, HJ16, HO_490000, HO_490001, BK489, HB⟩ := hcut
                cases kq with
                | zero => exact absurd HA.out (by simp [flagstonelaw11_FlockShares.j2])
                | succ kj16 =>
                  have H := HA.out
                  clear HA
                  simp only [flagstonelaw11_FlockShares.j2] at H
                  by_cases c24 : x48_16 = true
                  · subst c24
                    have H1 : ((flock_Lock.f x490000_2 x490001_2 x7_2 0).bind fun bt495 => (if bt495.2.2 = 0 then (if (bt495.1.length : Int) = (x490000_2.length : Int) then (flagstonelaw11_FlockShares.l0 kj16 a1 0 (-1) (wrap64 (x7_2 + 1)) bt495.1 bt495.2.1) else (none)) else (none))) = some r := by rw [if_pos rfl] at H; exact H
                    clear H
                    have H := H1
                    clear H1
                    replace H := Option.bind_eq_some_iff.mp H
                    obtain ⟨⟨t495, t498, t501⟩, A250, H⟩ := H
                    replace H : (if t501 = 0 then (if (t495.length : Int) = (x490000_2.length : Int) then (flagstonelaw11_FlockShares.l0 kj16 a1 0 (-1) (wrap64 (x7_2 + 1)) t495 t498) else (none)) else (none)) = some r := H
                    have A25 := Aside0.mk A250
                    clear A250
                    by_cases c26 : t501 = 0
                    · rw [if_pos c26] at H
                      have c26b0 : (t501 == 0) = true := beq_iff_eq.mpr c26
                      have c26b1 : (t501 != 0) = false := bne_eq_false_iff_eq.mpr c26
                      clear c26
                      by_cases c27 : (t495.length : Int) = (x490000_2.length : Int)
                      · rw [if_pos c27] at H
                        have c27b0 : ((t495.length : Int) == (x490000_2.length : Int)) = true := beq_iff_eq.mpr c27
                        have c27b1 : ((t495.length : Int) != (x490000_2.length : Int)) = false := bne_eq_false_iff_eq.mpr c27
                        have c27b2 : (t495.length == x490000_2.length) = true := by first | simpa using c27 | (simp at c27 ⊢; omega)
                        clear c27
                        have H' := Aside0.mk H
                        clear H
                        have hcz28_0 : wc.cell? ⟨gb489, 0, none⟩ = some (.slice Ao19 x490000_2.length co19) := (blk_cell BK489.out 0).trans rfl
                        have hcz28_1 : wc.cell? ⟨gb489, 1, none⟩ = some (u490001) := (blk_cell BK489.out 1).trans rfl
                        have hfz28_0 := blk_frozen BK489.out 0
                        have hfz28_1 := blk_frozen BK489.out 1
                        obtain ⟨Ao29, co29, eo29⟩ := Kd.V_slice HO_490001.out
                        subst eo29
                        go_wp2_with (first | ((with_reducible refine gate_callee (f := 11) rfl ?_); refine goesL_ (some 52) rfl rfl Try.func11 (by kernel_rfl) rfl #[.agg #[.slice Ao19 x490000_2.length co19, .slice Ao29 x490001_2.length co29], .int .i64 x7_2, .int .i64 0] rfl (by (try simp only [List.map_toArray, List.map_cons, List.map_nil]); first | done | rfl | (simp only [List.length_drop, List.length_take]; rfl)) ?_; (with_reducible refine (flock_Lock.calls (fun k_ => (((P0_0_ k_ ∨ P0_1_ k_) ∨ w.heap.size ≤ k_) ∧ k_ ≠ gb489)) _ _ x490000_2 (fun k_ => (((P0_0_ k_ ∨ P0_1_ k_) ∨ w.heap.size ≤ k_) ∧ k_ ≠ gb489)) _ _ x490001_2 x7_2 0 t495 t498 t501 _ ?side1 ?side2 A25.out).mono ?_); (case side1 => exact HO_490000.out); (case side2 => exact HO_490001.out); rintro e w30 ⟨v496, v499, rfl, ho0, ho1, hb⟩; refine ⟨_, rfl, ?_⟩; have n0_ := Aside0.mk (Kd.V_below (by (with_reducible repeat (first | apply Kd.V_alloc | apply Kd.V_drewN | apply Kd.V_drew)); exact HO_490000.out) hb); have n1_ := Aside0.mk (Kd.V_below (by (with_reducible repeat (first | apply Kd.V_alloc | apply Kd.V_drewN | apply Kd.V_drew)); exact HO_490001.out) hb); have n2_ := Aside0.mk (Kd.V_lower (Kd.V_mono (ok' := fun k_ => ((P0_0_ k_ ∨ P0_1_ k_) ∨ w.heap.size ≤ k_) ∧ k_ ≠ gb489) ho0 (fun k_ hk_ => ⟨Or.elim hk_ (fun hs_ => Or.elim hs_ (fun hs_ => hs_.1) (fun hs_ => hs_.1)) (fun hn_ => (.inr (Nat.le_trans (below_size (by repeat (first | (with_reducible first | exact HB.out | apply below_alloc | apply pw_below_drewN | apply below_drew1 | refine below_set ?_ GE489.out) | exact HB.out))) hn_))), Or.elim hk_ (fun hs_ => Or.elim hs_ (fun hs_ => hs_.2) (fun hs_ => hs_.2)) (fun hn_ => (Kd.freshB (g := gb489) (o := .cells #[.slice Ao19 x490000_2.length co19, .slice Ao29 x490001_2.length co29] 25 (0, 0)) (by (with_reducible repeat (first | refine blk_drewN ?_ _ | refine blk_drew ?_ | refine blk_alloc ?_ _)); exact BK489.out) k_ hn_))⟩)) (below_size (by repeat (first | (with_reducible first | exact HB.out | apply below_alloc | apply pw_below_drewN | apply below_drew1 | refine below_set ?_ GE489.out) | exact HB.out)))); have n3_ := Aside0.mk (Kd.V_lower (Kd.V_mono (ok' := fun k_ => ((P0_0_ k_ ∨ P0_1_ k_) ∨ w.heap.size ≤ k_) ∧ k_ ≠ gb489) ho1 (fun k_ hk_ => ⟨Or.elim hk_ (fun hs_ => Or.elim hs_ (fun hs_ => hs_.1) (fun hs_ => hs_.1)) (fun hn_ => (.inr (Nat.le_trans (below_size (by repeat (first | (with_reducible first | exact HB.out | apply below_alloc | apply pw_below_drewN | apply below_drew1 | refine below_set ?_ GE489.out) | exact HB.out))) hn_))), Or.elim hk_ (fun hs_ => Or.elim hs_ (fun hs_ => hs_.2) (fun hs_ => hs_.2)) (fun hn_ => (Kd.freshB (g := gb489) (o := .cells #[.slice Ao19 x490000_2.length co19, .slice Ao29 x490001_2.length co29] 25 (0, 0)) (by (with_reducible repeat (first | refine blk_drewN ?_ _ | refine blk_drew ?_ | refine blk_alloc ?_ _)); exact BK489.out) k_ hn_))⟩)) (below_size (by repeat (first | (with_reducible first | exact HB.out | apply below_alloc | apply pw_below_drewN | apply below_drew1 | refine below_set ?_ GE489.out) | exact HB.out)))); have n4_ := Aside0.mk (blk_below (g := gb489) (o := .cells #[.slice Ao19 x490000_2.length co19, .slice Ao29 x490001_2.length co29] 25 (0, 0)) (by (with_reducible repeat (first | refine blk_drewN ?_ _ | refine blk_drew ?_ | refine blk_alloc ?_ _)); exact BK489.out) hb); have n5_ := Aside0.mk (below_step (by repeat (first | (with_reducible first | exact HB.out | apply below_alloc | apply pw_below_drewN | apply below_drew1 | refine below_set ?_ GE489.out) | exact HB.out)) hb); clear HO_490000; clear HO_490001; clear BK489; clear HB; have HO_490000 := n0_; have HO_490001 := n1_; have HO497 := n2_; have HO500 := n3_; have BK489 := n4_; have HB := n5_; clear n0_ n1_ n2_ n3_ n4_ n5_; (try clear hb); (try clear hb2); (try clear hk); (try clear hi); (try clear ho0); (try clear ho1)) | ((with_reducible refine gate_dst (N := 8) rfl ?_); (try (refine gate_guard (by rfl) ?_; dsimp only)); refine box_event ?hg (N := 8) ?hd (cs := #[.slice none 0 0, .slice none 0 0]) (t := 25) ?hr ?_; (case hd => rfl); (case hg => rfl); (case hr => first | (go_simp; done) | (go_simp; rfl)); intro gb502 hg w31 hbox hb; have n0_ := Aside0.mk (Kd.V_below (Kd.V_elderB (by (with_reducible repeat (first | apply Kd.V_alloc | apply Kd.V_drewN | apply Kd.V_drew)); exact HO_490000.out) gb502 (Nat.le_of_eq hg.symm)) hb); have n1_ := Aside0.mk (Kd.V_below (Kd.V_elderB (by (with_reducible repeat (first | apply Kd.V_alloc | apply Kd.V_drewN | apply Kd.V_drew)); exact HO_490001.out) gb502 (Nat.le_of_eq hg.symm)) hb); have n2_ := Aside0.mk (Kd.V_below (Kd.V_elderB (by (with_reducible repeat (first | apply Kd.V_alloc | apply Kd.V_drewN | apply Kd.V_drew)); exact HO497.out) gb502 (Nat.le_of_eq hg.symm)) hb); have n3_ := Aside0.mk (Kd.V_below (Kd.V_elderB (by (with_reducible repeat (first | apply Kd.V_alloc | apply Kd.V_drewN | apply Kd.V_drew)); exact HO500.out) gb502 (Nat.le_of_eq hg.symm)) hb); have n4_ := Aside0.mk (blk_below (g := gb489) (o := .cells #[.slice Ao19 x490000_2.length co19, .slice Ao29 x490001_2.length co29] 25 (0, 0)) (by (with_reducible repeat (first | refine blk_drewN ?_ _ | refine blk_drew ?_ | refine blk_alloc ?_ _)); exact BK489.out) hb); have n5_ := Aside0.mk (below_step (by repeat (first | (with_reducible first | exact HB.out | apply below_alloc | apply pw_below_drewN | apply below_drew1 | refine below_set ?_ GE489.out) | exact HB.out)) hb); have n6_ := Aside0.mk (hbox); have n7_ := Aside0.mk ((by rw [hg]; exact (below_size (by repeat (first | (with_reducible first | exact HB.out | apply below_alloc | apply pw_below_drewN | apply below_drew1 | refine below_set ?_ GE489.out) | exact HB.out))) : w.heap.size ≤ gb502)); have n8_ := Aside0.mk ((by rw [hg]; exact (below_size (by repeat (first | (with_reducible first | exact HB.out | apply below_alloc | apply pw_below_drewN | apply below_drew1 | refine below_set ?_ GE489.out) | exact HB.out))) : w.heap.size ≤ gb502)); have n9_ := Aside0.mk ((by rw [hg]; exact Nat.ne_of_lt (blk_lt (g := gb489) (o := .cells #[.slice Ao19 x490000_2.length co19, .slice Ao29 x490001_2.length co29] 25 (0, 0)) (by (with_reducible repeat (first | refine blk_drewN ?_ _ | refine blk_drew ?_ | refine blk_alloc ?_ _)); exact BK489.out)) : gb489 ≠ gb502)); have n10_ := Aside0.mk ((by rw [hg]; exact Nat.ne_of_gt (blk_lt (g := gb489) (o := .cells #[.slice Ao19 x490000_2.length co19, .slice Ao29 x490001_2.length co29] 25 (0, 0)) (by (with_reducible repeat (first | refine blk_drewN ?_ _ | refine blk_drew ?_ | refine blk_alloc ?_ _)); exact BK489.out)) : gb502 ≠ gb489)); clear HO_490000; clear HO_490001; clear HO497; clear HO500; clear BK489; clear HB; have HO_490000 := n0_; have HO_490001 := n1_; have HO497 := n2_; have HO500 := n3_; have BK489 := n4_; have HB := n5_; have BK502 := n6_; have GW502 := n7_; have GE502 := n8_; have NB489_502 := n9_; have NB502_489 := n10_; clear n0_ n1_ n2_ n3_ n4_ n5_ n6_ n7_ n8_ n9_ n10_; clear hb hbox hg; obtain ⟨Ao32, co32, eo32⟩ := Kd.V_slice HO497.out; subst eo32; have hnb33 := NB502_489.out; have hnc33 := NB489_502.out; have hcz34_0 : w31.cell? ⟨gb502, 0, none⟩ = some (.slice none 0 0) := (blk_cell BK502.out 0).trans rfl; have hcz34_1 : w31.cell? ⟨gb502, 1, none⟩ = some (.slice none 0 0) := (blk_cell BK502.out 1).trans rfl; have hfz34_0 := blk_frozen BK502.out 0; have hfz34_1 := blk_frozen BK502.out 1; obtain ⟨Ao35, co35, eo35⟩ := Kd.V_slice HO500.out; subst eo35; have hcz36_0 : w31.cell? ⟨gb489, 0, none⟩ = some (.slice Ao19 x490000_2.length co19) := (blk_cell BK489.out 0).trans rfl; have hcz36_1 : w31.cell? ⟨gb489, 1, none⟩ = some (.slice Ao29 x490001_2.length co29) := (blk_cell BK489.out 1).trans rfl; have hfz36_0 := blk_frozen BK489.out 0; have hfz36_1 := blk_frozen BK489.out 1))
                        go_roundg kj16
                        case measure => have := HJ2.out; have := HK2.out; have := HJ16.out; omega
                        case rel => exact ⟨(wrap64 (x7_2 + 1)), (t495), (t498), (.slice Ao32 t495.length co32), (.slice Ao35 t498.length co35), (by first | rfl | (simp; done) | (simp [*]; done)), H', ⟨by have := HJ2.out; have := HK2.out; have := HJ16.out; omega⟩, ⟨by (with_reducible repeat (first | apply Kd.V_alloc | apply Kd.V_drewN | apply Kd.V_drew)); exact Kd.V_mono (Kd.V_far (p := ⟨gb489, 1, none⟩) (Kd.V_far (p := ⟨gb489, 0, none⟩) (Kd.V_far (p := ⟨gb502, 1, none⟩) (Kd.V_far (p := ⟨gb502, 0, none⟩) (Kd.V_mono (Kd.V_mono HO497.out (fun k_ hk => (⟨hk, hk.2⟩ : _ ∧ k_ ≠ gb502))) (fun k_ hk => (⟨hk, hk.1.1.2⟩ : _ ∧ k_ ≠ gb489))) (fun _ hk => hk.1.2) (.slice Ao32 t495.length co32)) (fun _ hk => hk.1.2) (.slice Ao35 t498.length co35)) (fun _ hk => hk.2) (.slice Ao32 t495.length co32)) (fun _ hk => hk.2) (.slice Ao35 t498.length co35)) (fun _ hk => ⟨hk.1.1.1.1, hk.1.1.1.2⟩)⟩, ⟨by (with_reducible repeat (first | apply Kd.V_alloc | apply Kd.V_drewN | apply Kd.V_drew)); exact Kd.V_mono (Kd.V_far (p := ⟨gb489, 1, none⟩) (Kd.V_far (p := ⟨gb489, 0, none⟩) (Kd.V_far (p := ⟨gb502, 1, none⟩) (Kd.V_far (p := ⟨gb502, 0, none⟩) (Kd.V_mono (Kd.V_mono HO500.out (fun k_ hk => (⟨hk, hk.2⟩ : _ ∧ k_ ≠ gb502))) (fun k_ hk => (⟨hk, hk.1.1.2⟩ : _ ∧ k_ ≠ gb489))) (fun _ hk => hk.1.2) (.slice Ao32 t495.length co32)) (fun _ hk => hk.1.2) (.slice Ao35 t498.length co35)) (fun _ hk => hk.2) (.slice Ao32 t495.length co32)) (fun _ hk => hk.2) (.slice Ao35 t498.length co35)) (fun _ hk => ⟨hk.1.1.1.1, hk.1.1.1.2⟩)⟩, ⟨by (with_reducible repeat (first | refine blk_drewN ?_ _ | refine blk_drew ?_ | refine blk_alloc ?_ _)); refine blk_put (cs := #[.slice Ao32 t495.length co32, .slice Ao29 x490001_2.length co29]) ?_ 1 _ rfl; (with_reducible repeat (first | refine blk_drewN ?_ _ | refine blk_drew ?_ | refine blk_alloc ?_ _)); refine blk_put (cs := #[.slice Ao19 x490000_2.length co19, .slice Ao29 x490001_2.length co29]) ?_ 0 _ rfl; (with_reducible repeat (first | refine blk_drewN ?_ _ | refine blk_drew ?_ | refine blk_alloc ?_ _)); refine blk_far ?_ NB489_502.out _; (with_reducible repeat (first | refine blk_drewN ?_ _ | refine blk_drew ?_ | refine blk_alloc ?_ _)); refine blk_far ?_ NB489_502.out _; (with_reducible repeat (first | refine blk_drewN ?_ _ | refine blk_drew ?_ | refine blk_alloc ?_ _)); exact BK489.out⟩, ⟨by repeat (first | (with_reducible first | exact HB.out | apply below_alloc | apply pw_below_drewN | apply below_drew1 | refine below_set ?_ GE489.out | refine below_set ?_ GE502.out) | exact HB.out)⟩⟩
                      · rw [if_neg c27] at H
                        exact absurd H (by simp)
                    · rw [if_neg c26] at H
                      exact absurd H (by simp)
                  · replace c24 := Bool.eq_false_iff.mpr c24
                    subst c24
                    have H1 : (flagstonelaw11_FlockShares.l0 kj16 a1 0 (-1) (wrap64 (x7_2 + 1)) x490000_2 x490001_2) = some r := by rw [if_neg (show ¬ (false = true) by decide)] at H; exact H
                    clear H
                    have H := H1
                    clear H1
                    have H' := Aside0.mk H
                    clear H
                    go_wp2
                    go_roundg kj16
                    case measure => have := HJ2.out; have := HK2.out; have := HJ16.out; omega
                    case rel => exact ⟨(wrap64 (x7_2 + 1)), (x490000_2), (x490001_2), (.slice Ao19 x490000_2.length co19), (u490001), (by first | rfl | (simp; done) | (simp [*]; done)), H', ⟨by have := HJ2.out; have := HK2.out; have := HJ16.out; omega⟩, ⟨by (with_reducible repeat (first | apply Kd.V_alloc | apply Kd.V_drewN | apply Kd.V_drew)); exact HO_490000.out⟩, ⟨by (with_reducible repeat (first | apply Kd.V_alloc | apply Kd.V_drewN | apply Kd.V_drew)); exact HO_490001.out⟩, ⟨by (with_reducible repeat (first | refine blk_drewN ?_ _ | refine blk_drew ?_ | refine blk_alloc ?_ _)); exact BK489.out⟩, ⟨by repeat (first | (with_reducible first | exact HB.out | apply below_alloc | apply pw_below_drewN | apply below_drew1 | refine below_set ?_ GE489.out) | exact HB.out)⟩⟩
            · rw [if_neg c16] at H
              have c16b0 : decide (x7_2 < (x490000_2.length : Int)) = false := decide_eq_false c16
              clear c16
              have H' := Aside0.mk H
              clear H
              have hcz37_0 : wr.cell? ⟨gb489, 0, none⟩ = some (u490000) := (blk_cell BK489.out 0).trans rfl
              have hcz37_1 : wr.cell? ⟨gb489, 1, none⟩ = some (u490001) := (blk_cell BK489.out 1).trans rfl
              have hfz37_0 := blk_frozen BK489.out 0
              have hfz37_1 := blk_frozen BK489.out 1
              obtain ⟨Ao38, co38, eo38⟩ := Kd.V_slice HO_490000.out
              subst eo38
              go_wp2
              go_loopg [5, 6, 10] k2 (fun kq v5 v6 v10 w' => ∃ (x5_3 : Int) (x6_3 : Int) (x10_3 : Int) (x490000_3 : List (S44)) (x490001_3 : List (List Int)) (u490000 : Value) (u490001 : Value), v5 = .int .i64 x5_3 ∧ v6 = .int .i64 x6_3 ∧ v10 = .int .i64 x10_3 ∧ Aside0 (flagstonelaw11_FlockShares.l1 kq a1 x5_3 x6_3 x10_3 x490000_3 x490001_3 = some r) ∧ Aside0 (kq ≤ k2) ∧ Aside0 (Kd.V k44 44 w' w.heap.size (fun k_ => ((P0_0_ k_ ∨ P0_1_ k_) ∨ w.heap.size ≤ k_) ∧ k_ ≠ gb489) u490000 x490000_3) ∧ Aside0 (Kd.V (Kd.slice 3 (Kd.int .i64)) 48 w' w.heap.size (fun k_ => ((P0_0_ k_ ∨ P0_1_ k_) ∨ w.heap.size ≤ k_) ∧ k_ ≠ gb489) u490001 x490001_3) ∧ Aside0 (w'.heap[gb489]? = some (.cells #[u490000, u490001] 25 (0, 0))) ∧ Aside0 (Below w.heap.size w w'))
              case atStart => exact ⟨(0), ((-1)), (0), (x490000_2), (x490001_2), (.slice Ao38 x490000_2.length co38), (u490001), (by first | rfl | (simp; done) | (simp [*]; done)), (by first | rfl | (simp; done) | (simp [*]; done)), (by first | rfl | (simp; done) | (simp [*]; done)), H', ⟨Nat.le_refl _⟩, ⟨by (with_reducible repeat (first | apply Kd.V_alloc | apply Kd.V_drewN | apply Kd.V_drew)); exact HO_490000.out⟩, ⟨by (with_reducible repeat (first | apply Kd.V_alloc | apply Kd.V_drewN | apply Kd.V_drew)); exact HO_490001.out⟩, ⟨by (with_reducible repeat (first | refine blk_drewN ?_ _ | refine blk_drew ?_ | refine blk_alloc ?_ _)); exact BK489.out⟩, ⟨by repeat (first | (with_reducible first | exact HB.out | apply below_alloc | apply pw_below_drewN | apply below_drew1 | refine below_set ?_ GE489.out) | exact HB.out)⟩⟩
              case round =>
                clear H'
                try clear c1
                try clear c2
                try clear p2
                try clear c3
                try clear p4
                try clear q4
                try clear hx4
                try clear c6
                try clear p6
                try clear c7
                try clear c9
                try clear c10
                try clear c11
                try clear c13
                try clear c16
                try clear c16b0
                try clear c20
                try clear c20b0
                try clear c21
                try clear c21b0
                try clear c24
                try clear c26
                try clear c26b0
                try clear c26b1
                try clear c27
                try clear c27b0
                try clear c27b1
                try clear c27b2
                try clear c33
                try clear hcz11_0
                try clear hcz11_1
                try clear hcz18_0
                try clear hcz18_1
                try clear hcz22_0
                try clear hcz22_1
                try clear hcz23_0
                try clear hcz23_1
                try clear hcz28_0
                try clear hcz28_1
                try clear hcz34_0
                try clear hcz34_1
                try clear hcz36_0
                try clear hcz36_1
                try clear hcz37_0
                try clear hcz37_1
                try clear hcz8_0
                try clear hcz8_1
                try clear hfz11_0
                try clear hfz11_1
                try clear hfz18_0
                try clear hfz18_1
                try clear hfz22_0
                try clear hfz22_1
                try clear hfz23_0
                try clear hfz23_1
                try clear hfz28_0
                try clear hfz28_1
                try clear hfz34_0
                try clear hfz34_1
                try clear hfz36_0
                try clear hfz36_1
                try clear hfz37_0
                try clear hfz37_1
                try clear hfz8_0
                try clear hfz8_1
                try clear hx493_0
                try clear hx493_1
                try clear hx493_2
                try clear hx493_3
                try clear hx493_4
                try clear hx493_5
                try clear hx494_0
                try clear hx494_1
                try clear hx494_2
                try clear hx494_3
                try clear hx494_4
                try clear hx494_5
                try clear p2
                try clear p4
                try clear p493
                try clear p494
                try clear q4
                try clear q493
                try clear q494
                obtain ⟨x5_3, x6_3, x10_3, x490000_3, x490001_3, u490000, u490001, rfl, rfl, rfl, HA, HK3, HO_490000, HO_490001, BK489, HB⟩ := hrel
                cases gk with
                | zero => exact absurd HA.out (by simp [flagstonelaw11_FlockShares.l1])
                | succ k3 =>
                  have H := HA.out
                  clear HA
                  simp only [flagstonelaw11_FlockShares.l1] at H
                  by_cases c39 : x10_3 < (x490000_3.length : Int)
                  · rw [if_pos c39] at H
                    have c39b0 : decide (x10_3 < (x490000_3.length : Int)) = true := decide_eq_true c39
                    clear c39
                    have HC40 := Aside0.mk H
                    clear H
                    have hcz41_0 : wr.cell? ⟨gb489, 0, none⟩ = some (u490000) := (blk_cell BK489.out 0).trans rfl
                    have hcz41_1 : wr.cell? ⟨gb489, 1, none⟩ = some (u490001) := (blk_cell BK489.out 1).trans rfl
                    have hfz41_0 := blk_frozen BK489.out 0
                    have hfz41_1 := blk_frozen BK489.out 1
                    obtain ⟨Ao42, co42, eo42⟩ := Kd.V_slice HO_490000.out
                    subst eo42
                    go_upto_region 16 with (fail)
                    go_cut [90] (fun v90 wc => ∃ (kq : Nat) (x90_39 : Bool), v90 = .bool x90_39 ∧ Aside0 (flagstonelaw11_FlockShares.j4 kq a1 x5_3 x6_3 x10_3 x90_39 x490000_3 x490001_3 = some r) ∧ Aside0 (kq ≤ k3) ∧ Aside0 (Kd.V k44 44 wc w.heap.size (fun k_ => ((P0_0_ k_ ∨ P0_1_ k_) ∨ w.heap.size ≤ k_) ∧ k_ ≠ gb489) (.slice Ao42 x490000_3.length co42) x490000_3) ∧ Aside0 (Kd.V (Kd.slice 3 (Kd.int .i64)) 48 wc w.heap.size (fun k_ => ((P0_0_ k_ ∨ P0_1_ k_) ∨ w.heap.size ≤ k_) ∧ k_ ≠ gb489) u490001 x490001_3) ∧ Aside0 (wc.heap[gb489]? = some (.cells #[(.slice Ao42 x490000_3.length co42), u490001] 25 (0, 0))) ∧ Aside0 (Below w.heap.size w wc))
                    case first =>
                      have H := HC40.out
                      clear HC40
                      by_cases c43 : 0 ≤ x10_3
                      · rw [if_pos c43] at H
                        have c43b0 : decide (0 ≤ x10_3) = true := decide_eq_true c43
                        clear c43
                        (first | rw [c43b0] | (simp only [i64_w, i32_w]; rw [c43b0]) | skip)
                        by_cases c44 : ((rd_T44 x490000_3 x10_3).f4) > 0
                        · rw [if_pos c44] at H
                          have c44b0 : decide (0 < ((rd_T44 x490000_3 x10_3).f4)) = true := decide_eq_true c44
                          clear c44
                          have H' := Aside0.mk H
                          clear H
                          have hcz45_0 : wr.cell? ⟨gb489, 0, none⟩ = some (.slice Ao42 x490000_3.length co42) := (blk_cell BK489.out 0).trans rfl
                          have hcz45_1 : wr.cell? ⟨gb489, 1, none⟩ = some (u490001) := (blk_cell BK489.out 1).trans rfl
                          have hfz45_0 := blk_frozen BK489.out 0
                          have hfz45_1 := blk_frozen BK489.out 1
                          have p503 : 0 ≤ (x10_3 : Int) := of_decide_eq_true (by first | (with_reducible assumption) | assumption)
                          have q503 : x10_3 < (x490000_3.length : Int) := of_decide_eq_true (by first | (with_reducible assumption) | assumption)
                          obtain ⟨ad503, e503, hx503_0, hx503_1, hx503_2, hx503_3, hx503_4, hx503_5⟩ := at_T44 (Kd.V_reads' HO_490000.out).2.2 x10_3 p503 q503
                          cases e503
                          replace p503 := eq_true p503
                          replace q503 := eq_true q503
                          have p504 : 0 ≤ (x10_3 : Int) := of_decide_eq_true (by first | (with_reducible assumption) | assumption)
                          have q504 : x10_3 < (x490000_3.length : Int) := of_decide_eq_true (by first | (with_reducible assumption) | assumption)
                          obtain ⟨ad504, e504, hx504_0, hx504_1, hx504_2, hx504_3, hx504_4, hx504_5⟩ := at_T44 (Kd.V_reads' HO_490000.out).2.2 x10_3 p504 q504
                          obtain rfl : ad503 = ad504 := (by injection e504)
                          replace p504 := eq_true p504
                          replace q504 := eq_true q504
                          go_wp2
                          go_meet
                          case rel => exact ⟨_, ((((rd_T44 x490000_3 x10_3).f0) == a1)), (by first | rfl | (simp; done) | (simp [*]; done)), H', ⟨by have := HJ2.out; have := HK2.out; have := HK3.out; first | omega | exact Nat.le_refl _⟩, ⟨by (with_reducible repeat (first | apply Kd.V_alloc | apply Kd.V_drewN | apply Kd.V_drew)); exact HO_490000.out⟩, ⟨by (with_reducible repeat (first | apply Kd.V_alloc | apply Kd.V_drewN | apply Kd.V_drew)); exact HO_490001.out⟩, ⟨by (with_reducible repeat (first | refine blk_drewN ?_ _ | refine blk_drew ?_ | refine blk_alloc ?_ _)); exact BK489.out⟩, ⟨by repeat (first | (with_reducible first | exact HB.out | apply below_alloc | apply pw_below_drewN | apply below_drew1 | refine below_set ?_ GE489.out) | exact HB.out)⟩⟩
                        · rw [if_neg c44] at H
                          have c44b0 : decide (0 < ((rd_T44 x490000_3 x10_3).f4)) = false := decide_eq_false c44
                          clear c44
                          have H' := Aside0.mk H
                          clear H
                          have hcz46_0 : wr.cell? ⟨gb489, 0, none⟩ = some (.slice Ao42 x490000_3.length co42) := (blk_cell BK489.out 0).trans rfl
                          have hcz46_1 : wr.cell? ⟨gb489, 1, none⟩ = some (u490001) := (blk_cell BK489.out 1).trans rfl
                          have hfz46_0 := blk_frozen BK489.out 0
                          have hfz46_1 := blk_frozen BK489.out 1
                          have p503 : 0 ≤ (x10_3 : Int) := of_decide_eq_true (by first | (with_reducible assumption) | assumption)
                          have q503 : x10_3 < (x490000_3.length : Int) := of_decide_eq_true (by first | (with_reducible assumption) | assumption)
                          obtain ⟨ad503, e503, hx503_0, hx503_1, hx503_2, hx503_3, hx503_4, hx503_5⟩ := at_T44 (Kd.V_reads' HO_490000.out).2.2 x10_3 p503 q503
                          cases e503
                          replace p503 := eq_true p503
                          replace q503 := eq_true q503
                          go_wp2
                          go_meet
                          case rel => exact ⟨_, (false), (by first | rfl | (simp; done) | (simp [*]; done)), H', ⟨by have := HJ2.out; have := HK2.out; have := HK3.out; first | omega | exact Nat.le_refl _⟩, ⟨by (with_reducible repeat (first | apply Kd.V_alloc | apply Kd.V_drewN | apply Kd.V_drew)); exact HO_490000.out⟩, ⟨by (with_reducible repeat (first | apply Kd.V_alloc | apply Kd.V_drewN | apply Kd.V_drew)); exact HO_490001.out⟩, ⟨by (with_reducible repeat (first | refine blk_drewN ?_ _ | refine blk_drew ?_ | refine blk_alloc ?_ _)); exact BK489.out⟩, ⟨by repeat (first | (with_reducible first | exact HB.out | apply below_alloc | apply pw_below_drewN | apply below_drew1 | refine below_set ?_ GE489.out) | exact HB.out)⟩⟩
                      · rw [if_neg c43] at H
                        exact absurd H (by simp)
                    case rest =>
                      clear HC40
                      try clear c1
                      try clear c2
                      try clear p2
                      try clear c3
                      try clear c4
                      try clear p4
                      try clear q4
                      try clear hx4
                      try clear p5
                      try clear q5
                      try clear hx5
                      try clear c6
                      try clear p6
                      try clear c7
                      try clear c9
                      try clear c10
                      try clear c11
                      try clear c13
                      try clear c16
                      try clear c16b0
                      try clear c20
                      try clear c20b0
                      try clear c21
                      try clear c21b0
                      try clear c24
                      try clear c26
                      try clear c26b0
                      try clear c26b1
                      try clear c27
                      try clear c27b0
                      try clear c27b1
                      try clear c27b2
                      try clear c33
                      try clear c39
                      try clear c39b0
                      try clear c43
                      try clear c43b0
                      try clear c44
                      try clear c44b0
                      try clear hcz11_0
                      try clear hcz11_1
                      try clear hcz18_0
                      try clear hcz18_1
                      try clear hcz22_0
                      try clear hcz22_1
                      try clear hcz23_0
                      try clear hcz23_1
                      try clear hcz28_0
                      try clear hcz28_1
                      try clear hcz34_0
                      try clear hcz34_1
                      try clear hcz36_0
                      try clear hcz36_1
                      try clear hcz37_0
                      try clear hcz37_1
                      try clear hcz41_0
                      try clear hcz41_1
                      try clear hcz45_0
                      try clear hcz45_1
                      try clear hcz46_0
                      try clear hcz46_1
                      try clear hcz8_0
                      try clear hcz8_1
                      try clear hfz11_0
                      try clear hfz11_1
                      try clear hfz18_0
                      try clear hfz18_1
                      try clear hfz22_0
                      try clear hfz22_1
                      try clear hfz23_0
                      try clear hfz23_1
                      try clear hfz28_0
                      try clear hfz28_1
                      try clear hfz34_0
                      try clear hfz34_1
                      try clear hfz36_0
                      try clear hfz36_1
                      try clear hfz37_0
                      try clear hfz37_1
                      try clear hfz41_0
                      try clear hfz41_1
                      try clear hfz45_0
                      try clear hfz45_1
                      try clear hfz46_0
                      try clear hfz46_1
                      try clear hfz8_0
                      try clear hfz8_1
                      try clear hx493_0
                      try clear hx493_1
                      try clear hx493_2
                      try clear hx493_3
                      try clear hx493_4
                      try clear hx493_5
                      try clear hx494_0
                      try clear hx494_1
                      try clear hx494_2
                      try clear hx494_3
                      try clear hx494_4
                      try clear hx494_5
                      try clear hx503_0
                      try clear hx503_1
                      try clear hx503_2
                      try clear hx503_3
                      try clear hx503_4
                      try clear hx503_5
                      try clear hx504_0
                      try clear hx504_1
                      try clear hx504_2
                      try clear hx504_3
                      try clear hx504_4
                      try clear hx504_5
                      try clear p2
                      try clear p4
                      try clear p493
                      try clear p494
                      try clear p503
                      try clear p504
                      try clear p6
                      try clear q4
                      try clear q493
                      try clear q494
                      try clear q503
                      try clear q504
                      obtain ⟨kq, x90_39, rfl, HA, HJ39, HO_490000, HO_490001, BK489, HB⟩ := hcut
                      cases kq with
                      | zero => exact absurd HA.out (by simp [flagstonelaw11_FlockShares.j4])
                      | succ kj39 =>
                        have H := HA.out
                        clear HA
                        simp only [flagstonelaw11_FlockShares.j4] at H
                        by_cases c47 : x90_39 = true
                        · subst c47
                          have H1 : ((flock_Lock.f x490000_3 x490001_3 x10_3 1).bind fun bt505 => (if bt505.2.2 = 0 then (if (bt505.1.length : Int) = (x490000_3.length : Int) then (flagstonelaw11_FlockShares.l1 kj39 a1 (wrap64 (x5_3 + 1)) x10_3 (wrap64 (x10_3 + 1)) bt505.1 bt505.2.1) else (none)) else (none))) = some r := by rw [if_pos rfl] at H; exact H
                          clear H
                          have H := H1
                          clear H1
                          replace H := Option.bind_eq_some_iff.mp H
                          obtain ⟨⟨t505, t508, t511⟩, A480, H⟩ := H
                          replace H : (if t511 = 0 then (if (t505.length : Int) = (x490000_3.length : Int) then (flagstonelaw11_FlockShares.l1 kj39 a1 (wrap64 (x5_3 + 1)) x10_3 (wrap64 (x10_3 + 1)) t505 t508) else (none)) else (none)) = some r := H
                          have A48 := Aside0.mk A480
                          clear A480
                          by_cases c49 : t511 = 0
                          · rw [if_pos c49] at H
                            have c49b0 : (t511 == 0) = true := beq_iff_eq.mpr c49
                            have c49b1 : (t511 != 0) = false := bne_eq_false_iff_eq.mpr c49
                            clear c49
                            by_cases c50 : (t505.length : Int) = (x490000_3.length : Int)
                            · rw [if_pos c50] at H
                              have c50b0 : ((t505.length : Int) == (x490000_3.length : Int)) = true := beq_iff_eq.mpr c50
                              have c50b1 : ((t505.length : Int) != (x490000_3.length : Int)) = false := bne_eq_false_iff_eq.mpr c50
                              have c50b2 : (t505.length == x490000_3.length) = true := by first | simpa using c50 | (simp at c50 ⊢; omega)
                              clear c50
                              have H' := Aside0.mk H
                              clear H
                              have hcz51_0 : wc.cell? ⟨gb489, 0, none⟩ = some (.slice Ao42 x490000_3.length co42) := (blk_cell BK489.out 0).trans rfl
                              have hcz51_1 : wc.cell? ⟨gb489, 1, none⟩ = some (u490001) := (blk_cell BK489.out 1).trans rfl
                              have hfz51_0 := blk_frozen BK489.out 0
                              have hfz51_1 := blk_frozen BK489.out 1
                              obtain ⟨Ao52, co52, eo52⟩ := Kd.V_slice HO_490001.out
                              subst eo52
                              go_wp2_with (first | ((with_reducible refine gate_callee (f := 11) rfl ?_); refine goesL_ (some 94) rfl rfl Try.func11 (by kernel_rfl) rfl #[.agg #[.slice Ao42 x490000_3.length co42, .slice Ao52 x490001_3.length co52], .int .i64 x10_3, .int .i64 1] rfl (by (try simp only [List.map_toArray, List.map_cons, List.map_nil]); first | done | rfl | (simp only [List.length_drop, List.length_take]; rfl)) ?_; (with_reducible refine (flock_Lock.calls (fun k_ => (((P0_0_ k_ ∨ P0_1_ k_) ∨ w.heap.size ≤ k_) ∧ k_ ≠ gb489)) _ _ x490000_3 (fun k_ => (((P0_0_ k_ ∨ P0_1_ k_) ∨ w.heap.size ≤ k_) ∧ k_ ≠ gb489)) _ _ x490001_3 x10_3 1 t505 t508 t511 _ ?side1 ?side2 A48.out).mono ?_); (case side1 => exact HO_490000.out); (case side2 => exact HO_490001.out); rintro e w53 ⟨v506, v509, rfl, ho0, ho1, hb⟩; refine ⟨_, rfl, ?_⟩; have n0_ := Aside0.mk (Kd.V_below (by (with_reducible repeat (first | apply Kd.V_alloc | apply Kd.V_drewN | apply Kd.V_drew)); exact HO_490000.out) hb); have n1_ := Aside0.mk (Kd.V_below (by (with_reducible repeat (first | apply Kd.V_alloc | apply Kd.V_drewN | apply Kd.V_drew)); exact HO_490001.out) hb); have n2_ := Aside0.mk (Kd.V_lower (Kd.V_mono (ok' := fun k_ => ((P0_0_ k_ ∨ P0_1_ k_) ∨ w.heap.size ≤ k_) ∧ k_ ≠ gb489) ho0 (fun k_ hk_ => ⟨Or.elim hk_ (fun hs_ => Or.elim hs_ (fun hs_ => hs_.1) (fun hs_ => hs_.1)) (fun hn_ => (.inr (Nat.le_trans (below_size (by repeat (first | (with_reducible first | exact HB.out | apply below_alloc | apply pw_below_drewN | apply below_drew1 | refine below_set ?_ GE489.out) | exact HB.out))) hn_))), Or.elim hk_ (fun hs_ => Or.elim hs_ (fun hs_ => hs_.2) (fun hs_ => hs_.2)) (fun hn_ => (Kd.freshB (g := gb489) (o := .cells #[.slice Ao42 x490000_3.length co42, .slice Ao52 x490001_3.length co52] 25 (0, 0)) (by (with_reducible repeat (first | refine blk_drewN ?_ _ | refine blk_drew ?_ | refine blk_alloc ?_ _)); exact BK489.out) k_ hn_))⟩)) (below_size (by repeat (first | (with_reducible first | exact HB.out | apply below_alloc | apply pw_below_drewN | apply below_drew1 | refine below_set ?_ GE489.out) | exact HB.out)))); have n3_ := Aside0.mk (Kd.V_lower (Kd.V_mono (ok' := fun k_ => ((P0_0_ k_ ∨ P0_1_ k_) ∨ w.heap.size ≤ k_) ∧ k_ ≠ gb489) ho1 (fun k_ hk_ => ⟨Or.elim hk_ (fun hs_ => Or.elim hs_ (fun hs_ => hs_.1) (fun hs_ => hs_.1)) (fun hn_ => (.inr (Nat.le_trans (below_size (by repeat (first | (with_reducible first | exact HB.out | apply below_alloc | apply pw_below_drewN | apply below_drew1 | refine below_set ?_ GE489.out) | exact HB.out))) hn_))), Or.elim hk_ (fun hs_ => Or.elim hs_ (fun hs_ => hs_.2) (fun hs_ => hs_.2)) (fun hn_ => (Kd.freshB (g := gb489) (o := .cells #[.slice Ao42 x490000_3.length co42, .slice Ao52 x490001_3.length co52] 25 (0, 0)) (by (with_reducible repeat (first | refine blk_drewN ?_ _ | refine blk_drew ?_ | refine blk_alloc ?_ _)); exact BK489.out) k_ hn_))⟩)) (below_size (by repeat (first | (with_reducible first | exact HB.out | apply below_alloc | apply pw_below_drewN | apply below_drew1 | refine below_set ?_ GE489.out) | exact HB.out)))); have n4_ := Aside0.mk (blk_below (g := gb489) (o := .cells #[.slice Ao42 x490000_3.length co42, .slice Ao52 x490001_3.length co52] 25 (0, 0)) (by (with_reducible repeat (first | refine blk_drewN ?_ _ | refine blk_drew ?_ | refine blk_alloc ?_ _)); exact BK489.out) hb); have n5_ := Aside0.mk (below_step (by repeat (first | (with_reducible first | exact HB.out | apply below_alloc | apply pw_below_drewN | apply below_drew1 | refine below_set ?_ GE489.out) | exact HB.out)) hb); clear HO_490000; clear HO_490001; clear BK489; clear HB; have HO_490000 := n0_; have HO_490001 := n1_; have HO507 := n2_; have HO510 := n3_; have BK489 := n4_; have HB := n5_; clear n0_ n1_ n2_ n3_ n4_ n5_; (try clear hb); (try clear hb2); (try clear hk); (try clear hi); (try clear ho0); (try clear ho1)) | ((with_reducible refine gate_dst (N := 11) rfl ?_); (try (refine gate_guard (by rfl) ?_; dsimp only)); refine box_event ?hg (N := 11) ?hd (cs := #[.slice none 0 0, .slice none 0 0]) (t := 25) ?hr ?_; (case hd => rfl); (case hg => rfl); (case hr => first | (go_simp; done) | (go_simp; rfl)); intro gb512 hg w54 hbox hb; have n0_ := Aside0.mk (Kd.V_below (Kd.V_elderB (by (with_reducible repeat (first | apply Kd.V_alloc | apply Kd.V_drewN | apply Kd.V_drew)); exact HO_490000.out) gb512 (Nat.le_of_eq hg.symm)) hb); have n1_ := Aside0.mk (Kd.V_below (Kd.V_elderB (by (with_reducible repeat (first | apply Kd.V_alloc | apply Kd.V_drewN | apply Kd.V_drew)); exact HO_490001.out) gb512 (Nat.le_of_eq hg.symm)) hb); have n2_ := Aside0.mk (Kd.V_below (Kd.V_elderB (by (with_reducible repeat (first | apply Kd.V_alloc | apply Kd.V_drewN | apply Kd.V_drew)); exact HO507.out) gb512 (Nat.le_of_eq hg.symm)) hb); have n3_ := Aside0.mk (Kd.V_below (Kd.V_elderB (by (with_reducible repeat (first | apply Kd.V_alloc | apply Kd.V_drewN | apply Kd.V_drew)); exact HO510.out) gb512 (Nat.le_of_eq hg.symm)) hb); have n4_ := Aside0.mk (blk_below (g := gb489) (o := .cells #[.slice Ao42 x490000_3.length co42, .slice Ao52 x490001_3.length co52] 25 (0, 0)) (by (with_reducible repeat (first | refine blk_drewN ?_ _ | refine blk_drew ?_ | refine blk_alloc ?_ _)); exact BK489.out) hb); have n5_ := Aside0.mk (below_step (by repeat (first | (with_reducible first | exact HB.out | apply below_alloc | apply pw_below_drewN | apply below_drew1 | refine below_set ?_ GE489.out) | exact HB.out)) hb); have n6_ := Aside0.mk (hbox); have n7_ := Aside0.mk ((by rw [hg]; exact (below_size (by repeat (first | (with_reducible first | exact HB.out | apply below_alloc | apply pw_below_drewN | apply below_drew1 | refine below_set ?_ GE489.out) | exact HB.out))) : w.heap.size ≤ gb512)); have n8_ := Aside0.mk ((by rw [hg]; exact (below_size (by repeat (first | (with_reducible first | exact HB.out | apply below_alloc | apply pw_below_drewN | apply below_drew1 | refine below_set ?_ GE489.out) | exact HB.out))) : w.heap.size ≤ gb512)); have n9_ := Aside0.mk ((by rw [hg]; exact Nat.ne_of_lt (blk_lt (g := gb489) (o := .cells #[.slice Ao42 x490000_3.length co42, .slice Ao52 x490001_3.length co52] 25 (0, 0)) (by (with_reducible repeat (first | refine blk_drewN ?_ _ | refine blk_drew ?_ | refine blk_alloc ?_ _)); exact BK489.out)) : gb489 ≠ gb512)); have n10_ := Aside0.mk ((by rw [hg]; exact Nat.ne_of_gt (blk_lt (g := gb489) (o := .cells #[.slice Ao42 x490000_3.length co42, .slice Ao52 x490001_3.length co52] 25 (0, 0)) (by (with_reducible repeat (first | refine blk_drewN ?_ _ | refine blk_drew ?_ | refine blk_alloc ?_ _)); exact BK489.out)) : gb512 ≠ gb489)); clear HO_490000; clear HO_490001; clear HO507; clear HO510; clear BK489; clear HB; have HO_490000 := n0_; have HO_490001 := n1_; have HO507 := n2_; have HO510 := n3_; have BK489 := n4_; have HB := n5_; have BK512 := n6_; have GW512 := n7_; have GE512 := n8_; have NB489_512 := n9_; have NB512_489 := n10_; clear n0_ n1_ n2_ n3_ n4_ n5_ n6_ n7_ n8_ n9_ n10_; clear hb hbox hg; obtain ⟨Ao55, co55, eo55⟩ := Kd.V_slice HO507.out; subst eo55; have hnb56 := NB512_489.out; have hnc56 := NB489_512.out; have hcz57_0 : w54.cell? ⟨gb512, 0, none⟩ = some (.slice none 0 0) := (blk_cell BK512.out 0).trans rfl; have hcz57_1 : w54.cell? ⟨gb512, 1, none⟩ = some (.slice none 0 0) := (blk_cell BK512.out 1).trans rfl; have hfz57_0 := blk_frozen BK512.out 0; have hfz57_1 := blk_frozen BK512.out 1; obtain ⟨Ao58, co58, eo58⟩ := Kd.V_slice HO510.out; subst eo58; have hcz59_0 : w54.cell? ⟨gb489, 0, none⟩ = some (.slice Ao42 x490000_3.length co42) := (blk_cell BK489.out 0).trans rfl; have hcz59_1 : w54.cell? ⟨gb489, 1, none⟩ = some (.slice Ao52 x490001_3.length co52) := (blk_cell BK489.out 1).trans rfl; have hfz59_0 := blk_frozen BK489.out 0; have hfz59_1 := blk_frozen BK489.out 1))
                              go_roundg kj39
                              case measure => have := HJ2.out; have := HK2.out; have := HK3.out; have := HJ39.out; omega
                              case rel => exact ⟨(wrap64 (x5_3 + 1)), (x10_3), (wrap64 (x10_3 + 1)), (t505), (t508), (.slice Ao55 t505.length co55), (.slice Ao58 t508.length co58), (by first | rfl | (simp; done) | (simp [*]; done)), (by first | rfl | (simp; done) | (simp [*]; done)), (by first | rfl | (simp; done) | (simp [*]; done)), H', ⟨by have := HJ2.out; have := HK2.out; have := HK3.out; have := HJ39.out; omega⟩, ⟨by (with_reducible repeat (first | apply Kd.V_alloc | apply Kd.V_drewN | apply Kd.V_drew)); exact Kd.V_mono (Kd.V_far (p := ⟨gb489, 1, none⟩) (Kd.V_far (p := ⟨gb489, 0, none⟩) (Kd.V_far (p := ⟨gb512, 1, none⟩) (Kd.V_far (p := ⟨gb512, 0, none⟩) (Kd.V_mono (Kd.V_mono HO507.out (fun k_ hk => (⟨hk, hk.2⟩ : _ ∧ k_ ≠ gb512))) (fun k_ hk => (⟨hk, hk.1.1.2⟩ : _ ∧ k_ ≠ gb489))) (fun _ hk => hk.1.2) (.slice Ao55 t505.length co55)) (fun _ hk => hk.1.2) (.slice Ao58 t508.length co58)) (fun _ hk => hk.2) (.slice Ao55 t505.length co55)) (fun _ hk => hk.2) (.slice Ao58 t508.length co58)) (fun _ hk => ⟨hk.1.1.1.1, hk.1.1.1.2⟩)⟩, ⟨by (with_reducible repeat (first | apply Kd.V_alloc | apply Kd.V_drewN | apply Kd.V_drew)); exact Kd.V_mono (Kd.V_far (p := ⟨gb489, 1, none⟩) (Kd.V_far (p := ⟨gb489, 0, none⟩) (Kd.V_far (p := ⟨gb512, 1, none⟩) (Kd.V_far (p := ⟨gb512, 0, none⟩) (Kd.V_mono (Kd.V_mono HO510.out (fun k_ hk => (⟨hk, hk.2⟩ : _ ∧ k_ ≠ gb512))) (fun k_ hk => (⟨hk, hk.1.1.2⟩ : _ ∧ k_ ≠ gb489))) (fun _ hk => hk.1.2) (.slice Ao55 t505.length co55)) (fun _ hk => hk.1.2) (.slice Ao58 t508.length co58)) (fun _ hk => hk.2) (.slice Ao55 t505.length co55)) (fun _ hk => hk.2) (.slice Ao58 t508.length co58)) (fun _ hk => ⟨hk.1.1.1.1, hk.1.1.1.2⟩)⟩, ⟨by (with_reducible repeat (first | refine blk_drewN ?_ _ | refine blk_drew ?_ | refine blk_alloc ?_ _)); refine blk_put (cs := #[.slice Ao55 t505.length co55, .slice Ao52 x490001_3.length co52]) ?_ 1 _ rfl; (with_reducible repeat (first | refine blk_drewN ?_ _ | refine blk_drew ?_ | refine blk_alloc ?_ _)); refine blk_put (cs := #[.slice Ao42 x490000_3.length co42, .slice Ao52 x490001_3.length co52]) ?_ 0 _ rfl; (with_reducible repeat (first | refine blk_drewN ?_ _ | refine blk_drew ?_ | refine blk_alloc ?_ _)); refine blk_far ?_ NB489_512.out _; (with_reducible repeat (first | refine blk_drewN ?_ _ | refine blk_drew ?_ | refine blk_alloc ?_ _)); refine blk_far ?_ NB489_512.out _; (with_reducible repeat (first | refine blk_drewN ?_ _ | refine blk_drew ?_ | refine blk_alloc ?_ _)); exact BK489.out⟩, ⟨by repeat (first | (with_reducible first | exact HB.out | apply below_alloc | apply pw_below_drewN | apply below_drew1 | refine below_set ?_ GE489.out | refine below_set ?_ GE512.out) | exact HB.out)⟩⟩
                            · rw [if_neg c50] at H
                              exact absurd H (by simp)
                          · rw [if_neg c49] at H
                            exact absurd H (by simp)
                        · replace c47 := Bool.eq_false_iff.mpr c47
                          subst c47
                          have H1 : (flagstonelaw11_FlockShares.l1 kj39 a1 x5_3 x6_3 (wrap64 (x10_3 + 1)) x490000_3 x490001_3) = some r := by rw [if_neg (show ¬ (false = true) by decide)] at H; exact H
                          clear H
                          have H := H1
                          clear H1
                          have H' := Aside0.mk H
                          clear H
                          go_wp2
                          go_roundg kj39
                          case measure => have := HJ2.out; have := HK2.out; have := HK3.out; have := HJ39.out; omega
                          case rel => exact ⟨(x5_3), (x6_3), (wrap64 (x10_3 + 1)), (x490000_3), (x490001_3), (.slice Ao42 x490000_3.length co42), (u490001), (by first | rfl | (simp; done) | (simp [*]; done)), (by first | rfl | (simp; done) | (simp [*]; done)), (by first | rfl | (simp; done) | (simp [*]; done)), H', ⟨by have := HJ2.out; have := HK2.out; have := HK3.out; have := HJ39.out; omega⟩, ⟨by (with_reducible repeat (first | apply Kd.V_alloc | apply Kd.V_drewN | apply Kd.V_drew)); exact HO_490000.out⟩, ⟨by (with_reducible repeat (first | apply Kd.V_alloc | apply Kd.V_drewN | apply Kd.V_drew)); exact HO_490001.out⟩, ⟨by (with_reducible repeat (first | refine blk_drewN ?_ _ | refine blk_drew ?_ | refine blk_alloc ?_ _)); exact BK489.out⟩, ⟨by repeat (first | (with_reducible first | exact HB.out | apply below_alloc | apply pw_below_drewN | apply below_drew1 | refine below_set ?_ GE489.out) | exact HB.out)⟩⟩
                  · rw [if_neg c39] at H
                    have c39b0 : decide (x10_3 < (x490000_3.length : Int)) = false := decide_eq_false c39
                    clear c39
                    replace H := Option.bind_eq_some_iff.mp H
                    obtain ⟨⟨t513, t514⟩, A600, H⟩ := H
                    replace H : (if t513 = x5_3 then (flagstonelaw11_FlockShares.j5 k3 x5_3 x6_3 (t514 != 0) x490000_3 x490001_3) else (flagstonelaw11_FlockShares.j5 k3 x5_3 x6_3 true x490000_3 x490001_3)) = some r := H
                    have A60 := Aside0.mk A600
                    clear A600
                    have HC61 := Aside0.mk H
                    clear H
                    have hcz62_0 : wr.cell? ⟨gb489, 0, none⟩ = some (u490000) := (blk_cell BK489.out 0).trans rfl
                    have hcz62_1 : wr.cell? ⟨gb489, 1, none⟩ = some (u490001) := (blk_cell BK489.out 1).trans rfl
                    have hfz62_0 := blk_frozen BK489.out 0
                    have hfz62_1 := blk_frozen BK489.out 1
                    obtain ⟨Ao63, co63, eo63⟩ := Kd.V_slice HO_490000.out
                    subst eo63
                    obtain ⟨Ao64, co64, eo64⟩ := Kd.V_slice HO_490001.out
                    subst eo64
                    go_upto_region 24 with (first | ((with_reducible refine gate_callee (f := 14) rfl ?_); refine goesL_ (some 115) rfl rfl Try.func14 (by kernel_rfl) rfl #[.agg #[.slice Ao63 x490000_3.length co63, .slice Ao64 x490001_3.length co64], .int .i64 a1] rfl (by (try simp only [List.map_toArray, List.map_cons, List.map_nil]); first | done | rfl | (simp only [List.length_drop, List.length_take]; rfl)) ?_; (with_reducible refine (flock_Holders.calls _ _ x490000_3 _ _ x490001_3 a1 t513 t514 _ ?side1 ?side2 ?side3 ?side4 A60.out).mono ?_); (case side1 => repeat (first | exact (Kd.V_reads' HO_490000.out).2.2 | (with_reducible refine Kd.C_alloc ?_ _) | (with_reducible refine Kd.C_drewN ?_ _) | (with_reducible refine Kd.C_drew ?_))); (case side2 => exact (Kd.V_reads' HO_490000.out).2.1); (case side3 => repeat (first | exact (Kd.V_reads' HO_490001.out).2.2 | (with_reducible refine Kd.C_alloc ?_ _) | (with_reducible refine Kd.C_drewN ?_ _) | (with_reducible refine Kd.C_drew ?_))); (case side4 => exact (Kd.V_reads' HO_490001.out).2.1); rintro e w65 ⟨rfl, hb⟩; refine ⟨_, rfl, ?_⟩; have n0_ := Aside0.mk (Kd.V_below (by (with_reducible repeat (first | apply Kd.V_alloc | apply Kd.V_drewN | apply Kd.V_drew)); exact HO_490000.out) hb); have n1_ := Aside0.mk (Kd.V_below (by (with_reducible repeat (first | apply Kd.V_alloc | apply Kd.V_drewN | apply Kd.V_drew)); exact HO_490001.out) hb); have n2_ := Aside0.mk (blk_below (g := gb489) (o := .cells #[.slice Ao63 x490000_3.length co63, .slice Ao64 x490001_3.length co64] 25 (0, 0)) (by (with_reducible repeat (first | refine blk_drewN ?_ _ | refine blk_drew ?_ | refine blk_alloc ?_ _)); exact BK489.out) hb); have n3_ := Aside0.mk (below_step (by repeat (first | (with_reducible first | exact HB.out | apply below_alloc | apply pw_below_drewN | apply below_drew1 | refine below_set ?_ GE489.out) | exact HB.out)) hb); clear HO_490000; clear HO_490001; clear BK489; clear HB; have HO_490000 := n0_; have HO_490001 := n1_; have BK489 := n2_; have HB := n3_; clear n0_ n1_ n2_ n3_; (try clear hb); (try clear hb2); (try clear hk); (try clear hi)))
                    (try simp only [Act.put, List.setIfInBounds_toArray, List.set_cons_zero, List.set_cons_succ])
                    go_cut [124] (fun v124 wc => ∃ (kq : Nat) (x124_60 : Bool), v124 = .bool x124_60 ∧ Aside0 (flagstonelaw11_FlockShares.j5 kq x5_3 x6_3 x124_60 x490000_3 x490001_3 = some r) ∧ Aside0 (kq ≤ k3) ∧ Aside0 (Kd.V k44 44 wc w.heap.size (fun k_ => ((P0_0_ k_ ∨ P0_1_ k_) ∨ w.heap.size ≤ k_) ∧ k_ ≠ gb489) (.slice Ao63 x490000_3.length co63) x490000_3) ∧ Aside0 (Kd.V (Kd.slice 3 (Kd.int .i64)) 48 wc w.heap.size (fun k_ => ((P0_0_ k_ ∨ P0_1_ k_) ∨ w.heap.size ≤ k_) ∧ k_ ≠ gb489) (.slice Ao64 x490001_3.length co64) x490001_3) ∧ Aside0 (wc.heap[gb489]? = some (.cells #[(.slice Ao63 x490000_3.length co63), (.slice Ao64 x490001_3.length co64)] 25 (0, 0))) ∧ Aside0 (Below w.heap.size w wc))
                    case first =>
                      have H := HC61.out
                      clear HC61
                      by_cases c66 : t513 = x5_3
                      · rw [if_pos c66] at H
                        have c66b0 : (t513 == x5_3) = true := beq_iff_eq.mpr c66
                        have c66b1 : (t513 != x5_3) = false := bne_eq_false_iff_eq.mpr c66
                        clear c66
                        (first | rw [c66b0] | (simp only [i64_w, i32_w]; rw [c66b0]) | skip)
                        have H' := Aside0.mk H
                        clear H
                        go_wp2
                        go_meet
                        case rel => exact ⟨_, ((t514 != 0)), (by first | rfl | (simp; done) | (simp [*]; done)), H', ⟨by have := HJ2.out; have := HK2.out; have := HK3.out; first | omega | exact Nat.le_refl _⟩, ⟨by (with_reducible repeat (first | apply Kd.V_alloc | apply Kd.V_drewN | apply Kd.V_drew)); exact HO_490000.out⟩, ⟨by (with_reducible repeat (first | apply Kd.V_alloc | apply Kd.V_drewN | apply Kd.V_drew)); exact HO_490001.out⟩, ⟨by (with_reducible repeat (first | refine blk_drewN ?_ _ | refine blk_drew ?_ | refine blk_alloc ?_ _)); exact BK489.out⟩, ⟨by repeat (first | (with_reducible first | exact HB.out | apply below_alloc | apply pw_below_drewN | apply below_drew1 | refine below_set ?_ GE489.out) | exact HB.out)⟩⟩
                      · rw [if_neg c66] at H
                        have c66b0 : (t513 == x5_3) = false := beq_eq_false_iff_ne.mpr c66
                        have c66b1 : (t513 != x5_3) = true := bne_iff_ne.mpr c66
                        (first | rw [c66b0] | (simp only [i64_w, i32_w]; rw [c66b0]) | skip)
                        have H' := Aside0.mk H
                        clear H
                        go_wp2
                        go_meet
                        case rel => exact ⟨_, (true), (by first | rfl | (simp; done) | (simp [*]; done)), H', ⟨by have := HJ2.out; have := HK2.out; have := HK3.out; first | omega | exact Nat.le_refl _⟩, ⟨by (with_reducible repeat (first | apply Kd.V_alloc | apply Kd.V_drewN | apply Kd.V_drew)); exact HO_490000.out⟩, ⟨by (with_reducible repeat (first | apply Kd.V_alloc | apply Kd.V_drewN | apply Kd.V_drew)); exact HO_490001.out⟩, ⟨by (with_reducible repeat (first | refine blk_drewN ?_ _ | refine blk_drew ?_ | refine blk_alloc ?_ _)); exact BK489.out⟩, ⟨by repeat (first | (with_reducible first | exact HB.out | apply below_alloc | apply pw_below_drewN | apply below_drew1 | refine below_set ?_ GE489.out) | exact HB.out)⟩⟩
                    case rest =>
                      clear HC61
                      try clear c1
                      try clear c2
                      try clear p2
                      try clear c3
                      try clear c4
                      try clear p4
                      try clear q4
                      try clear hx4
                      try clear c5
                      try clear p5
                      try clear q5
                      try clear hx5
                      try clear c6
                      try clear p6
                      try clear c7
                      try clear c9
                      try clear c10
                      try clear c11
                      try clear c13
                      try clear c14
                      try clear c16
                      try clear c16b0
                      try clear c20
                      try clear c20b0
                      try clear c21
                      try clear c21b0
                      try clear c24
                      try clear c26
                      try clear c26b0
                      try clear c26b1
                      try clear c27
                      try clear c27b0
                      try clear c27b1
                      try clear c27b2
                      try clear c33
                      try clear c39
                      try clear c39b0
                      try clear c43
                      try clear c43b0
                      try clear c44
                      try clear c44b0
                      try clear c47
                      try clear c49
                      try clear c49b0
                      try clear c49b1
                      try clear p49
                      try clear q49
                      try clear hx49
                      try clear c50
                      try clear c50b0
                      try clear c50b1
                      try clear c50b2
                      try clear p50
                      try clear q50
                      try clear hx50
                      try clear c56
                      try clear p64
                      try clear c66
                      try clear c66b0
                      try clear c66b1
                      try clear hcz11_0
                      try clear hcz11_1
                      try clear hcz18_0
                      try clear hcz18_1
                      try clear hcz22_0
                      try clear hcz22_1
                      try clear hcz23_0
                      try clear hcz23_1
                      try clear hcz28_0
                      try clear hcz28_1
                      try clear hcz34_0
                      try clear hcz34_1
                      try clear hcz36_0
                      try clear hcz36_1
                      try clear hcz37_0
                      try clear hcz37_1
                      try clear hcz41_0
                      try clear hcz41_1
                      try clear hcz45_0
                      try clear hcz45_1
                      try clear hcz46_0
                      try clear hcz46_1
                      try clear hcz51_0
                      try clear hcz51_1
                      try clear hcz57_0
                      try clear hcz57_1
                      try clear hcz59_0
                      try clear hcz59_1
                      try clear hcz62_0
                      try clear hcz62_1
                      try clear hcz8_0
                      try clear hcz8_1
                      try clear hfz11_0
                      try clear hfz11_1
                      try clear hfz18_0
                      try clear hfz18_1
                      try clear hfz22_0
                      try clear hfz22_1
                      try clear hfz23_0
                      try clear hfz23_1
                      try clear hfz28_0
                      try clear hfz28_1
                      try clear hfz34_0
                      try clear hfz34_1
                      try clear hfz36_0
                      try clear hfz36_1
                      try clear hfz37_0
                      try clear hfz37_1
                      try clear hfz41_0
                      try clear hfz41_1
                      try clear hfz45_0
                      try clear hfz45_1
                      try clear hfz46_0
                      try clear hfz46_1
                      try clear hfz51_0
                      try clear hfz51_1
                      try clear hfz57_0
                      try clear hfz57_1
                      try clear hfz59_0
                      try clear hfz59_1
                      try clear hfz62_0
                      try clear hfz62_1
                      try clear hfz8_0
                      try clear hfz8_1
                      try clear hx493_0
                      try clear hx493_1
                      try clear hx493_2
                      try clear hx493_3
                      try clear hx493_4
                      try clear hx493_5
                      try clear hx494_0
                      try clear hx494_1
                      try clear hx494_2
                      try clear hx494_3
                      try clear hx494_4
                      try clear hx494_5
                      try clear hx503_0
                      try clear hx503_1
                      try clear hx503_2
                      try clear hx503_3
                      try clear hx503_4
                      try clear hx503_5
                      try clear hx504_0
                      try clear hx504_1
                      try clear hx504_2
                      try clear hx504_3
                      try clear hx504_4
                      try clear hx504_5
                      try clear p2
                      try clear p4
                      try clear p493
                      try clear p494
                      try clear p5
                      try clear p503
                      try clear p504
                      try clear p6
                      try clear q4
                      try clear q493
                      try clear q494
                      try clear q5
                      try clear q503
                      try clear q504
                      obtain ⟨kq, x124_60, rfl, HA, HJ60, HO_490000, HO_490001, BK489, HB⟩ := hcut
                      cases kq with
                      | zero => exact absurd HA.out (by simp [flagstonelaw11_FlockShares.j5])
                      | succ kj60 =>
                        have H := HA.out
                        clear HA
                        simp only [flagstonelaw11_FlockShares.j5] at H
                        by_cases c67 : x124_60 = true
                        · subst c67
                          have H1 : (none) = some r := by rw [if_pos rfl] at H; exact H
                          clear H
                          have H := H1
                          clear H1
                          exact absurd H (by simp)
                        · replace c67 := Bool.eq_false_iff.mpr c67
                          subst c67
                          have H1 : (if x5_3 = 0 then (some true) else ((flock_Lock.f x490000_3 x490001_3 x6_3 2).bind fun bt515 => (if ((bt515.2.2 == 0) == (x5_3 == 1)) = true then (if bt515.2.2 = 0 then (some true) else (some (bt515.2.2 == 14))) else (none)))) = some r := by rw [if_neg (show ¬ (false = true) by decide)] at H; exact H
                          clear H
                          have H := H1
                          clear H1
                          by_cases c68 : x5_3 = 0
                          · rw [if_pos c68] at H
                            have c68b0 : (x5_3 == 0) = true := beq_iff_eq.mpr c68
                            have c68b1 : (x5_3 != 0) = false := bne_eq_false_iff_eq.mpr c68
                            clear c68
                            obtain rfl := Option.some.inj H
                            go_wp2
                            go_ret
                            exact ⟨by first | rfl | (simp [errW_none, errW_some] <;> rfl) | (simp [*, errW_none, errW_some] <;> rfl), by repeat (first | (with_reducible first | exact HB.out | apply below_alloc | apply pw_below_drewN | apply below_drew1 | refine below_set ?_ GE489.out) | exact HB.out)⟩
                          · rw [if_neg c68] at H
                            have c68b0 : (x5_3 == 0) = false := beq_eq_false_iff_ne.mpr c68
                            have c68b1 : (x5_3 != 0) = true := bne_iff_ne.mpr c68
                            replace H := Option.bind_eq_some_iff.mp H
                            obtain ⟨⟨t515, t518, t521⟩, A690, H⟩ := H
                            replace H : (if ((t521 == 0) == (x5_3 == 1)) = true then (if t521 = 0 then (some true) else (some (t521 == 14))) else (none)) = some r := H
                            have A69 := Aside0.mk A690
                            clear A690
                            by_cases c70 : ((t521 == 0) == (x5_3 == 1)) = true
                            · rw [if_pos c70] at H
                              have c70b0 : ((t521 == 0) == (x5_3 == 1)) = true := c70
                              (try (have c70b1 : decide ((t521 == 0) = (x5_3 == 1)) = true := by simpa using c70))
                              (try (have c70b2 : ((t521 == 0) == (x5_3 == 1)) = true := by simpa using c70))
                              clear c70
                              by_cases c71 : t521 = 0
                              · rw [if_pos c71] at H
                                have c71b0 : (t521 == 0) = true := beq_iff_eq.mpr c71
                                (try (have c70b9 : (x5_3 == 1) = true := by simpa [c71b0] using c70b0))
                                (try (have c70b9 : (x5_3 == 1) = false := by simpa [c71b0] using c70b0))
                                have c71b1 : (t521 != 0) = false := bne_eq_false_iff_eq.mpr c71
                                clear c71
                                obtain rfl := Option.some.inj H
                                have hcz72_0 : wc.cell? ⟨gb489, 0, none⟩ = some (.slice Ao63 x490000_3.length co63) := (blk_cell BK489.out 0).trans rfl
                                have hcz72_1 : wc.cell? ⟨gb489, 1, none⟩ = some (.slice Ao64 x490001_3.length co64) := (blk_cell BK489.out 1).trans rfl
                                have hfz72_0 := blk_frozen BK489.out 0
                                have hfz72_1 := blk_frozen BK489.out 1
                                go_wp2_with (first | ((with_reducible refine gate_callee (f := 11) rfl ?_); refine goesL_ (some 130) rfl rfl Try.func11 (by kernel_rfl) rfl #[.agg #[.slice Ao63 x490000_3.length co63, .slice Ao64 x490001_3.length co64], .int .i64 x6_3, .int .i64 2] rfl (by (try simp only [List.map_toArray, List.map_cons, List.map_nil]); first | done | rfl | (simp only [List.length_drop, List.length_take]; rfl)) ?_; (with_reducible refine (flock_Lock.calls (fun k_ => (((P0_0_ k_ ∨ P0_1_ k_) ∨ w.heap.size ≤ k_) ∧ k_ ≠ gb489)) _ _ x490000_3 (fun k_ => (((P0_0_ k_ ∨ P0_1_ k_) ∨ w.heap.size ≤ k_) ∧ k_ ≠ gb489)) _ _ x490001_3 x6_3 2 t515 t518 t521 _ ?side1 ?side2 A69.out).mono ?_); (case side1 => exact HO_490000.out); (case side2 => exact HO_490001.out); rintro e w73 ⟨v516, v519, rfl, ho0, ho1, hb⟩; refine ⟨_, rfl, ?_⟩; have n0_ := Aside0.mk (Kd.V_below (by (with_reducible repeat (first | apply Kd.V_alloc | apply Kd.V_drewN | apply Kd.V_drew)); exact HO_490000.out) hb); have n1_ := Aside0.mk (Kd.V_below (by (with_reducible repeat (first | apply Kd.V_alloc | apply Kd.V_drewN | apply Kd.V_drew)); exact HO_490001.out) hb); have n2_ := Aside0.mk (Kd.V_lower (Kd.V_mono (ok' := fun k_ => ((P0_0_ k_ ∨ P0_1_ k_) ∨ w.heap.size ≤ k_) ∧ k_ ≠ gb489) ho0 (fun k_ hk_ => ⟨Or.elim hk_ (fun hs_ => Or.elim hs_ (fun hs_ => hs_.1) (fun hs_ => hs_.1)) (fun hn_ => (.inr (Nat.le_trans (below_size (by repeat (first | (with_reducible first | exact HB.out | apply below_alloc | apply pw_below_drewN | apply below_drew1 | refine below_set ?_ GE489.out) | exact HB.out))) hn_))), Or.elim hk_ (fun hs_ => Or.elim hs_ (fun hs_ => hs_.2) (fun hs_ => hs_.2)) (fun hn_ => (Kd.freshB (g := gb489) (o := .cells #[.slice Ao63 x490000_3.length co63, .slice Ao64 x490001_3.length co64] 25 (0, 0)) (by (with_reducible repeat (first | refine blk_drewN ?_ _ | refine blk_drew ?_ | refine blk_alloc ?_ _)); exact BK489.out) k_ hn_))⟩)) (below_size (by repeat (first | (with_reducible first | exact HB.out | apply below_alloc | apply pw_below_drewN | apply below_drew1 | refine below_set ?_ GE489.out) | exact HB.out)))); have n3_ := Aside0.mk (Kd.V_lower (Kd.V_mono (ok' := fun k_ => ((P0_0_ k_ ∨ P0_1_ k_) ∨ w.heap.size ≤ k_) ∧ k_ ≠ gb489) ho1 (fun k_ hk_ => ⟨Or.elim hk_ (fun hs_ => Or.elim hs_ (fun hs_ => hs_.1) (fun hs_ => hs_.1)) (fun hn_ => (.inr (Nat.le_trans (below_size (by repeat (first | (with_reducible first | exact HB.out | apply below_alloc | apply pw_below_drewN | apply below_drew1 | refine below_set ?_ GE489.out) | exact HB.out))) hn_))), Or.elim hk_ (fun hs_ => Or.elim hs_ (fun hs_ => hs_.2) (fun hs_ => hs_.2)) (fun hn_ => (Kd.freshB (g := gb489) (o := .cells #[.slice Ao63 x490000_3.length co63, .slice Ao64 x490001_3.length co64] 25 (0, 0)) (by (with_reducible repeat (first | refine blk_drewN ?_ _ | refine blk_drew ?_ | refine blk_alloc ?_ _)); exact BK489.out) k_ hn_))⟩)) (below_size (by repeat (first | (with_reducible first | exact HB.out | apply below_alloc | apply pw_below_drewN | apply below_drew1 | refine below_set ?_ GE489.out) | exact HB.out)))); have n4_ := Aside0.mk (blk_below (g := gb489) (o := .cells #[.slice Ao63 x490000_3.length co63, .slice Ao64 x490001_3.length co64] 25 (0, 0)) (by (with_reducible repeat (first | refine blk_drewN ?_ _ | refine blk_drew ?_ | refine blk_alloc ?_ _)); exact BK489.out) hb); have n5_ := Aside0.mk (below_step (by repeat (first | (with_reducible first | exact HB.out | apply below_alloc | apply pw_below_drewN | apply below_drew1 | refine below_set ?_ GE489.out) | exact HB.out)) hb); clear HO_490000; clear HO_490001; clear BK489; clear HB; have HO_490000 := n0_; have HO_490001 := n1_; have HO517 := n2_; have HO520 := n3_; have BK489 := n4_; have HB := n5_; clear n0_ n1_ n2_ n3_ n4_ n5_; (try clear hb); (try clear hb2); (try clear hk); (try clear hi); (try clear ho0); (try clear ho1)) | ((with_reducible refine gate_dst (N := 15) rfl ?_); (try (refine gate_guard (by rfl) ?_; dsimp only)); refine box_event ?hg (N := 15) ?hd (cs := #[.slice none 0 0, .slice none 0 0]) (t := 25) ?hr ?_; (case hd => rfl); (case hg => rfl); (case hr => first | (go_simp; done) | (go_simp; rfl)); intro gb522 hg w74 hbox hb; have n0_ := Aside0.mk (Kd.V_below (Kd.V_elderB (by (with_reducible repeat (first | apply Kd.V_alloc | apply Kd.V_drewN | apply Kd.V_drew)); exact HO_490000.out) gb522 (Nat.le_of_eq hg.symm)) hb); have n1_ := Aside0.mk (Kd.V_below (Kd.V_elderB (by (with_reducible repeat (first | apply Kd.V_alloc | apply Kd.V_drewN | apply Kd.V_drew)); exact HO_490001.out) gb522 (Nat.le_of_eq hg.symm)) hb); have n2_ := Aside0.mk (Kd.V_below (Kd.V_elderB (by (with_reducible repeat (first | apply Kd.V_alloc | apply Kd.V_drewN | apply Kd.V_drew)); exact HO517.out) gb522 (Nat.le_of_eq hg.symm)) hb); have n3_ := Aside0.mk (Kd.V_below (Kd.V_elderB (by (with_reducible repeat (first | apply Kd.V_alloc | apply Kd.V_drewN | apply Kd.V_drew)); exact HO520.out) gb522 (Nat.le_of_eq hg.symm)) hb); have n4_ := Aside0.mk (blk_below (g := gb489) (o := .cells #[.slice Ao63 x490000_3.length co63, .slice Ao64 x490001_3.length co64] 25 (0, 0)) (by (with_reducible repeat (first | refine blk_drewN ?_ _ | refine blk_drew ?_ | refine blk_alloc ?_ _)); exact BK489.out) hb); have n5_ := Aside0.mk (below_step (by repeat (first | (with_reducible first | exact HB.out | apply below_alloc | apply pw_below_drewN | apply below_drew1 | refine below_set ?_ GE489.out) | exact HB.out)) hb); have n6_ := Aside0.mk (hbox); have n7_ := Aside0.mk ((by rw [hg]; exact (below_size (by repeat (first | (with_reducible first | exact HB.out | apply below_alloc | apply pw_below_drewN | apply below_drew1 | refine below_set ?_ GE489.out) | exact HB.out))) : w.heap.size ≤ gb522)); have n8_ := Aside0.mk ((by rw [hg]; exact (below_size (by repeat (first | (with_reducible first | exact HB.out | apply below_alloc | apply pw_below_drewN | apply below_drew1 | refine below_set ?_ GE489.out) | exact HB.out))) : w.heap.size ≤ gb522)); have n9_ := Aside0.mk ((by rw [hg]; exact Nat.ne_of_lt (blk_lt (g := gb489) (o := .cells #[.slice Ao63 x490000_3.length co63, .slice Ao64 x490001_3.length co64] 25 (0, 0)) (by (with_reducible repeat (first | refine blk_drewN ?_ _ | refine blk_drew ?_ | refine blk_alloc ?_ _)); exact BK489.out)) : gb489 ≠ gb522)); have n10_ := Aside0.mk ((by rw [hg]; exact Nat.ne_of_gt (blk_lt (g := gb489) (o := .cells #[.slice Ao63 x490000_3.length co63, .slice Ao64 x490001_3.length co64] 25 (0, 0)) (by (with_reducible repeat (first | refine blk_drewN ?_ _ | refine blk_drew ?_ | refine blk_alloc ?_ _)); exact BK489.out)) : gb522 ≠ gb489)); clear HO_490000; clear HO_490001; clear HO517; clear HO520; clear BK489; clear HB; have HO_490000 := n0_; have HO_490001 := n1_; have HO517 := n2_; have HO520 := n3_; have BK489 := n4_; have HB := n5_; have BK522 := n6_; have GW522 := n7_; have GE522 := n8_; have NB489_522 := n9_; have NB522_489 := n10_; clear n0_ n1_ n2_ n3_ n4_ n5_ n6_ n7_ n8_ n9_ n10_; clear hb hbox hg; obtain ⟨Ao75, co75, eo75⟩ := Kd.V_slice HO517.out; subst eo75; have hnb76 := NB522_489.out; have hnc76 := NB489_522.out; have hcz77_0 : w74.cell? ⟨gb522, 0, none⟩ = some (.slice none 0 0) := (blk_cell BK522.out 0).trans rfl; have hcz77_1 : w74.cell? ⟨gb522, 1, none⟩ = some (.slice none 0 0) := (blk_cell BK522.out 1).trans rfl; have hfz77_0 := blk_frozen BK522.out 0; have hfz77_1 := blk_frozen BK522.out 1; obtain ⟨Ao78, co78, eo78⟩ := Kd.V_slice HO520.out; subst eo78))
                                go_ret
                                exact ⟨by first | rfl | (simp [errW_none, errW_some] <;> rfl) | (simp [*, errW_none, errW_some] <;> rfl), by repeat (first | (with_reducible first | exact HB.out | apply below_alloc | apply pw_below_drewN | apply below_drew1 | refine below_set ?_ GE489.out | refine below_set ?_ GE522.out) | exact HB.out)⟩
                              · rw [if_neg c71] at H
                                have c71b0 : (t521 == 0) = false := beq_eq_false_iff_ne.mpr c71
                                (try (have c70b9 : (x5_3 == 1) = true := by simpa [c71b0] using c70b0))
                                (try (have c70b9 : (x5_3 == 1) = false := by simpa [c71b0] using c70b0))
                                have c71b1 : (t521 != 0) = true := bne_iff_ne.mpr c71
                                obtain rfl := Option.some.inj H
                                have hcz79_0 : wc.cell? ⟨gb489, 0, none⟩ = some (.slice Ao63 x490000_3.length co63) := (blk_cell BK489.out 0).trans rfl
                                have hcz79_1 : wc.cell? ⟨gb489, 1, none⟩ = some (.slice Ao64 x490001_3.length co64) := (blk_cell BK489.out 1).trans rfl
                                have hfz79_0 := blk_frozen BK489.out 0
                                have hfz79_1 := blk_frozen BK489.out 1
                                go_wp2_with (first | ((with_reducible refine gate_callee (f := 11) rfl ?_); refine goesL_ (some 130) rfl rfl Try.func11 (by kernel_rfl) rfl #[.agg #[.slice Ao63 x490000_3.length co63, .slice Ao64 x490001_3.length co64], .int .i64 x6_3, .int .i64 2] rfl (by (try simp only [List.map_toArray, List.map_cons, List.map_nil]); first | done | rfl | (simp only [List.length_drop, List.length_take]; rfl)) ?_; (with_reducible refine (flock_Lock.calls (fun k_ => (((P0_0_ k_ ∨ P0_1_ k_) ∨ w.heap.size ≤ k_) ∧ k_ ≠ gb489)) _ _ x490000_3 (fun k_ => (((P0_0_ k_ ∨ P0_1_ k_) ∨ w.heap.size ≤ k_) ∧ k_ ≠ gb489)) _ _ x490001_3 x6_3 2 t515 t518 t521 _ ?side1 ?side2 A69.out).mono ?_); (case side1 => exact HO_490000.out); (case side2 => exact HO_490001.out); rintro e w80 ⟨v516, v519, rfl, ho0, ho1, hb⟩; refine ⟨_, rfl, ?_⟩; have n0_ := Aside0.mk (Kd.V_below (by (with_reducible repeat (first | apply Kd.V_alloc | apply Kd.V_drewN | apply Kd.V_drew)); exact HO_490000.out) hb); have n1_ := Aside0.mk (Kd.V_below (by (with_reducible repeat (first | apply Kd.V_alloc | apply Kd.V_drewN | apply Kd.V_drew)); exact HO_490001.out) hb); have n2_ := Aside0.mk (Kd.V_lower (Kd.V_mono (ok' := fun k_ => ((P0_0_ k_ ∨ P0_1_ k_) ∨ w.heap.size ≤ k_) ∧ k_ ≠ gb489) ho0 (fun k_ hk_ => ⟨Or.elim hk_ (fun hs_ => Or.elim hs_ (fun hs_ => hs_.1) (fun hs_ => hs_.1)) (fun hn_ => (.inr (Nat.le_trans (below_size (by repeat (first | (with_reducible first | exact HB.out | apply below_alloc | apply pw_below_drewN | apply below_drew1 | refine below_set ?_ GE489.out) | exact HB.out))) hn_))), Or.elim hk_ (fun hs_ => Or.elim hs_ (fun hs_ => hs_.2) (fun hs_ => hs_.2)) (fun hn_ => (Kd.freshB (g := gb489) (o := .cells #[.slice Ao63 x490000_3.length co63, .slice Ao64 x490001_3.length co64] 25 (0, 0)) (by (with_reducible repeat (first | refine blk_drewN ?_ _ | refine blk_drew ?_ | refine blk_alloc ?_ _)); exact BK489.out) k_ hn_))⟩)) (below_size (by repeat (first | (with_reducible first | exact HB.out | apply below_alloc | apply pw_below_drewN | apply below_drew1 | refine below_set ?_ GE489.out) | exact HB.out)))); have n3_ := Aside0.mk (Kd.V_lower (Kd.V_mono (ok' := fun k_ => ((P0_0_ k_ ∨ P0_1_ k_) ∨ w.heap.size ≤ k_) ∧ k_ ≠ gb489) ho1 (fun k_ hk_ => ⟨Or.elim hk_ (fun hs_ => Or.elim hs_ (fun hs_ => hs_.1) (fun hs_ => hs_.1)) (fun hn_ => (.inr (Nat.le_trans (below_size (by repeat (first | (with_reducible first | exact HB.out | apply below_alloc | apply pw_below_drewN | apply below_drew1 | refine below_set ?_ GE489.out) | exact HB.out))) hn_))), Or.elim hk_ (fun hs_ => Or.elim hs_ (fun hs_ => hs_.2) (fun hs_ => hs_.2)) (fun hn_ => (Kd.freshB (g := gb489) (o := .cells #[.slice Ao63 x490000_3.length co63, .slice Ao64 x490001_3.length co64] 25 (0, 0)) (by (with_reducible repeat (first | refine blk_drewN ?_ _ | refine blk_drew ?_ | refine blk_alloc ?_ _)); exact BK489.out) k_ hn_))⟩)) (below_size (by repeat (first | (with_reducible first | exact HB.out | apply below_alloc | apply pw_below_drewN | apply below_drew1 | refine below_set ?_ GE489.out) | exact HB.out)))); have n4_ := Aside0.mk (blk_below (g := gb489) (o := .cells #[.slice Ao63 x490000_3.length co63, .slice Ao64 x490001_3.length co64] 25 (0, 0)) (by (with_reducible repeat (first | refine blk_drewN ?_ _ | refine blk_drew ?_ | refine blk_alloc ?_ _)); exact BK489.out) hb); have n5_ := Aside0.mk (below_step (by repeat (first | (with_reducible first | exact HB.out | apply below_alloc | apply pw_below_drewN | apply below_drew1 | refine below_set ?_ GE489.out) | exact HB.out)) hb); clear HO_490000; clear HO_490001; clear BK489; clear HB; have HO_490000 := n0_; have HO_490001 := n1_; have HO517 := n2_; have HO520 := n3_; have BK489 := n4_; have HB := n5_; clear n0_ n1_ n2_ n3_ n4_ n5_; (try clear hb); (try clear hb2); (try clear hk); (try clear hi); (try clear ho0); (try clear ho1)) | ((with_reducible refine gate_dst (N := 15) rfl ?_); (try (refine gate_guard (by rfl) ?_; dsimp only)); refine box_event ?hg (N := 15) ?hd (cs := #[.slice none 0 0, .slice none 0 0]) (t := 25) ?hr ?_; (case hd => rfl); (case hg => rfl); (case hr => first | (go_simp; done) | (go_simp; rfl)); intro gb522 hg w81 hbox hb; have n0_ := Aside0.mk (Kd.V_below (Kd.V_elderB (by (with_reducible repeat (first | apply Kd.V_alloc | apply Kd.V_drewN | apply Kd.V_drew)); exact HO_490000.out) gb522 (Nat.le_of_eq hg.symm)) hb); have n1_ := Aside0.mk (Kd.V_below (Kd.V_elderB (by (with_reducible repeat (first | apply Kd.V_alloc | apply Kd.V_drewN | apply Kd.V_drew)); exact HO_490001.out) gb522 (Nat.le_of_eq hg.symm)) hb); have n2_ := Aside0.mk (Kd.V_below (Kd.V_elderB (by (with_reducible repeat (first | apply Kd.V_alloc | apply Kd.V_drewN | apply Kd.V_drew)); exact HO517.out) gb522 (Nat.le_of_eq hg.symm)) hb); have n3_ := Aside0.mk (Kd.V_below (Kd.V_elderB (by (with_reducible repeat (first | apply Kd.V_alloc | apply Kd.V_drewN | apply Kd.V_drew)); exact HO520.out) gb522 (Nat.le_of_eq hg.symm)) hb); have n4_ := Aside0.mk (blk_below (g := gb489) (o := .cells #[.slice Ao63 x490000_3.length co63, .slice Ao64 x490001_3.length co64] 25 (0, 0)) (by (with_reducible repeat (first | refine blk_drewN ?_ _ | refine blk_drew ?_ | refine blk_alloc ?_ _)); exact BK489.out) hb); have n5_ := Aside0.mk (below_step (by repeat (first | (with_reducible first | exact HB.out | apply below_alloc | apply pw_below_drewN | apply below_drew1 | refine below_set ?_ GE489.out) | exact HB.out)) hb); have n6_ := Aside0.mk (hbox); have n7_ := Aside0.mk ((by rw [hg]; exact (below_size (by repeat (first | (with_reducible first | exact HB.out | apply below_alloc | apply pw_below_drewN | apply below_drew1 | refine below_set ?_ GE489.out) | exact HB.out))) : w.heap.size ≤ gb522)); have n8_ := Aside0.mk ((by rw [hg]; exact (below_size (by repeat (first | (with_reducible first | exact HB.out | apply below_alloc | apply pw_below_drewN | apply below_drew1 | refine below_set ?_ GE489.out) | exact HB.out))) : w.heap.size ≤ gb522)); have n9_ := Aside0.mk ((by rw [hg]; exact Nat.ne_of_lt (blk_lt (g := gb489) (o := .cells #[.slice Ao63 x490000_3.length co63, .slice Ao64 x490001_3.length co64] 25 (0, 0)) (by (with_reducible repeat (first | refine blk_drewN ?_ _ | refine blk_drew ?_ | refine blk_alloc ?_ _)); exact BK489.out)) : gb489 ≠ gb522)); have n10_ := Aside0.mk ((by rw [hg]; exact Nat.ne_of_gt (blk_lt (g := gb489) (o := .cells #[.slice Ao63 x490000_3.length co63, .slice Ao64 x490001_3.length co64] 25 (0, 0)) (by (with_reducible repeat (first | refine blk_drewN ?_ _ | refine blk_drew ?_ | refine blk_alloc ?_ _)); exact BK489.out)) : gb522 ≠ gb489)); clear HO_490000; clear HO_490001; clear HO517; clear HO520; clear BK489; clear HB; have HO_490000 := n0_; have HO_490001 := n1_; have HO517 := n2_; have HO520 := n3_; have BK489 := n4_; have HB := n5_; have BK522 := n6_; have GW522 := n7_; have GE522 := n8_; have NB489_522 := n9_; have NB522_489 := n10_; clear n0_ n1_ n2_ n3_ n4_ n5_ n6_ n7_ n8_ n9_ n10_; clear hb hbox hg; obtain ⟨Ao82, co82, eo82⟩ := Kd.V_slice HO517.out; subst eo82; have hnb83 := NB522_489.out; have hnc83 := NB489_522.out; have hcz84_0 : w81.cell? ⟨gb522, 0, none⟩ = some (.slice none 0 0) := (blk_cell BK522.out 0).trans rfl; have hcz84_1 : w81.cell? ⟨gb522, 1, none⟩ = some (.slice none 0 0) := (blk_cell BK522.out 1).trans rfl; have hfz84_0 := blk_frozen BK522.out 0; have hfz84_1 := blk_frozen BK522.out 1; obtain ⟨Ao85, co85, eo85⟩ := Kd.V_slice HO520.out; subst eo85))
                                go_ret
                                exact ⟨by first | rfl | (simp [errW_none, errW_some] <;> rfl) | (simp [*, errW_none, errW_some] <;> rfl), by repeat (first | (with_reducible first | exact HB.out | apply below_alloc | apply pw_below_drewN | apply below_drew1 | refine below_set ?_ GE489.out | refine below_set ?_ GE522.out) | exact HB.out)⟩
                            · rw [if_neg c70] at H
                              exact absurd H (by simp)

end Go.Proofs.Ytbfjakhloabhmaa.P
