-- Printed by a program of this session (inject.py) over the kit's print, with functions that were proved by hand in their places.
import Derived.Test.YtbfjakhloabhmaaPK
import Derived.Test.YtbfjakhloabhmaaPlaw11its
import Derived.Test.YtbfjakhloabhmaaPlaw11fine
import Derived.Test.YtbfjakhloabhmaaPflockLock
import Derived.Test.YtbfjakhloabhmaaPlaw11shown
import Derived.Test.YtbfjakhloabhmaaPref11Fair
namespace Go.Proofs.Ytbfjakhloabhmaa.P
open Go.RowKit Go.Proofs.YtbfjakhloabhmaaW.PrintWords Go.Proofs.YtbfjakhloabhmaaW.PrintLast Go.Proofs.YtbfjakhloabhmaaW.PrintMore
attribute [local go_sem] max2_int min2_int max_two min_two max_three min_three max_four min_four   -- for this text's walks alone
set_option linter.unusedVariables false
set_option linter.unusedSimpArgs false

/-! ### flagstonelaw11_FlockOtherA: function 6 -/
mutual
def flagstonelaw11_FlockOtherA.j0 : Nat → Int → Int → Int → Int → Bool → List (S44) → List (List Int) → Option (Bool)
 | 0, _, _, _, _, _, _, _ => none
 | k + 1, x1, x2, x3, x4, x64, x376000, x376001 => if x64 = true then (none) else ((flock_Lock.f x376000 x376001 x1 x3).bind fun bt380 => ((flock_Lock.f x376000 x376001 x2 x4).bind fun bt388 => ((flock_Lock.f bt388.1 bt388.2.1 x1 x3).bind fun bt396 => (if bt380.2.2 = bt396.2.2 then (if 0 ≤ x1 then (if x1 < (x376000.length : Int) then (if ((rd_T44 x376000 x1).f4) < 1 then (flagstonelaw11_FlockOtherA.j1 k true) else (if ((rd_T44 x376000 x1).f5) < 0 then (flagstonelaw11_FlockOtherA.j1 k true) else (if ((rd_T44 x376000 x1).f5) > 2 then (flagstonelaw11_FlockOtherA.j1 k true) else ((flagstonelaw11_its.f k x376000 x376001).bind fun bt407 => ((flagstoneref11_Fair.f k bt407.1 bt407.2).bind fun t413 => (flagstonelaw11_FlockOtherA.j1 k (!t413))))))) else (none)) else (none)) else (none)))))
def flagstonelaw11_FlockOtherA.j1 : Nat → Bool → Option (Bool)
 | 0, _ => none
 | k + 1, x120 => if x120 = true then (some true) else (none)
end
def flagstonelaw11_FlockOtherA.f (k : Nat) (l0_0 : List (S44)) (l0_1 : List (List Int)) (a1 : Int) (a2 : Int) (a3 : Int) (a4 : Int) : Option (Bool) := (flagstonelaw11_fine.f k l0_0 l0_1).bind fun t376 => (if t376 = true then (if a1 < 0 then (none) else (if a2 < 0 then (none) else (if a1 ≥ (l0_0.length : Int) then (none) else (if a2 ≥ (l0_0.length : Int) then (none) else (if 0 ≤ a1 then (if a1 < (l0_0.length : Int) then (if 0 ≤ a2 then (if a2 < (l0_0.length : Int) then (if ((rd_T44 l0_0 a1).f0) = ((rd_T44 l0_0 a2).f0) then (none) else ((flagstonelaw11_shown.f k).bind fun t379 => (flagstonelaw11_FlockOtherA.j0 k a1 a2 a3 a4 (!t379) l0_0 l0_1))) else (none)) else (none)) else (none)) else (none)))))) else (flagstonelaw11_FlockOtherA.j0 k a1 a2 a3 a4 true l0_0 l0_1))
theorem flagstonelaw11_FlockOtherA.mono_l : ∀ k, (∀ y0 y1 y2 y3 y4 y5 y6, LeO (flagstonelaw11_FlockOtherA.j0 k y0 y1 y2 y3 y4 y5 y6) (flagstonelaw11_FlockOtherA.j0 (k + 1) y0 y1 y2 y3 y4 y5 y6)) ∧ (∀ y0, LeO (flagstonelaw11_FlockOtherA.j1 k y0) (flagstonelaw11_FlockOtherA.j1 (k + 1) y0))
 | 0 => ⟨fun _ _ _ _ _ _ _ r h => by simp [flagstonelaw11_FlockOtherA.j0] at h, fun _ r h => by simp [flagstonelaw11_FlockOtherA.j1] at h⟩
 | k + 1 => by
  obtain ⟨ih0, ih1⟩ := flagstonelaw11_FlockOtherA.mono_l k
  refine ⟨?_, ?_⟩
  ·intro y0 y1 y2 y3 y4 y5 y6
   unfold flagstonelaw11_FlockOtherA.j0
   repeat' first
   | (with_reducible exact ih0 _ _ _ _ _ _ _)
   | (with_reducible exact ih1 _)
   | (with_reducible exact flagstonelaw11_fine.mono _ _ _)
   | (with_reducible exact flagstonelaw11_its.mono _ _ _)
   | (with_reducible exact flagstonelaw11_shown.mono _)
   | (with_reducible exact flagstoneref11_Fair.mono _ _ _)
   | (with_reducible exact LeO.refl _)
   | (with_reducible exact LeO.none _)
   | (with_reducible refine LeO.ite ?_ ?_)
   | (with_reducible refine LeO.bind ?_ (fun _ => ?_))
   | exact ih0 _ _ _ _ _ _ _
   | exact ih1 _
   | exact flagstonelaw11_fine.mono _ _ _
   | exact flagstonelaw11_its.mono _ _ _
   | exact flagstonelaw11_shown.mono _
   | exact flagstoneref11_Fair.mono _ _ _
   | exact LeO.none _
   | refine LeO.ite ?_ ?_
   | refine LeO.bind ?_ (fun _ => ?_)
  ·intro y0
   unfold flagstonelaw11_FlockOtherA.j1
   repeat' first
   | (with_reducible exact ih0 _ _ _ _ _ _ _)
   | (with_reducible exact ih1 _)
   | (with_reducible exact flagstonelaw11_fine.mono _ _ _)
   | (with_reducible exact flagstonelaw11_its.mono _ _ _)
   | (with_reducible exact flagstonelaw11_shown.mono _)
   | (with_reducible exact flagstoneref11_Fair.mono _ _ _)
   | (with_reducible exact LeO.refl _)
   | (with_reducible exact LeO.none _)
   | (with_reducible refine LeO.ite ?_ ?_)
   | (with_reducible refine LeO.bind ?_ (fun _ => ?_))
   | exact ih0 _ _ _ _ _ _ _
   | exact ih1 _
   | exact flagstonelaw11_fine.mono _ _ _
   | exact flagstonelaw11_its.mono _ _ _
   | exact flagstonelaw11_shown.mono _
   | exact flagstoneref11_Fair.mono _ _ _
   | exact LeO.none _
   | refine LeO.ite ?_ ?_
   | refine LeO.bind ?_ (fun _ => ?_)
theorem flagstonelaw11_FlockOtherA.mono : ∀ a0 a1 a2 a3 a4 a5 k, LeO (flagstonelaw11_FlockOtherA.f k a0 a1 a2 a3 a4 a5) (flagstonelaw11_FlockOtherA.f (k + 1) a0 a1 a2 a3 a4 a5) := by
 intro a0 a1 a2 a3 a4 a5 k
 obtain ⟨ih0, ih1⟩ := flagstonelaw11_FlockOtherA.mono_l k
 unfold flagstonelaw11_FlockOtherA.f
 repeat' first
   | (with_reducible exact ih0 _ _ _ _ _ _ _)
   | (with_reducible exact ih1 _)
   | (with_reducible exact flagstonelaw11_fine.mono _ _ _)
   | (with_reducible exact flagstonelaw11_its.mono _ _ _)
   | (with_reducible exact flagstonelaw11_shown.mono _)
   | (with_reducible exact flagstoneref11_Fair.mono _ _ _)
   | (with_reducible exact LeO.refl _)
   | (with_reducible exact LeO.none _)
   | (with_reducible refine LeO.ite ?_ ?_)
   | (with_reducible refine LeO.bind ?_ (fun _ => ?_))
   | exact ih0 _ _ _ _ _ _ _
   | exact ih1 _
   | exact flagstonelaw11_fine.mono _ _ _
   | exact flagstonelaw11_its.mono _ _ _
   | exact flagstonelaw11_shown.mono _
   | exact flagstoneref11_Fair.mono _ _ _
   | exact LeO.none _
   | refine LeO.ite ?_ ?_
   | refine LeO.bind ?_ (fun _ => ?_)
def flagstonelaw11_FlockOtherA.T1 : Bool × List (List Nat × List Nat) := (true, [([], []), ([0], [0]), ([1], [1]), ([2, 1], [2]), ([3], [3]), ([4, 3], [3, 4]), ([3, 5], [3, 5]), ([6, 3], [6]), ([7], [7]), ([8, 7], [7, 8]), ([7, 9], [7, 9]), ([10, 7], [10]), ([11], [11]), ([11], [11]), ([13, 11], [11, 13]), ([14, 11], [11, 14]), ([12, 15, 11], [11, 12, 15]), ([11, 16], [11, 16]), ([17, 11], [17]), ([18], [18]), ([18], [18]), ([20, 18], [18, 20]), ([21, 18], [18, 21]), ([19, 22, 18], [18, 19, 22]), ([18, 23], [18, 23]), ([24, 18], [24]), ([25], [25]), ([26, 25], [25, 26]), ([25], [25]), ([27, 28, 25], [25, 27, 28]), ([29, 25], [25, 29]), ([30, 25], [25, 30]), ([25], [25]), ([32, 25], [25, 32]), ([25], [25]), ([33, 34, 25], [25, 33, 34]), ([35, 25], [25, 35]), ([36, 25], [25, 36]), ([31, 37, 25], [25, 31, 37]), ([25, 38], [25, 38]), ([39, 25], [39]), ([40, 40], [40]), ([41, 40], [40, 41]), ([40, 42], [40, 42])])
def flagstonelaw11_FlockOtherA.B1 : List Nat := [0, 1, 3, 7, 15, 31, 63, 127, 255, 511, 1023, 2047, 4095, 4095, 12287, 28671, 65535, 131071, 262143, 524287, 524287, 1572863, 3670015, 8388607, 16777215, 33554431, 67108863, 134217727, 67108863, 536870911, 1073741823, 2147483647, 67108863, 4362076159, 67108863, 30131879935, 64491618303, 133211095039, 274877906943, 549755813887, 1099511627775, 2199023255551, 4398046511103, 8796093022207]
theorem flagstonelaw11_FlockOtherA.tab1 : rtab .any (opsOf Try.f6 1) = flagstonelaw11_FlockOtherA.T1 := by kernel_rfl
theorem flagstonelaw11_FlockOtherA.bits1 : waitsOk flagstonelaw11_FlockOtherA.T1.2 flagstonelaw11_FlockOtherA.B1 = true := by kernel_rfl
set_option maxHeartbeats 8000000 in
set_option maxRecDepth 100000 in
theorem flagstonelaw11_FlockOtherA.calls (k : Nat) (A0_0 : Option Addr) (c0_0 : Nat) (l0_0 : List (S44)) (A0_1 : Option Addr) (c0_1 : Nat) (l0_1 : List (List Int)) (a1 : Int) (a2 : Int) (a3 : Int) (a4 : Int) (r : Bool) (w : World) (hr0_0 : Kd.C k44 w A0_0 l0_0.length l0_0) (hc0_0 : l0_0.length ≤ c0_0) (hr0_1 : Kd.C (Kd.slice 3 (Kd.int .i64)) w A0_1 l0_1.length l0_1) (hc0_1 : l0_1.length ≤ c0_1) (h : flagstonelaw11_FlockOtherA.f k l0_0 l0_1 a1 a2 a3 a4 = some r) :
  Calls Try.prog 6 #[.agg #[.slice A0_0 l0_0.length c0_0, .slice A0_1 l0_1.length c0_1], .int .i64 a1, .int .i64 a2, .int .i64 a3, .int .i64 a4] w fun e w' => e = .returned (.bool r) ∧ Below w.heap.size w w' := by
 have hu25 := Try.underlying25
 have HR0_0 := Am_ hr0_0
 have HC0_0 := Am_ hc0_0
 clear hr0_0 hc0_0
 have HR0_1 := Am_ hr0_1
 have HC0_1 := Am_ hc0_1
 clear hr0_1 hc0_1
 have HB := Am_ (Below.refl w.heap.size w)
 have H : ((flagstonelaw11_fine.f k l0_0 l0_1).bind fun t376 => (if t376 = true then (if a1 < 0 then (none) else (if a2 < 0 then (none) else (if a1 ≥ (l0_0.length : Int) then (none) else (if a2 ≥ (l0_0.length : Int) then (none) else (if 0 ≤ a1 then (if a1 < (l0_0.length : Int) then (if 0 ≤ a2 then (if a2 < (l0_0.length : Int) then (if ((rd_T44 l0_0 a1).f0) = ((rd_T44 l0_0 a2).f0) then (none) else ((flagstonelaw11_shown.f k).bind fun t379 => (flagstonelaw11_FlockOtherA.j0 k a1 a2 a3 a4 (!t379) l0_0 l0_1))) else (none)) else (none)) else (none)) else (none)))))) else (flagstonelaw11_FlockOtherA.j0 k a1 a2 a3 a4 true l0_0 l0_1))) = some r := h
 clear h
 have HC6 := Am_ H
 clear H
 go_enter Try.func6, Try.ntmps6
 go_upto_region 1 with (first | ((with_reducible refine gate_dst (N := 5) rfl ?_); (try (refine gate_guard (by rfl) ?_; dsimp only)); refine box_event ?hg (N := 5) ?hd (cs := #[.slice A0_0 l0_0.length c0_0, .slice A0_1 l0_1.length c0_1]) (t := 25) ?hr ?_; (case hd => rfl); (case hg => rfl); (case hr => first | (go_simp; done) | (go_simp; rfl)); intro gb375 hg w7 hbox hb; have n0_ := Am_ (Be_ (by repeat (first | (with_reducible first | exact HB.out | apply Pa_ | apply Pn_ | apply Pd_) | exact HB.out)) hb); have n1_ := Am_ (hbox); have n2_ := Am_ ((by rw [hg]; exact (Bz_ (by repeat (first | (with_reducible first | exact HB.out | apply Pa_ | apply Pn_ | apply Pd_) | exact HB.out))) : w.heap.size ≤ gb375)); have n3_ := Am_ ((by rw [hg]; exact (Bz_ (by repeat (first | (with_reducible first | exact HB.out | apply Pa_ | apply Pn_ | apply Pd_) | exact HB.out))) : w.heap.size ≤ gb375)); clear HB; have HB := n0_; have BK375 := n1_; have GW375 := n2_; have GE375 := n3_; clear n0_ n1_ n2_ n3_; clear hb hbox hg))
 (try simp only [Act.put, La_, Lb_, Lc_])
 go_cut [64] (fun v64 wc => ∃ (kq : Nat) (x64_5 : Bool), v64 = .bool x64_5 ∧ Aside0 (flagstonelaw11_FlockOtherA.j0 kq a1 a2 a3 a4 x64_5 l0_0 l0_1 = some r) ∧ Aside0 (kq ≤ k) ∧ Aside0 (wc.heap[gb375]? = some (.cells #[(.slice A0_0 l0_0.length c0_0), (.slice A0_1 l0_1.length c0_1)] 25 (0, 0))) ∧ Aside0 (Below w.heap.size w wc))
 case first =>
  have H := HC6.out
  clear HC6
  replace H := Option.bind_eq_some_iff.mp H
  obtain ⟨t376, A80, H⟩ := H
  replace H : (if t376 = true then (if a1 < 0 then (none) else (if a2 < 0 then (none) else (if a1 ≥ (l0_0.length : Int) then (none) else (if a2 ≥ (l0_0.length : Int) then (none) else (if 0 ≤ a1 then (if a1 < (l0_0.length : Int) then (if 0 ≤ a2 then (if a2 < (l0_0.length : Int) then (if ((rd_T44 l0_0 a1).f0) = ((rd_T44 l0_0 a2).f0) then (none) else ((flagstonelaw11_shown.f k).bind fun t379 => (flagstonelaw11_FlockOtherA.j0 k a1 a2 a3 a4 (!t379) l0_0 l0_1))) else (none)) else (none)) else (none)) else (none)))))) else (flagstonelaw11_FlockOtherA.j0 k a1 a2 a3 a4 true l0_0 l0_1)) = some r := H
  have A8 := Am_ A80
  clear A80
  by_cases c9 : t376 = true
  ·subst c9
   have H1 : (if a1 < 0 then (none) else (if a2 < 0 then (none) else (if a1 ≥ (l0_0.length : Int) then (none) else (if a2 ≥ (l0_0.length : Int) then (none) else (if 0 ≤ a1 then (if a1 < (l0_0.length : Int) then (if 0 ≤ a2 then (if a2 < (l0_0.length : Int) then (if ((rd_T44 l0_0 a1).f0) = ((rd_T44 l0_0 a2).f0) then (none) else ((flagstonelaw11_shown.f k).bind fun t379 => (flagstonelaw11_FlockOtherA.j0 k a1 a2 a3 a4 (!t379) l0_0 l0_1))) else (none)) else (none)) else (none)) else (none)))))) = some r := by rw [if_pos rfl] at H; exact H
   clear H
   have H := H1
   clear H1
   by_cases c10 : a1 < 0
   ·rw [if_pos c10] at H
    exact absurd H (by simp)
   ·rw [if_neg c10] at H
    have c10b0 : decide (a1 < 0) = false := Df_ c10
    clear c10
    (first | rw [c10b0] | (simp only [i64_w, i32_w]; rw [c10b0]) | skip)
    by_cases c11 : a2 < 0
    ·rw [if_pos c11] at H
     exact absurd H (by simp)
    ·rw [if_neg c11] at H
     have c11b0 : decide (a2 < 0) = false := Df_ c11
     clear c11
     by_cases c12 : a1 ≥ (l0_0.length : Int)
     ·rw [if_pos c12] at H
      exact absurd H (by simp)
     ·rw [if_neg c12] at H
      have c12b0 : decide ((l0_0.length : Int) ≤ a1) = false := Df_ c12
      clear c12
      by_cases c13 : a2 ≥ (l0_0.length : Int)
      ·rw [if_pos c13] at H
       exact absurd H (by simp)
      ·rw [if_neg c13] at H
       have c13b0 : decide ((l0_0.length : Int) ≤ a2) = false := Df_ c13
       clear c13
       by_cases c14 : 0 ≤ a1
       ·rw [if_pos c14] at H
        have c14b0 : decide (0 ≤ a1) = true := Dt_ c14
        clear c14
        by_cases c15 : a1 < (l0_0.length : Int)
        ·rw [if_pos c15] at H
         have c15b0 : decide (a1 < (l0_0.length : Int)) = true := Dt_ c15
         clear c15
         by_cases c16 : 0 ≤ a2
         ·rw [if_pos c16] at H
          have c16b0 : decide (0 ≤ a2) = true := Dt_ c16
          clear c16
          by_cases c17 : a2 < (l0_0.length : Int)
          ·rw [if_pos c17] at H
           have c17b0 : decide (a2 < (l0_0.length : Int)) = true := Dt_ c17
           clear c17
           by_cases c18 : ((rd_T44 l0_0 a1).f0) = ((rd_T44 l0_0 a2).f0)
           ·rw [if_pos c18] at H
            exact absurd H (by simp)
           ·rw [if_neg c18] at H
            have c18b0 : (((rd_T44 l0_0 a1).f0) == ((rd_T44 l0_0 a2).f0)) = false := beq_eq_false_iff_ne.mpr c18
            have c18b1 : (((rd_T44 l0_0 a1).f0) != ((rd_T44 l0_0 a2).f0)) = true := bne_iff_ne.mpr c18
            replace H := Option.bind_eq_some_iff.mp H
            obtain ⟨t379, A190, H⟩ := H
            replace H : (flagstonelaw11_FlockOtherA.j0 k a1 a2 a3 a4 (!t379) l0_0 l0_1) = some r := H
            have A19 := Am_ A190
            clear A190
            have H' := Am_ H
            clear H
            try go_wp2
            have n0_ := Am_ (Bd_ BK375.out)
            have n1_ := Am_ (Pd_ HB.out)
            clear BK375
            clear HB
            have BK375 := n0_
            have HB := n1_
            clear n0_ n1_
            have p377 : 0 ≤ (a1 : Int) := Ot_ (by first | (with_reducible assumption) | assumption)
            have q377 : a1 < (l0_0.length : Int) := Ot_ (by first | (with_reducible assumption) | assumption)
            obtain ⟨ad377, e377, hx377_0, hx377_1, hx377_2, hx377_3, hx377_4, hx377_5⟩ := at_T44 HR0_0.out a1 p377 q377
            have hw377_5 := hx377_5
            have hw377_4 := hx377_4
            have hw377_3 := hx377_3
            have hw377_2 := hx377_2
            have hw377_1 := hx377_1
            have hw377_0 := hx377_0
            cases e377
            replace hx377_0 := (HB.out.cell (Bl_ w _ hx377_0)).trans hx377_0
            replace hx377_1 := (HB.out.cell (Bl_ w _ hx377_1)).trans hx377_1
            replace hx377_2 := (HB.out.cell (Bl_ w _ hx377_2)).trans hx377_2
            replace hx377_3 := (HB.out.cell (Bl_ w _ hx377_3)).trans hx377_3
            replace hx377_4 := (HB.out.cell (Bl_ w _ hx377_4)).trans hx377_4
            replace hx377_5 := (HB.out.cell (Bl_ w _ hx377_5)).trans hx377_5
            replace p377 := eq_true p377
            replace q377 := eq_true q377
            have p378 : 0 ≤ (a2 : Int) := Ot_ (by first | (with_reducible assumption) | assumption)
            have q378 : a2 < (l0_0.length : Int) := Ot_ (by first | (with_reducible assumption) | assumption)
            obtain ⟨ad378, e378, hx378_0, hx378_1, hx378_2, hx378_3, hx378_4, hx378_5⟩ := at_T44 HR0_0.out a2 p378 q378
            have hw378_5 := hx378_5
            have hw378_4 := hx378_4
            have hw378_3 := hx378_3
            have hw378_2 := hx378_2
            have hw378_1 := hx378_1
            have hw378_0 := hx378_0
            obtain rfl : ad377 = ad378 := (by injection e378)
            replace hx378_0 := (HB.out.cell (Bl_ w _ hx378_0)).trans hx378_0
            replace hx378_1 := (HB.out.cell (Bl_ w _ hx378_1)).trans hx378_1
            replace hx378_2 := (HB.out.cell (Bl_ w _ hx378_2)).trans hx378_2
            replace hx378_3 := (HB.out.cell (Bl_ w _ hx378_3)).trans hx378_3
            replace hx378_4 := (HB.out.cell (Bl_ w _ hx378_4)).trans hx378_4
            replace hx378_5 := (HB.out.cell (Bl_ w _ hx378_5)).trans hx378_5
            replace p378 := eq_true p378
            replace q378 := eq_true q378
            refine start_ (n := 44) (S := fun w' => w'.cell? ⟨gb375, 0, none⟩ = some (.slice (some ad377) l0_0.length c0_0) ∧ w'.cell? ⟨gb375, 1, none⟩ = some (.slice A0_1 l0_1.length c0_1) ∧ w'.cell? (ad377.add ((a1).toNat * 6)) = some (.int .i64 ((rd_T44 l0_0 a1).f0)) ∧ w'.cell? ⟨(ad377.add ((a1).toNat * 6)).block, (ad377.add ((a1).toNat * 6)).off + 1, none⟩ = some (.int .i64 ((rd_T44 l0_0 a1).f1)) ∧ w'.cell? ⟨(ad377.add ((a1).toNat * 6)).block, (ad377.add ((a1).toNat * 6)).off + 2, none⟩ = some (.bool ((rd_T44 l0_0 a1).f2)) ∧ w'.cell? ⟨(ad377.add ((a1).toNat * 6)).block, (ad377.add ((a1).toNat * 6)).off + 3, none⟩ = some (.bool ((rd_T44 l0_0 a1).f3)) ∧ w'.cell? ⟨(ad377.add ((a1).toNat * 6)).block, (ad377.add ((a1).toNat * 6)).off + 4, none⟩ = some (.int .i64 ((rd_T44 l0_0 a1).f4)) ∧ w'.cell? ⟨(ad377.add ((a1).toNat * 6)).block, (ad377.add ((a1).toNat * 6)).off + 5, none⟩ = some (.int .i64 ((rd_T44 l0_0 a1).f5)) ∧ w'.cell? (ad377.add ((a2).toNat * 6)) = some (.int .i64 ((rd_T44 l0_0 a2).f0)) ∧ w'.cell? ⟨(ad377.add ((a2).toNat * 6)).block, (ad377.add ((a2).toNat * 6)).off + 1, none⟩ = some (.int .i64 ((rd_T44 l0_0 a2).f1)) ∧ w'.cell? ⟨(ad377.add ((a2).toNat * 6)).block, (ad377.add ((a2).toNat * 6)).off + 2, none⟩ = some (.bool ((rd_T44 l0_0 a2).f2)) ∧ w'.cell? ⟨(ad377.add ((a2).toNat * 6)).block, (ad377.add ((a2).toNat * 6)).off + 3, none⟩ = some (.bool ((rd_T44 l0_0 a2).f3)) ∧ w'.cell? ⟨(ad377.add ((a2).toNat * 6)).block, (ad377.add ((a2).toNat * 6)).off + 4, none⟩ = some (.int .i64 ((rd_T44 l0_0 a2).f4)) ∧ w'.cell? ⟨(ad377.add ((a2).toNat * 6)).block, (ad377.add ((a2).toNat * 6)).off + 5, none⟩ = some (.int .i64 ((rd_T44 l0_0 a2).f5))) (ds := []) #[f_,f_,f_,f_,f_,f_,f_,f_,f_,f_,f_,f_,f_,f_,f_,f_,f_,f_,f_,f_,f_,f_,f_,f_,f_,f_,f_,f_,f_,f_,f_,f_,f_,f_,f_,f_,f_,f_,f_,f_,f_,f_,f_,f_] (by kernel_rfl) rfl rfl ⟨(Bc_ BK375.out 0).trans rfl, (Bc_ BK375.out 1).trans rfl, ((HB.out.cell (Bl_ w _ hw377_0)).trans hw377_0), ((HB.out.cell (Bl_ w _ hw377_1)).trans hw377_1), ((HB.out.cell (Bl_ w _ hw377_2)).trans hw377_2), ((HB.out.cell (Bl_ w _ hw377_3)).trans hw377_3), ((HB.out.cell (Bl_ w _ hw377_4)).trans hw377_4), ((HB.out.cell (Bl_ w _ hw377_5)).trans hw377_5), ((HB.out.cell (Bl_ w _ hw378_0)).trans hw378_0), ((HB.out.cell (Bl_ w _ hw378_1)).trans hw378_1), ((HB.out.cell (Bl_ w _ hw378_2)).trans hw378_2), ((HB.out.cell (Bl_ w _ hw378_3)).trans hw378_3), ((HB.out.cell (Bl_ w _ hw378_4)).trans hw378_4), ((HB.out.cell (Bl_ w _ hw378_5)).trans hw378_5)⟩ (fun hHeld => ?_); refine with_tabW flagstonelaw11_FlockOtherA.tab1 flagstonelaw11_FlockOtherA.bits1 (fun HT_ HW_ => ?_)
            generalize w7.drew = w20 at BK375 HB hx377_0 hx377_1 hx377_2 hx377_3 hx377_4 hx377_5 hx378_0 hx378_1 hx378_2 hx378_3 hx378_4 hx378_5 hHeld ⊢
            refine take_ (i := 0) (N := some 21) (v := ?_) (a' := ?_) #[t_,f_,f_,f_,f_,f_,f_,f_,f_,f_,f_,f_,f_,f_,f_,f_,f_,f_,f_,f_,f_,f_,f_,f_,f_,f_,f_,f_,f_,f_,f_,f_,f_,f_,f_,f_,f_,f_,f_,f_,f_,f_,f_,f_] rfl rfl (take_ofW HT_.out HW_.out (by kernel_rfl)) (fun _ _ _ h => h) (Or.inl ⟨by rfl, ?_⟩) hHeld ?_ ?_
            rotate_left
            ·rintro w' ⟨s0, s1, s2, s3, s4, s5, s6, s7, s8, s9, s10, s11, s12, s13⟩
             go_simp
             with_reducible rfl
            rotate_left
            ·simp only [Act.put, La_, Lb_, Lc_, i64_w, i32_w]
             rfl
            refine one_ (i := 1) (N := some 22) #[t_,t_,f_,f_,f_,f_,f_,f_,f_,f_,f_,f_,f_,f_,f_,f_,f_,f_,f_,f_,f_,f_,f_,f_,f_,f_,f_,f_,f_,f_,f_,f_,f_,f_,f_,f_,f_,f_,f_,f_,f_,f_,f_,f_] rfl rfl (one_of HT_.out (by kernel_rfl)) (by decide) (fun K hK => ?_)
            refine goes_ Try.func9 (by kernel_rfl) rfl #[.agg #[.slice (some ad377) l0_0.length c0_0, .slice A0_1 l0_1.length c0_1]] (by rfl) rfl rfl (by (try simp only [List.map_toArray, List.map_cons, List.map_nil]); first | done | rfl | (simp only [List.length_drop, List.length_take]; rfl)) ?_
            with_reducible refine (flagstonelaw11_fine.calls k _ _ l0_0 _ _ l0_1 true _ ?side1 ?side2 ?side3 ?side4 A8.out).mono ?_
            (case side1 => repeat (first | exact (Kd.C_below HR0_0.out HB.out) | (with_reducible refine Kd.C_alloc ?_ _) | (with_reducible refine Kd.C_drewN ?_ _) | (with_reducible refine Kd.C_drew ?_)))
            (case side2 => exact HC0_0.out)
            (case side3 => repeat (first | exact (Kd.C_below HR0_1.out HB.out) | (with_reducible refine Kd.C_alloc ?_ _) | (with_reducible refine Kd.C_drewN ?_ _) | (with_reducible refine Kd.C_drew ?_)))
            (case side4 => exact HC0_1.out)
            rintro e w21 ⟨rfl, hb⟩
            refine ⟨_, rfl, ?_⟩
            have n0_ := Am_ (Bb_ (g := gb375) (o := .cells #[.slice (some ad377) l0_0.length c0_0, .slice A0_1 l0_1.length c0_1] 25 (0, 0)) (by (with_reducible repeat (first | refine Bn_ ?_ _ | refine Bd_ ?_ | refine Ba_ ?_ _)); exact BK375.out) hb)
            have n1_ := Am_ (Be_ (by repeat (first | (with_reducible first | exact HB.out | apply Pa_ | apply Pn_ | apply Pd_ | refine Bs_ ?_ GE375.out) | exact HB.out)) hb)
            clear BK375
            clear HB
            have BK375 := n0_
            have HB := n1_
            clear n0_ n1_
            (try clear hb)
            (try clear hb2)
            (try clear hk)
            (try clear hi)
            refine hK.out _ _ ⟨(Bc_ BK375.out 0).trans rfl, (Bc_ BK375.out 1).trans rfl, ((HB.out.cell (Bl_ w _ hw377_0)).trans hw377_0), ((HB.out.cell (Bl_ w _ hw377_1)).trans hw377_1), ((HB.out.cell (Bl_ w _ hw377_2)).trans hw377_2), ((HB.out.cell (Bl_ w _ hw377_3)).trans hw377_3), ((HB.out.cell (Bl_ w _ hw377_4)).trans hw377_4), ((HB.out.cell (Bl_ w _ hw377_5)).trans hw377_5), ((HB.out.cell (Bl_ w _ hw378_0)).trans hw378_0), ((HB.out.cell (Bl_ w _ hw378_1)).trans hw378_1), ((HB.out.cell (Bl_ w _ hw378_2)).trans hw378_2), ((HB.out.cell (Bl_ w _ hw378_3)).trans hw378_3), ((HB.out.cell (Bl_ w _ hw378_4)).trans hw378_4), ((HB.out.cell (Bl_ w _ hw378_5)).trans hw378_5)⟩ (fun hHeld => ?_)
            clear hK K
            refine norm_ (a' := ?_) ?_ ?_
            rotate_left
            ·show Act.put _ (some 22) _ = _
             simp only [Act.put, La_, Lb_, Lc_, i64_w, i32_w]
             rfl
            refine pure_ (i := 2) (N := some 23) (v := ?_) (a' := ?_) #[t_,t_,t_,f_,f_,f_,f_,f_,f_,f_,f_,f_,f_,f_,f_,f_,f_,f_,f_,f_,f_,f_,f_,f_,f_,f_,f_,f_,f_,f_,f_,f_,f_,f_,f_,f_,f_,f_,f_,f_,f_,f_,f_,f_] rfl rfl (any_of HT_.out (by kernel_rfl)) (fun _ _ _ h => h) (Or.inl ⟨by rfl, ?_⟩) ?_ ?_
            rotate_left
            ·intro w'
             go_simp
             with_reducible rfl
            rotate_left
            ·simp only [Act.put, La_, Lb_, Lc_, i64_w, i32_w]
             rfl
            refine pure_ (i := 3) (N := some 24) (v := ?_) (a' := ?_) #[t_,t_,t_,t_,f_,f_,f_,f_,f_,f_,f_,f_,f_,f_,f_,f_,f_,f_,f_,f_,f_,f_,f_,f_,f_,f_,f_,f_,f_,f_,f_,f_,f_,f_,f_,f_,f_,f_,f_,f_,f_,f_,f_,f_] rfl rfl (any_of HT_.out (by kernel_rfl)) (fun _ _ _ h => h) (Or.inl ⟨by rfl, ?_⟩) ?_ ?_
            rotate_left
            ·intro w'
             go_simp
             with_reducible rfl
            rotate_left
            ·simp only [Act.put, La_, Lb_, Lc_, i64_w, i32_w]
             rfl
            refine pure_ (i := 4) (N := some 25) (v := ?_) (a' := ?_) #[t_,t_,t_,t_,t_,f_,f_,f_,f_,f_,f_,f_,f_,f_,f_,f_,f_,f_,f_,f_,f_,f_,f_,f_,f_,f_,f_,f_,f_,f_,f_,f_,f_,f_,f_,f_,f_,f_,f_,f_,f_,f_,f_,f_] rfl rfl (any_of HT_.out (by kernel_rfl)) (fun _ _ _ h => h) (Or.inl ⟨by rfl, ?_⟩) ?_ ?_
            rotate_left
            ·intro w'
             go_simp
             with_reducible rfl
            rotate_left
            ·simp only [Act.put, La_, Lb_, Lc_, i64_w, i32_w]
             rfl
            refine pure_ (i := 5) (N := some 26) (v := ?_) (a' := ?_) #[t_,t_,t_,t_,t_,t_,f_,f_,f_,f_,f_,f_,f_,f_,f_,f_,f_,f_,f_,f_,f_,f_,f_,f_,f_,f_,f_,f_,f_,f_,f_,f_,f_,f_,f_,f_,f_,f_,f_,f_,f_,f_,f_,f_] rfl rfl (any_of HT_.out (by kernel_rfl)) (fun _ _ _ h => h) (Or.inl ⟨by rfl, ?_⟩) ?_ ?_
            rotate_left
            ·intro w'
             go_simp
             with_reducible rfl
            rotate_left
            ·simp only [Act.put, La_, Lb_, Lc_, i64_w, i32_w]
             rfl
            refine pure_ (i := 6) (N := some 27) (v := ?_) (a' := ?_) #[t_,t_,t_,t_,t_,t_,t_,f_,f_,f_,f_,f_,f_,f_,f_,f_,f_,f_,f_,f_,f_,f_,f_,f_,f_,f_,f_,f_,f_,f_,f_,f_,f_,f_,f_,f_,f_,f_,f_,f_,f_,f_,f_,f_] rfl rfl (any_of HT_.out (by kernel_rfl)) (fun _ _ _ h => h) (Or.inl ⟨by rfl, ?_⟩) ?_ ?_
            rotate_left
            ·intro w'
             go_simp
             with_reducible rfl
            rotate_left
            ·simp only [Act.put, La_, Lb_, Lc_, i64_w, i32_w]
             rfl
            refine pure_ (i := 7) (N := some 28) (v := ?_) (a' := ?_) #[t_,t_,t_,t_,t_,t_,t_,t_,f_,f_,f_,f_,f_,f_,f_,f_,f_,f_,f_,f_,f_,f_,f_,f_,f_,f_,f_,f_,f_,f_,f_,f_,f_,f_,f_,f_,f_,f_,f_,f_,f_,f_,f_,f_] rfl rfl (any_of HT_.out (by kernel_rfl)) (fun _ _ _ h => h) (Or.inl ⟨by rfl, ?_⟩) ?_ ?_
            rotate_left
            ·intro w'
             go_simp
             with_reducible rfl
            rotate_left
            ·simp only [Act.put, La_, Lb_, Lc_, i64_w, i32_w]
             rfl
            refine pure_ (i := 8) (N := some 29) (v := ?_) (a' := ?_) #[t_,t_,t_,t_,t_,t_,t_,t_,t_,f_,f_,f_,f_,f_,f_,f_,f_,f_,f_,f_,f_,f_,f_,f_,f_,f_,f_,f_,f_,f_,f_,f_,f_,f_,f_,f_,f_,f_,f_,f_,f_,f_,f_,f_] rfl rfl (any_of HT_.out (by kernel_rfl)) (fun _ _ _ h => h) (Or.inl ⟨by rfl, ?_⟩) ?_ ?_
            rotate_left
            ·intro w'
             go_simp
             with_reducible rfl
            rotate_left
            ·simp only [Act.put, La_, Lb_, Lc_, i64_w, i32_w]
             rfl
            refine pure_ (i := 9) (N := some 30) (v := ?_) (a' := ?_) #[t_,t_,t_,t_,t_,t_,t_,t_,t_,t_,f_,f_,f_,f_,f_,f_,f_,f_,f_,f_,f_,f_,f_,f_,f_,f_,f_,f_,f_,f_,f_,f_,f_,f_,f_,f_,f_,f_,f_,f_,f_,f_,f_,f_] rfl rfl (any_of HT_.out (by kernel_rfl)) (fun _ _ _ h => h) (Or.inl ⟨by rfl, ?_⟩) ?_ ?_
            rotate_left
            ·intro w'
             go_simp
             with_reducible rfl
            rotate_left
            ·simp only [Act.put, La_, Lb_, Lc_, i64_w, i32_w]
             rfl
            refine pure_ (i := 10) (N := some 31) (v := ?_) (a' := ?_) #[t_,t_,t_,t_,t_,t_,t_,t_,t_,t_,t_,f_,f_,f_,f_,f_,f_,f_,f_,f_,f_,f_,f_,f_,f_,f_,f_,f_,f_,f_,f_,f_,f_,f_,f_,f_,f_,f_,f_,f_,f_,f_,f_,f_] rfl rfl (any_of HT_.out (by kernel_rfl)) (fun _ _ _ h => h) (Or.inl ⟨by rfl, ?_⟩) ?_ ?_
            rotate_left
            ·intro w'
             go_simp
             with_reducible rfl
            rotate_left
            ·simp only [Act.put, La_, Lb_, Lc_, i64_w, i32_w]
             rfl
            refine pure_ (i := 11) (N := some 32) (v := ?_) (a' := ?_) #[t_,t_,t_,t_,t_,t_,t_,t_,t_,t_,t_,t_,f_,f_,f_,f_,f_,f_,f_,f_,f_,f_,f_,f_,f_,f_,f_,f_,f_,f_,f_,f_,f_,f_,f_,f_,f_,f_,f_,f_,f_,f_,f_,f_] rfl rfl (any_of HT_.out (by kernel_rfl)) (fun _ _ _ h => h) (Or.inl ⟨by rfl, ?_⟩) ?_ ?_
            rotate_left
            ·intro w'
             go_simp
             with_reducible rfl
            rotate_left
            ·simp only [Act.put, La_, Lb_, Lc_, i64_w, i32_w]
             rfl
            refine pure_ (i := 12) (N := some 33) (v := ?_) (a' := ?_) #[t_,t_,t_,t_,t_,t_,t_,t_,t_,t_,t_,t_,t_,f_,f_,f_,f_,f_,f_,f_,f_,f_,f_,f_,f_,f_,f_,f_,f_,f_,f_,f_,f_,f_,f_,f_,f_,f_,f_,f_,f_,f_,f_,f_] rfl rfl (any_of HT_.out (by kernel_rfl)) (fun _ _ _ h => h) (Or.inl ⟨by rfl, ?_⟩) ?_ ?_
            rotate_left
            ·intro w'
             go_simp
             with_reducible rfl
            rotate_left
            ·simp only [Act.put, La_, Lb_, Lc_, i64_w, i32_w]
             rfl
            refine pure_ (i := 13) (N := some 34) (v := ?_) (a' := ?_) #[t_,t_,t_,t_,t_,t_,t_,t_,t_,t_,t_,t_,t_,t_,f_,f_,f_,f_,f_,f_,f_,f_,f_,f_,f_,f_,f_,f_,f_,f_,f_,f_,f_,f_,f_,f_,f_,f_,f_,f_,f_,f_,f_,f_] rfl rfl (any_of HT_.out (by kernel_rfl)) (fun _ _ _ h => h) (Or.inl ⟨by rfl, ?_⟩) ?_ ?_
            rotate_left
            ·intro w'
             go_simp
             with_reducible rfl
            rotate_left
            ·simp only [Act.put, La_, Lb_, Lc_, i64_w, i32_w]
             rfl
            refine take_ (i := 14) (N := some 35) (v := ?_) (a' := ?_) #[t_,t_,t_,t_,t_,t_,t_,t_,t_,t_,t_,t_,t_,t_,t_,f_,f_,f_,f_,f_,f_,f_,f_,f_,f_,f_,f_,f_,f_,f_,f_,f_,f_,f_,f_,f_,f_,f_,f_,f_,f_,f_,f_,f_] rfl rfl (take_ofW HT_.out HW_.out (by kernel_rfl)) (fun _ _ _ h => h) (Or.inl ⟨by rfl, ?_⟩) hHeld ?_ ?_
            rotate_left
            ·rintro w' ⟨s0, s1, s2, s3, s4, s5, s6, s7, s8, s9, s10, s11, s12, s13⟩
             go_simp
             with_reducible rfl
            rotate_left
            ·simp only [Act.put, La_, Lb_, Lc_, i64_w, i32_w]
             rfl
            refine pure_ (i := 15) (N := some 36) (v := ?_) (a' := ?_) #[t_,t_,t_,t_,t_,t_,t_,t_,t_,t_,t_,t_,t_,t_,t_,t_,f_,f_,f_,f_,f_,f_,f_,f_,f_,f_,f_,f_,f_,f_,f_,f_,f_,f_,f_,f_,f_,f_,f_,f_,f_,f_,f_,f_] rfl rfl (any_of HT_.out (by kernel_rfl)) (fun _ _ _ h => h) (Or.inl ⟨by rfl, ?_⟩) ?_ ?_
            rotate_left
            ·intro w'
             go_simp
             with_reducible rfl
            rotate_left
            ·simp only [Act.put, La_, Lb_, Lc_, i64_w, i32_w]
             rfl
            refine pure_ (i := 16) (N := some 37) (v := ?_) (a' := ?_) #[t_,t_,t_,t_,t_,t_,t_,t_,t_,t_,t_,t_,t_,t_,t_,t_,t_,f_,f_,f_,f_,f_,f_,f_,f_,f_,f_,f_,f_,f_,f_,f_,f_,f_,f_,f_,f_,f_,f_,f_,f_,f_,f_,f_] rfl rfl (any_of HT_.out (by kernel_rfl)) (fun _ _ _ h => h) (Or.inl ⟨by rfl, ?_⟩) ?_ ?_
            rotate_left
            ·intro w'
             go_simp
             with_reducible rfl
            rotate_left
            ·simp only [Act.put, La_, Lb_, Lc_, i64_w, i32_w]
             rfl
            refine pure_ (i := 17) (N := some 38) (v := ?_) (a' := ?_) #[t_,t_,t_,t_,t_,t_,t_,t_,t_,t_,t_,t_,t_,t_,t_,t_,t_,t_,f_,f_,f_,f_,f_,f_,f_,f_,f_,f_,f_,f_,f_,f_,f_,f_,f_,f_,f_,f_,f_,f_,f_,f_,f_,f_] rfl rfl (any_of HT_.out (by kernel_rfl)) (fun _ _ _ h => h) (Or.inl ⟨by rfl, ?_⟩) ?_ ?_
            rotate_left
            ·intro w'
             go_simp
             with_reducible rfl
            rotate_left
            ·simp only [Act.put, La_, Lb_, Lc_, i64_w, i32_w]
             rfl
            refine pure_ (i := 18) (N := some 39) (v := ?_) (a' := ?_) #[t_,t_,t_,t_,t_,t_,t_,t_,t_,t_,t_,t_,t_,t_,t_,t_,t_,t_,t_,f_,f_,f_,f_,f_,f_,f_,f_,f_,f_,f_,f_,f_,f_,f_,f_,f_,f_,f_,f_,f_,f_,f_,f_,f_] rfl rfl (any_of HT_.out (by kernel_rfl)) (fun _ _ _ h => h) (Or.inl ⟨by rfl, ?_⟩) ?_ ?_
            rotate_left
            ·intro w'
             go_simp
             with_reducible rfl
            rotate_left
            ·simp only [Act.put, La_, Lb_, Lc_, i64_w, i32_w]
             rfl
            refine pure_ (i := 19) (N := some 40) (v := ?_) (a' := ?_) #[t_,t_,t_,t_,t_,t_,t_,t_,t_,t_,t_,t_,t_,t_,t_,t_,t_,t_,t_,t_,f_,f_,f_,f_,f_,f_,f_,f_,f_,f_,f_,f_,f_,f_,f_,f_,f_,f_,f_,f_,f_,f_,f_,f_] rfl rfl (any_of HT_.out (by kernel_rfl)) (fun _ _ _ h => h) (Or.inl ⟨by rfl, ?_⟩) ?_ ?_
            rotate_left
            ·intro w'
             go_simp
             with_reducible rfl
            rotate_left
            ·simp only [Act.put, La_, Lb_, Lc_, i64_w, i32_w]
             rfl
            refine pure_ (i := 20) (N := some 41) (v := ?_) (a' := ?_) #[t_,t_,t_,t_,t_,t_,t_,t_,t_,t_,t_,t_,t_,t_,t_,t_,t_,t_,t_,t_,t_,f_,f_,f_,f_,f_,f_,f_,f_,f_,f_,f_,f_,f_,f_,f_,f_,f_,f_,f_,f_,f_,f_,f_] rfl rfl (any_of HT_.out (by kernel_rfl)) (fun _ _ _ h => h) (Or.inl ⟨by rfl, ?_⟩) ?_ ?_
            rotate_left
            ·intro w'
             go_simp
             with_reducible rfl
            rotate_left
            ·simp only [Act.put, La_, Lb_, Lc_, i64_w, i32_w]
             rfl
            refine take_ (i := 21) (N := some 42) (v := ?_) (a' := ?_) #[t_,t_,t_,t_,t_,t_,t_,t_,t_,t_,t_,t_,t_,t_,t_,t_,t_,t_,t_,t_,t_,t_,f_,f_,f_,f_,f_,f_,f_,f_,f_,f_,f_,f_,f_,f_,f_,f_,f_,f_,f_,f_,f_,f_] rfl rfl (take_ofW HT_.out HW_.out (by kernel_rfl)) (fun _ _ _ h => h) (Or.inl ⟨by rfl, ?_⟩) hHeld ?_ ?_
            rotate_left
            ·rintro w' ⟨s0, s1, s2, s3, s4, s5, s6, s7, s8, s9, s10, s11, s12, s13⟩
             go_simp
             with_reducible rfl
            rotate_left
            ·simp only [Act.put, La_, Lb_, Lc_, i64_w, i32_w]
             rfl
            refine pure_ (i := 22) (N := some 43) (v := ?_) (a' := ?_) #[t_,t_,t_,t_,t_,t_,t_,t_,t_,t_,t_,t_,t_,t_,t_,t_,t_,t_,t_,t_,t_,t_,t_,f_,f_,f_,f_,f_,f_,f_,f_,f_,f_,f_,f_,f_,f_,f_,f_,f_,f_,f_,f_,f_] rfl rfl (any_of HT_.out (by kernel_rfl)) (fun _ _ _ h => h) (Or.inl ⟨by rfl, ?_⟩) ?_ ?_
            rotate_left
            ·intro w'
             go_simp
             with_reducible rfl
            rotate_left
            ·simp only [Act.put, La_, Lb_, Lc_, i64_w, i32_w]
             rfl
            refine pure_ (i := 23) (N := some 44) (v := ?_) (a' := ?_) #[t_,t_,t_,t_,t_,t_,t_,t_,t_,t_,t_,t_,t_,t_,t_,t_,t_,t_,t_,t_,t_,t_,t_,t_,f_,f_,f_,f_,f_,f_,f_,f_,f_,f_,f_,f_,f_,f_,f_,f_,f_,f_,f_,f_] rfl rfl (any_of HT_.out (by kernel_rfl)) (fun _ _ _ h => h) (Or.inl ⟨by rfl, ?_⟩) ?_ ?_
            rotate_left
            ·intro w'
             go_simp
             with_reducible rfl
            rotate_left
            ·simp only [Act.put, La_, Lb_, Lc_, i64_w, i32_w]
             rfl
            refine pure_ (i := 24) (N := some 45) (v := ?_) (a' := ?_) #[t_,t_,t_,t_,t_,t_,t_,t_,t_,t_,t_,t_,t_,t_,t_,t_,t_,t_,t_,t_,t_,t_,t_,t_,t_,f_,f_,f_,f_,f_,f_,f_,f_,f_,f_,f_,f_,f_,f_,f_,f_,f_,f_,f_] rfl rfl (any_of HT_.out (by kernel_rfl)) (fun _ _ _ h => h) (Or.inl ⟨by rfl, ?_⟩) ?_ ?_
            rotate_left
            ·intro w'
             go_simp
             with_reducible rfl
            rotate_left
            ·simp only [Act.put, La_, Lb_, Lc_, i64_w, i32_w]
             rfl
            refine pure_ (i := 25) (N := some 46) (v := ?_) (a' := ?_) #[t_,t_,t_,t_,t_,t_,t_,t_,t_,t_,t_,t_,t_,t_,t_,t_,t_,t_,t_,t_,t_,t_,t_,t_,t_,t_,f_,f_,f_,f_,f_,f_,f_,f_,f_,f_,f_,f_,f_,f_,f_,f_,f_,f_] rfl rfl (any_of HT_.out (by kernel_rfl)) (fun _ _ _ h => h) (Or.inl ⟨by rfl, ?_⟩) ?_ ?_
            rotate_left
            ·intro w'
             go_simp
             with_reducible rfl
            rotate_left
            ·simp only [Act.put, La_, Lb_, Lc_, i64_w, i32_w]
             rfl
            refine pure_ (i := 26) (N := some 47) (v := ?_) (a' := ?_) #[t_,t_,t_,t_,t_,t_,t_,t_,t_,t_,t_,t_,t_,t_,t_,t_,t_,t_,t_,t_,t_,t_,t_,t_,t_,t_,t_,f_,f_,f_,f_,f_,f_,f_,f_,f_,f_,f_,f_,f_,f_,f_,f_,f_] rfl rfl (any_of HT_.out (by kernel_rfl)) (fun _ _ _ h => h) (Or.inl ⟨by rfl, ?_⟩) ?_ ?_
            rotate_left
            ·intro w'
             go_simp
             with_reducible rfl
            rotate_left
            ·simp only [Act.put, La_, Lb_, Lc_, i64_w, i32_w]
             rfl
            refine pure_ (i := 28) (N := some 49) (v := ?_) (a' := ?_) #[t_,t_,t_,t_,t_,t_,t_,t_,t_,t_,t_,t_,t_,t_,t_,t_,t_,t_,t_,t_,t_,t_,t_,t_,t_,t_,t_,f_,t_,f_,f_,f_,f_,f_,f_,f_,f_,f_,f_,f_,f_,f_,f_,f_] rfl rfl (any_of HT_.out (by kernel_rfl)) (fun _ _ _ h => h) (Or.inl ⟨by rfl, ?_⟩) ?_ ?_
            rotate_left
            ·intro w'
             go_simp
             with_reducible rfl
            rotate_left
            ·simp only [Act.put, La_, Lb_, Lc_, i64_w, i32_w]
             rfl
            refine pure_ (i := 32) (N := some 53) (v := ?_) (a' := ?_) #[t_,t_,t_,t_,t_,t_,t_,t_,t_,t_,t_,t_,t_,t_,t_,t_,t_,t_,t_,t_,t_,t_,t_,t_,t_,t_,t_,f_,t_,f_,f_,f_,t_,f_,f_,f_,f_,f_,f_,f_,f_,f_,f_,f_] rfl rfl (any_of HT_.out (by kernel_rfl)) (fun _ _ _ h => h) (Or.inl ⟨by rfl, ?_⟩) ?_ ?_
            rotate_left
            ·intro w'
             go_simp
             with_reducible rfl
            rotate_left
            ·simp only [Act.put, La_, Lb_, Lc_, i64_w, i32_w]
             rfl
            refine pure_ (i := 34) (N := some 55) (v := ?_) (a' := ?_) #[t_,t_,t_,t_,t_,t_,t_,t_,t_,t_,t_,t_,t_,t_,t_,t_,t_,t_,t_,t_,t_,t_,t_,t_,t_,t_,t_,f_,t_,f_,f_,f_,t_,f_,t_,f_,f_,f_,f_,f_,f_,f_,f_,f_] rfl rfl (any_of HT_.out (by kernel_rfl)) (fun _ _ _ h => h) (Or.inl ⟨by rfl, ?_⟩) ?_ ?_
            rotate_left
            ·intro w'
             go_simp
             with_reducible rfl
            rotate_left
            ·simp only [Act.put, La_, Lb_, Lc_, i64_w, i32_w]
             rfl
            refine take_ (i := 27) (N := some 48) (v := ?_) (a' := ?_) #[t_,t_,t_,t_,t_,t_,t_,t_,t_,t_,t_,t_,t_,t_,t_,t_,t_,t_,t_,t_,t_,t_,t_,t_,t_,t_,t_,t_,t_,f_,f_,f_,t_,f_,t_,f_,f_,f_,f_,f_,f_,f_,f_,f_] rfl rfl (take_ofW HT_.out HW_.out (by kernel_rfl)) (fun _ _ _ h => h) (Or.inl ⟨by rfl, ?_⟩) hHeld ?_ ?_
            rotate_left
            ·rintro w' ⟨s0, s1, s2, s3, s4, s5, s6, s7, s8, s9, s10, s11, s12, s13⟩
             go_simp
             with_reducible rfl
            rotate_left
            ·simp only [Act.put, La_, Lb_, Lc_, i64_w, i32_w]
             rfl
            refine pure_ (i := 29) (N := some 50) (v := ?_) (a' := ?_) #[t_,t_,t_,t_,t_,t_,t_,t_,t_,t_,t_,t_,t_,t_,t_,t_,t_,t_,t_,t_,t_,t_,t_,t_,t_,t_,t_,t_,t_,t_,f_,f_,t_,f_,t_,f_,f_,f_,f_,f_,f_,f_,f_,f_] rfl rfl (any_of HT_.out (by kernel_rfl)) (fun _ _ _ h => h) (Or.inl ⟨by rfl, ?_⟩) ?_ ?_
            rotate_left
            ·intro w'
             go_simp
             with_reducible rfl
            rotate_left
            ·simp only [Act.put, La_, Lb_, Lc_, i64_w, i32_w]
             rfl
            refine pure_ (i := 30) (N := some 51) (v := ?_) (a' := ?_) #[t_,t_,t_,t_,t_,t_,t_,t_,t_,t_,t_,t_,t_,t_,t_,t_,t_,t_,t_,t_,t_,t_,t_,t_,t_,t_,t_,t_,t_,t_,t_,f_,t_,f_,t_,f_,f_,f_,f_,f_,f_,f_,f_,f_] rfl rfl (any_of HT_.out (by kernel_rfl)) (fun _ _ _ h => h) (Or.inl ⟨by rfl, ?_⟩) ?_ ?_
            rotate_left
            ·intro w'
             go_simp
             with_reducible rfl
            rotate_left
            ·simp only [Act.put, La_, Lb_, Lc_, i64_w, i32_w]
             rfl
            refine take_ (i := 31) (N := some 52) (v := ?_) (a' := ?_) #[t_,t_,t_,t_,t_,t_,t_,t_,t_,t_,t_,t_,t_,t_,t_,t_,t_,t_,t_,t_,t_,t_,t_,t_,t_,t_,t_,t_,t_,t_,t_,t_,t_,f_,t_,f_,f_,f_,f_,f_,f_,f_,f_,f_] rfl rfl (take_ofW HT_.out HW_.out (by kernel_rfl)) (fun _ _ _ h => h) (Or.inl ⟨by rfl, ?_⟩) hHeld ?_ ?_
            rotate_left
            ·rintro w' ⟨s0, s1, s2, s3, s4, s5, s6, s7, s8, s9, s10, s11, s12, s13⟩
             go_simp
             with_reducible rfl
            rotate_left
            ·simp only [Act.put, La_, Lb_, Lc_, i64_w, i32_w]
             rfl
            refine take_ (i := 33) (N := some 54) (v := ?_) (a' := ?_) #[t_,t_,t_,t_,t_,t_,t_,t_,t_,t_,t_,t_,t_,t_,t_,t_,t_,t_,t_,t_,t_,t_,t_,t_,t_,t_,t_,t_,t_,t_,t_,t_,t_,t_,t_,f_,f_,f_,f_,f_,f_,f_,f_,f_] rfl rfl (take_ofW HT_.out HW_.out (by kernel_rfl)) (fun _ _ _ h => h) (Or.inl ⟨by rfl, ?_⟩) hHeld ?_ ?_
            rotate_left
            ·rintro w' ⟨s0, s1, s2, s3, s4, s5, s6, s7, s8, s9, s10, s11, s12, s13⟩
             go_simp
             with_reducible rfl
            rotate_left
            ·simp only [Act.put, La_, Lb_, Lc_, i64_w, i32_w]
             rfl
            refine pure_ (i := 35) (N := some 56) (v := ?_) (a' := ?_) #[t_,t_,t_,t_,t_,t_,t_,t_,t_,t_,t_,t_,t_,t_,t_,t_,t_,t_,t_,t_,t_,t_,t_,t_,t_,t_,t_,t_,t_,t_,t_,t_,t_,t_,t_,t_,f_,f_,f_,f_,f_,f_,f_,f_] rfl rfl (any_of HT_.out (by kernel_rfl)) (fun _ _ _ h => h) (Or.inl ⟨by rfl, ?_⟩) ?_ ?_
            rotate_left
            ·intro w'
             go_simp
             with_reducible rfl
            rotate_left
            ·simp only [Act.put, La_, Lb_, Lc_, i64_w, i32_w]
             rfl
            refine pure_ (i := 36) (N := some 57) (v := ?_) (a' := ?_) #[t_,t_,t_,t_,t_,t_,t_,t_,t_,t_,t_,t_,t_,t_,t_,t_,t_,t_,t_,t_,t_,t_,t_,t_,t_,t_,t_,t_,t_,t_,t_,t_,t_,t_,t_,t_,t_,f_,f_,f_,f_,f_,f_,f_] rfl rfl (any_of HT_.out (by kernel_rfl)) (fun _ _ _ h => h) (Or.inl ⟨by rfl, ?_⟩) ?_ ?_
            rotate_left
            ·intro w'
             go_simp
             with_reducible rfl
            rotate_left
            ·simp only [Act.put, La_, Lb_, Lc_, i64_w, i32_w]
             rfl
            refine take_ (i := 37) (N := some 58) (v := ?_) (a' := ?_) #[t_,t_,t_,t_,t_,t_,t_,t_,t_,t_,t_,t_,t_,t_,t_,t_,t_,t_,t_,t_,t_,t_,t_,t_,t_,t_,t_,t_,t_,t_,t_,t_,t_,t_,t_,t_,t_,t_,f_,f_,f_,f_,f_,f_] rfl rfl (take_ofW HT_.out HW_.out (by kernel_rfl)) (fun _ _ _ h => h) (Or.inl ⟨by rfl, ?_⟩) hHeld ?_ ?_
            rotate_left
            ·rintro w' ⟨s0, s1, s2, s3, s4, s5, s6, s7, s8, s9, s10, s11, s12, s13⟩
             go_simp
             with_reducible rfl
            rotate_left
            ·simp only [Act.put, La_, Lb_, Lc_, i64_w, i32_w]
             rfl
            refine pure_ (i := 38) (N := some 59) (v := ?_) (a' := ?_) #[t_,t_,t_,t_,t_,t_,t_,t_,t_,t_,t_,t_,t_,t_,t_,t_,t_,t_,t_,t_,t_,t_,t_,t_,t_,t_,t_,t_,t_,t_,t_,t_,t_,t_,t_,t_,t_,t_,t_,f_,f_,f_,f_,f_] rfl rfl (any_of HT_.out (by kernel_rfl)) (fun _ _ _ h => h) (Or.inl ⟨by rfl, ?_⟩) ?_ ?_
            rotate_left
            ·intro w'
             go_simp
             with_reducible rfl
            rotate_left
            ·simp only [Act.put, La_, Lb_, Lc_, i64_w, i32_w]
             rfl
            refine pure_ (i := 39) (N := some 60) (v := ?_) (a' := ?_) #[t_,t_,t_,t_,t_,t_,t_,t_,t_,t_,t_,t_,t_,t_,t_,t_,t_,t_,t_,t_,t_,t_,t_,t_,t_,t_,t_,t_,t_,t_,t_,t_,t_,t_,t_,t_,t_,t_,t_,t_,f_,f_,f_,f_] rfl rfl (any_of HT_.out (by kernel_rfl)) (fun _ _ _ h => h) (Or.inl ⟨by rfl, ?_⟩) ?_ ?_
            rotate_left
            ·intro w'
             go_simp
             with_reducible rfl
            rotate_left
            ·simp only [Act.put, La_, Lb_, Lc_, i64_w, i32_w]
             rfl
            refine pure_ (i := 40) (N := some 61) (v := ?_) (a' := ?_) #[t_,t_,t_,t_,t_,t_,t_,t_,t_,t_,t_,t_,t_,t_,t_,t_,t_,t_,t_,t_,t_,t_,t_,t_,t_,t_,t_,t_,t_,t_,t_,t_,t_,t_,t_,t_,t_,t_,t_,t_,t_,f_,f_,f_] rfl rfl (any_of HT_.out (by kernel_rfl)) (fun _ _ _ h => h) (Or.inl ⟨by rfl, ?_⟩) ?_ ?_
            rotate_left
            ·intro w'
             go_simp
             with_reducible rfl
            rotate_left
            ·simp only [Act.put, La_, Lb_, Lc_, i64_w, i32_w]
             rfl
            refine one_ (i := 41) (N := some 62) #[t_,t_,t_,t_,t_,t_,t_,t_,t_,t_,t_,t_,t_,t_,t_,t_,t_,t_,t_,t_,t_,t_,t_,t_,t_,t_,t_,t_,t_,t_,t_,t_,t_,t_,t_,t_,t_,t_,t_,t_,t_,t_,f_,f_] rfl rfl (one_of HT_.out (by kernel_rfl)) (by decide) (fun K hK => ?_)
            refine goes_ Try.func10 (by kernel_rfl) rfl #[] (by rfl) rfl rfl (by (try simp only [List.map_toArray, List.map_cons, List.map_nil]); first | done | rfl | (simp only [List.length_drop, List.length_take]; rfl)) ?_
            with_reducible refine (flagstonelaw11_shown.calls k  t379 _ A19.out).mono ?_
            rintro e w22 ⟨rfl, hb⟩
            refine ⟨_, rfl, ?_⟩
            have n0_ := Am_ (Bb_ (g := gb375) (o := .cells #[.slice (some ad377) l0_0.length c0_0, .slice A0_1 l0_1.length c0_1] 25 (0, 0)) (by (with_reducible repeat (first | refine Bn_ ?_ _ | refine Bd_ ?_ | refine Ba_ ?_ _)); exact BK375.out) hb)
            have n1_ := Am_ (Be_ (by repeat (first | (with_reducible first | exact HB.out | apply Pa_ | apply Pn_ | apply Pd_ | refine Bs_ ?_ GE375.out) | exact HB.out)) hb)
            clear BK375
            clear HB
            have BK375 := n0_
            have HB := n1_
            clear n0_ n1_
            (try clear hb)
            (try clear hb2)
            (try clear hk)
            (try clear hi)
            refine hK.out _ _ ⟨(Bc_ BK375.out 0).trans rfl, (Bc_ BK375.out 1).trans rfl, ((HB.out.cell (Bl_ w _ hw377_0)).trans hw377_0), ((HB.out.cell (Bl_ w _ hw377_1)).trans hw377_1), ((HB.out.cell (Bl_ w _ hw377_2)).trans hw377_2), ((HB.out.cell (Bl_ w _ hw377_3)).trans hw377_3), ((HB.out.cell (Bl_ w _ hw377_4)).trans hw377_4), ((HB.out.cell (Bl_ w _ hw377_5)).trans hw377_5), ((HB.out.cell (Bl_ w _ hw378_0)).trans hw378_0), ((HB.out.cell (Bl_ w _ hw378_1)).trans hw378_1), ((HB.out.cell (Bl_ w _ hw378_2)).trans hw378_2), ((HB.out.cell (Bl_ w _ hw378_3)).trans hw378_3), ((HB.out.cell (Bl_ w _ hw378_4)).trans hw378_4), ((HB.out.cell (Bl_ w _ hw378_5)).trans hw378_5)⟩ (fun hHeld => ?_)
            clear hK K
            refine norm_ (a' := ?_) ?_ ?_
            rotate_left
            ·show Act.put _ (some 62) _ = _
             simp only [Act.put, La_, Lb_, Lc_, i64_w, i32_w]
             rfl
            refine pure_ (i := 42) (N := some 63) (v := ?_) (a' := ?_) #[t_,t_,t_,t_,t_,t_,t_,t_,t_,t_,t_,t_,t_,t_,t_,t_,t_,t_,t_,t_,t_,t_,t_,t_,t_,t_,t_,t_,t_,t_,t_,t_,t_,t_,t_,t_,t_,t_,t_,t_,t_,t_,t_,f_] rfl rfl (any_of HT_.out (by kernel_rfl)) (fun _ _ _ h => h) (Or.inl ⟨by rfl, ?_⟩) ?_ ?_
            rotate_left
            ·intro w'
             go_simp
             with_reducible rfl
            rotate_left
            ·simp only [Act.put, La_, Lb_, Lc_, i64_w, i32_w]
             rfl
            refine pure_ (i := 43) (N := some 64) (v := ?_) (a' := ?_) #[t_,t_,t_,t_,t_,t_,t_,t_,t_,t_,t_,t_,t_,t_,t_,t_,t_,t_,t_,t_,t_,t_,t_,t_,t_,t_,t_,t_,t_,t_,t_,t_,t_,t_,t_,t_,t_,t_,t_,t_,t_,t_,t_,t_] rfl rfl (any_of HT_.out (by kernel_rfl)) (fun _ _ _ h => h) (Or.inl ⟨by rfl, ?_⟩) ?_ ?_
            rotate_left
            ·intro w'
             go_simp
             with_reducible rfl
            rotate_left
            ·simp only [Act.put, La_, Lb_, Lc_, i64_w, i32_w]
             rfl
            refine done_ (done_of HT_.out (by kernel_rfl)) ?_
            try go_wp2
            go_meet
            case rel => exact ⟨_, (!t379), (by first | rfl | (simp; done) | (simp [*]; done)), H', ⟨by first | omega | exact Nat.le_refl _⟩, ⟨by (with_reducible repeat (first | refine Bn_ ?_ _ | refine Bd_ ?_ | refine Ba_ ?_ _)); exact BK375.out⟩, ⟨by repeat (first | (with_reducible first | exact HB.out | apply Pa_ | apply Pn_ | apply Pd_ | refine Bs_ ?_ GE375.out) | exact HB.out)⟩⟩
          ·rw [if_neg c17] at H
           exact absurd H (by simp)
         ·rw [if_neg c16] at H
          exact absurd H (by simp)
        ·rw [if_neg c15] at H
         exact absurd H (by simp)
       ·rw [if_neg c14] at H
        exact absurd H (by simp)
  ·replace c9 := Bool.eq_false_iff.mpr c9
   subst c9
   have H1 : (flagstonelaw11_FlockOtherA.j0 k a1 a2 a3 a4 true l0_0 l0_1) = some r := by rw [if_neg (show ¬ (false = true) by decide)] at H; exact H
   clear H
   have H := H1
   clear H1
   have H' := Am_ H
   clear H
   try go_wp2
   have n0_ := Am_ (Bd_ BK375.out)
   have n1_ := Am_ (Pd_ HB.out)
   clear BK375
   clear HB
   have BK375 := n0_
   have HB := n1_
   clear n0_ n1_
   refine start_ (n := 44) (S := fun w' => w'.cell? ⟨gb375, 0, none⟩ = some (.slice A0_0 l0_0.length c0_0) ∧ w'.cell? ⟨gb375, 1, none⟩ = some (.slice A0_1 l0_1.length c0_1)) (ds := []) #[f_,f_,f_,f_,f_,f_,f_,f_,f_,f_,f_,f_,f_,f_,f_,f_,f_,f_,f_,f_,f_,f_,f_,f_,f_,f_,f_,f_,f_,f_,f_,f_,f_,f_,f_,f_,f_,f_,f_,f_,f_,f_,f_,f_] (by kernel_rfl) rfl rfl ⟨(Bc_ BK375.out 0).trans rfl, (Bc_ BK375.out 1).trans rfl⟩ (fun hHeld => ?_); refine with_tabW flagstonelaw11_FlockOtherA.tab1 flagstonelaw11_FlockOtherA.bits1 (fun HT_ HW_ => ?_)
   generalize w7.drew = w23 at BK375 HB hHeld ⊢
   refine take_ (i := 0) (N := some 21) (v := ?_) (a' := ?_) #[t_,f_,f_,f_,f_,f_,f_,f_,f_,f_,f_,f_,f_,f_,f_,f_,f_,f_,f_,f_,f_,f_,f_,f_,f_,f_,f_,f_,f_,f_,f_,f_,f_,f_,f_,f_,f_,f_,f_,f_,f_,f_,f_,f_] rfl rfl (take_ofW HT_.out HW_.out (by kernel_rfl)) (fun _ _ _ h => h) (Or.inl ⟨by rfl, ?_⟩) hHeld ?_ ?_
   rotate_left
   ·rintro w' ⟨s0, s1⟩
    go_simp
    with_reducible rfl
   rotate_left
   ·simp only [Act.put, La_, Lb_, Lc_, i64_w, i32_w]
    rfl
   refine one_ (i := 1) (N := some 22) #[t_,t_,f_,f_,f_,f_,f_,f_,f_,f_,f_,f_,f_,f_,f_,f_,f_,f_,f_,f_,f_,f_,f_,f_,f_,f_,f_,f_,f_,f_,f_,f_,f_,f_,f_,f_,f_,f_,f_,f_,f_,f_,f_,f_] rfl rfl (one_of HT_.out (by kernel_rfl)) (by decide) (fun K hK => ?_)
   refine goes_ Try.func9 (by kernel_rfl) rfl #[.agg #[.slice A0_0 l0_0.length c0_0, .slice A0_1 l0_1.length c0_1]] (by rfl) rfl rfl (by (try simp only [List.map_toArray, List.map_cons, List.map_nil]); first | done | rfl | (simp only [List.length_drop, List.length_take]; rfl)) ?_
   with_reducible refine (flagstonelaw11_fine.calls k _ _ l0_0 _ _ l0_1 false _ ?side1 ?side2 ?side3 ?side4 A8.out).mono ?_
   (case side1 => repeat (first | exact (Kd.C_below HR0_0.out HB.out) | (with_reducible refine Kd.C_alloc ?_ _) | (with_reducible refine Kd.C_drewN ?_ _) | (with_reducible refine Kd.C_drew ?_)))
   (case side2 => exact HC0_0.out)
   (case side3 => repeat (first | exact (Kd.C_below HR0_1.out HB.out) | (with_reducible refine Kd.C_alloc ?_ _) | (with_reducible refine Kd.C_drewN ?_ _) | (with_reducible refine Kd.C_drew ?_)))
   (case side4 => exact HC0_1.out)
   rintro e w24 ⟨rfl, hb⟩
   refine ⟨_, rfl, ?_⟩
   have n0_ := Am_ (Bb_ (g := gb375) (o := .cells #[.slice A0_0 l0_0.length c0_0, .slice A0_1 l0_1.length c0_1] 25 (0, 0)) (by (with_reducible repeat (first | refine Bn_ ?_ _ | refine Bd_ ?_ | refine Ba_ ?_ _)); exact BK375.out) hb)
   have n1_ := Am_ (Be_ (by repeat (first | (with_reducible first | exact HB.out | apply Pa_ | apply Pn_ | apply Pd_ | refine Bs_ ?_ GE375.out) | exact HB.out)) hb)
   clear BK375
   clear HB
   have BK375 := n0_
   have HB := n1_
   clear n0_ n1_
   (try clear hb)
   (try clear hb2)
   (try clear hk)
   (try clear hi)
   refine hK.out _ _ ⟨(Bc_ BK375.out 0).trans rfl, (Bc_ BK375.out 1).trans rfl⟩ (fun hHeld => ?_)
   clear hK K
   refine norm_ (a' := ?_) ?_ ?_
   rotate_left
   ·show Act.put _ (some 22) _ = _
    simp only [Act.put, La_, Lb_, Lc_, i64_w, i32_w]
    rfl
   refine pure_ (i := 2) (N := some 23) (v := ?_) (a' := ?_) #[t_,t_,t_,f_,f_,f_,f_,f_,f_,f_,f_,f_,f_,f_,f_,f_,f_,f_,f_,f_,f_,f_,f_,f_,f_,f_,f_,f_,f_,f_,f_,f_,f_,f_,f_,f_,f_,f_,f_,f_,f_,f_,f_,f_] rfl rfl (any_of HT_.out (by kernel_rfl)) (fun _ _ _ h => h) (Or.inl ⟨by rfl, ?_⟩) ?_ ?_
   rotate_left
   ·intro w'
    go_simp
    with_reducible rfl
   rotate_left
   ·simp only [Act.put, La_, Lb_, Lc_, i64_w, i32_w]
    rfl
   refine pure_ (i := 3) (N := some 24) (v := ?_) (a' := ?_) #[t_,t_,t_,t_,f_,f_,f_,f_,f_,f_,f_,f_,f_,f_,f_,f_,f_,f_,f_,f_,f_,f_,f_,f_,f_,f_,f_,f_,f_,f_,f_,f_,f_,f_,f_,f_,f_,f_,f_,f_,f_,f_,f_,f_] rfl rfl (any_of HT_.out (by kernel_rfl)) (fun _ _ _ h => h) (Or.inl ⟨by rfl, ?_⟩) ?_ ?_
   rotate_left
   ·intro w'
    go_simp
    with_reducible rfl
   rotate_left
   ·simp only [Act.put, La_, Lb_, Lc_, i64_w, i32_w]
    rfl
   refine pure_ (i := 4) (N := some 25) (v := undef) (a' := ?_) #[t_,t_,t_,t_,t_,f_,f_,f_,f_,f_,f_,f_,f_,f_,f_,f_,f_,f_,f_,f_,f_,f_,f_,f_,f_,f_,f_,f_,f_,f_,f_,f_,f_,f_,f_,f_,f_,f_,f_,f_,f_,f_,f_,f_] rfl rfl (any_of HT_.out (by kernel_rfl)) (fun _ _ _ h => h) (Or.inr ⟨by rfl, rfl⟩) ?_ ?_
   rotate_left
   ·simp only [Act.put, La_, Lb_, Lc_, i64_w, i32_w]
    rfl
   refine pure_ (i := 5) (N := some 26) (v := undef) (a' := ?_) #[t_,t_,t_,t_,t_,t_,f_,f_,f_,f_,f_,f_,f_,f_,f_,f_,f_,f_,f_,f_,f_,f_,f_,f_,f_,f_,f_,f_,f_,f_,f_,f_,f_,f_,f_,f_,f_,f_,f_,f_,f_,f_,f_,f_] rfl rfl (any_of HT_.out (by kernel_rfl)) (fun _ _ _ h => h) (Or.inr ⟨by rfl, rfl⟩) ?_ ?_
   rotate_left
   ·simp only [Act.put, La_, Lb_, Lc_, i64_w, i32_w]
    rfl
   refine pure_ (i := 6) (N := some 27) (v := ?_) (a' := ?_) #[t_,t_,t_,t_,t_,t_,t_,f_,f_,f_,f_,f_,f_,f_,f_,f_,f_,f_,f_,f_,f_,f_,f_,f_,f_,f_,f_,f_,f_,f_,f_,f_,f_,f_,f_,f_,f_,f_,f_,f_,f_,f_,f_,f_] rfl rfl (any_of HT_.out (by kernel_rfl)) (fun _ _ _ h => h) (Or.inl ⟨by rfl, ?_⟩) ?_ ?_
   rotate_left
   ·intro w'
    go_simp
    with_reducible rfl
   rotate_left
   ·simp only [Act.put, La_, Lb_, Lc_, i64_w, i32_w]
    rfl
   refine pure_ (i := 7) (N := some 28) (v := ?_) (a' := ?_) #[t_,t_,t_,t_,t_,t_,t_,t_,f_,f_,f_,f_,f_,f_,f_,f_,f_,f_,f_,f_,f_,f_,f_,f_,f_,f_,f_,f_,f_,f_,f_,f_,f_,f_,f_,f_,f_,f_,f_,f_,f_,f_,f_,f_] rfl rfl (any_of HT_.out (by kernel_rfl)) (fun _ _ _ h => h) (Or.inl ⟨by rfl, ?_⟩) ?_ ?_
   rotate_left
   ·intro w'
    go_simp
    with_reducible rfl
   rotate_left
   ·simp only [Act.put, La_, Lb_, Lc_, i64_w, i32_w]
    rfl
   refine pure_ (i := 8) (N := some 29) (v := undef) (a' := ?_) #[t_,t_,t_,t_,t_,t_,t_,t_,t_,f_,f_,f_,f_,f_,f_,f_,f_,f_,f_,f_,f_,f_,f_,f_,f_,f_,f_,f_,f_,f_,f_,f_,f_,f_,f_,f_,f_,f_,f_,f_,f_,f_,f_,f_] rfl rfl (any_of HT_.out (by kernel_rfl)) (fun _ _ _ h => h) (Or.inr ⟨by rfl, rfl⟩) ?_ ?_
   rotate_left
   ·simp only [Act.put, La_, Lb_, Lc_, i64_w, i32_w]
    rfl
   refine pure_ (i := 9) (N := some 30) (v := undef) (a' := ?_) #[t_,t_,t_,t_,t_,t_,t_,t_,t_,t_,f_,f_,f_,f_,f_,f_,f_,f_,f_,f_,f_,f_,f_,f_,f_,f_,f_,f_,f_,f_,f_,f_,f_,f_,f_,f_,f_,f_,f_,f_,f_,f_,f_,f_] rfl rfl (any_of HT_.out (by kernel_rfl)) (fun _ _ _ h => h) (Or.inr ⟨by rfl, rfl⟩) ?_ ?_
   rotate_left
   ·simp only [Act.put, La_, Lb_, Lc_, i64_w, i32_w]
    rfl
   refine pure_ (i := 10) (N := some 31) (v := ?_) (a' := ?_) #[t_,t_,t_,t_,t_,t_,t_,t_,t_,t_,t_,f_,f_,f_,f_,f_,f_,f_,f_,f_,f_,f_,f_,f_,f_,f_,f_,f_,f_,f_,f_,f_,f_,f_,f_,f_,f_,f_,f_,f_,f_,f_,f_,f_] rfl rfl (any_of HT_.out (by kernel_rfl)) (fun _ _ _ h => h) (Or.inl ⟨by rfl, ?_⟩) ?_ ?_
   rotate_left
   ·intro w'
    go_simp
    with_reducible rfl
   rotate_left
   ·simp only [Act.put, La_, Lb_, Lc_, i64_w, i32_w]
    rfl
   refine pure_ (i := 11) (N := some 32) (v := ?_) (a' := ?_) #[t_,t_,t_,t_,t_,t_,t_,t_,t_,t_,t_,t_,f_,f_,f_,f_,f_,f_,f_,f_,f_,f_,f_,f_,f_,f_,f_,f_,f_,f_,f_,f_,f_,f_,f_,f_,f_,f_,f_,f_,f_,f_,f_,f_] rfl rfl (any_of HT_.out (by kernel_rfl)) (fun _ _ _ h => h) (Or.inl ⟨by rfl, ?_⟩) ?_ ?_
   rotate_left
   ·intro w'
    go_simp
    with_reducible rfl
   rotate_left
   ·simp only [Act.put, La_, Lb_, Lc_, i64_w, i32_w]
    rfl
   refine pure_ (i := 12) (N := some 33) (v := undef) (a' := ?_) #[t_,t_,t_,t_,t_,t_,t_,t_,t_,t_,t_,t_,t_,f_,f_,f_,f_,f_,f_,f_,f_,f_,f_,f_,f_,f_,f_,f_,f_,f_,f_,f_,f_,f_,f_,f_,f_,f_,f_,f_,f_,f_,f_,f_] rfl rfl (any_of HT_.out (by kernel_rfl)) (fun _ _ _ h => h) (Or.inr ⟨by rfl, rfl⟩) ?_ ?_
   rotate_left
   ·simp only [Act.put, La_, Lb_, Lc_, i64_w, i32_w]
    rfl
   refine pure_ (i := 13) (N := some 34) (v := undef) (a' := ?_) #[t_,t_,t_,t_,t_,t_,t_,t_,t_,t_,t_,t_,t_,t_,f_,f_,f_,f_,f_,f_,f_,f_,f_,f_,f_,f_,f_,f_,f_,f_,f_,f_,f_,f_,f_,f_,f_,f_,f_,f_,f_,f_,f_,f_] rfl rfl (any_of HT_.out (by kernel_rfl)) (fun _ _ _ h => h) (Or.inr ⟨by rfl, rfl⟩) ?_ ?_
   rotate_left
   ·simp only [Act.put, La_, Lb_, Lc_, i64_w, i32_w]
    rfl
   refine pure_ (i := 14) (N := some 35) (v := undef) (a' := ?_) #[t_,t_,t_,t_,t_,t_,t_,t_,t_,t_,t_,t_,t_,t_,t_,f_,f_,f_,f_,f_,f_,f_,f_,f_,f_,f_,f_,f_,f_,f_,f_,f_,f_,f_,f_,f_,f_,f_,f_,f_,f_,f_,f_,f_] rfl rfl (any_of HT_.out (by kernel_rfl)) (fun _ _ _ h => h) (Or.inr ⟨by rfl, rfl⟩) ?_ ?_
   rotate_left
   ·simp only [Act.put, La_, Lb_, Lc_, i64_w, i32_w]
    rfl
   refine pure_ (i := 15) (N := some 36) (v := undef) (a' := ?_) #[t_,t_,t_,t_,t_,t_,t_,t_,t_,t_,t_,t_,t_,t_,t_,t_,f_,f_,f_,f_,f_,f_,f_,f_,f_,f_,f_,f_,f_,f_,f_,f_,f_,f_,f_,f_,f_,f_,f_,f_,f_,f_,f_,f_] rfl rfl (any_of HT_.out (by kernel_rfl)) (fun _ _ _ h => h) (Or.inr ⟨by rfl, rfl⟩) ?_ ?_
   rotate_left
   ·simp only [Act.put, La_, Lb_, Lc_, i64_w, i32_w]
    rfl
   refine pure_ (i := 16) (N := some 37) (v := undef) (a' := ?_) #[t_,t_,t_,t_,t_,t_,t_,t_,t_,t_,t_,t_,t_,t_,t_,t_,t_,f_,f_,f_,f_,f_,f_,f_,f_,f_,f_,f_,f_,f_,f_,f_,f_,f_,f_,f_,f_,f_,f_,f_,f_,f_,f_,f_] rfl rfl (any_of HT_.out (by kernel_rfl)) (fun _ _ _ h => h) (Or.inr ⟨by rfl, rfl⟩) ?_ ?_
   rotate_left
   ·simp only [Act.put, La_, Lb_, Lc_, i64_w, i32_w]
    rfl
   refine pure_ (i := 17) (N := some 38) (v := ?_) (a' := ?_) #[t_,t_,t_,t_,t_,t_,t_,t_,t_,t_,t_,t_,t_,t_,t_,t_,t_,t_,f_,f_,f_,f_,f_,f_,f_,f_,f_,f_,f_,f_,f_,f_,f_,f_,f_,f_,f_,f_,f_,f_,f_,f_,f_,f_] rfl rfl (any_of HT_.out (by kernel_rfl)) (fun _ _ _ h => h) (Or.inl ⟨by rfl, ?_⟩) ?_ ?_
   rotate_left
   ·intro w'
    go_simp
    with_reducible rfl
   rotate_left
   ·simp only [Act.put, La_, Lb_, Lc_, i64_w, i32_w]
    rfl
   refine pure_ (i := 18) (N := some 39) (v := ?_) (a' := ?_) #[t_,t_,t_,t_,t_,t_,t_,t_,t_,t_,t_,t_,t_,t_,t_,t_,t_,t_,t_,f_,f_,f_,f_,f_,f_,f_,f_,f_,f_,f_,f_,f_,f_,f_,f_,f_,f_,f_,f_,f_,f_,f_,f_,f_] rfl rfl (any_of HT_.out (by kernel_rfl)) (fun _ _ _ h => h) (Or.inl ⟨by rfl, ?_⟩) ?_ ?_
   rotate_left
   ·intro w'
    go_simp
    with_reducible rfl
   rotate_left
   ·simp only [Act.put, La_, Lb_, Lc_, i64_w, i32_w]
    rfl
   refine pure_ (i := 19) (N := some 40) (v := undef) (a' := ?_) #[t_,t_,t_,t_,t_,t_,t_,t_,t_,t_,t_,t_,t_,t_,t_,t_,t_,t_,t_,t_,f_,f_,f_,f_,f_,f_,f_,f_,f_,f_,f_,f_,f_,f_,f_,f_,f_,f_,f_,f_,f_,f_,f_,f_] rfl rfl (any_of HT_.out (by kernel_rfl)) (fun _ _ _ h => h) (Or.inr ⟨by rfl, rfl⟩) ?_ ?_
   rotate_left
   ·simp only [Act.put, La_, Lb_, Lc_, i64_w, i32_w]
    rfl
   refine pure_ (i := 20) (N := some 41) (v := undef) (a' := ?_) #[t_,t_,t_,t_,t_,t_,t_,t_,t_,t_,t_,t_,t_,t_,t_,t_,t_,t_,t_,t_,t_,f_,f_,f_,f_,f_,f_,f_,f_,f_,f_,f_,f_,f_,f_,f_,f_,f_,f_,f_,f_,f_,f_,f_] rfl rfl (any_of HT_.out (by kernel_rfl)) (fun _ _ _ h => h) (Or.inr ⟨by rfl, rfl⟩) ?_ ?_
   rotate_left
   ·simp only [Act.put, La_, Lb_, Lc_, i64_w, i32_w]
    rfl
   refine pure_ (i := 21) (N := some 42) (v := undef) (a' := ?_) #[t_,t_,t_,t_,t_,t_,t_,t_,t_,t_,t_,t_,t_,t_,t_,t_,t_,t_,t_,t_,t_,t_,f_,f_,f_,f_,f_,f_,f_,f_,f_,f_,f_,f_,f_,f_,f_,f_,f_,f_,f_,f_,f_,f_] rfl rfl (any_of HT_.out (by kernel_rfl)) (fun _ _ _ h => h) (Or.inr ⟨by rfl, rfl⟩) ?_ ?_
   rotate_left
   ·simp only [Act.put, La_, Lb_, Lc_, i64_w, i32_w]
    rfl
   refine pure_ (i := 22) (N := some 43) (v := undef) (a' := ?_) #[t_,t_,t_,t_,t_,t_,t_,t_,t_,t_,t_,t_,t_,t_,t_,t_,t_,t_,t_,t_,t_,t_,t_,f_,f_,f_,f_,f_,f_,f_,f_,f_,f_,f_,f_,f_,f_,f_,f_,f_,f_,f_,f_,f_] rfl rfl (any_of HT_.out (by kernel_rfl)) (fun _ _ _ h => h) (Or.inr ⟨by rfl, rfl⟩) ?_ ?_
   rotate_left
   ·simp only [Act.put, La_, Lb_, Lc_, i64_w, i32_w]
    rfl
   refine pure_ (i := 23) (N := some 44) (v := undef) (a' := ?_) #[t_,t_,t_,t_,t_,t_,t_,t_,t_,t_,t_,t_,t_,t_,t_,t_,t_,t_,t_,t_,t_,t_,t_,t_,f_,f_,f_,f_,f_,f_,f_,f_,f_,f_,f_,f_,f_,f_,f_,f_,f_,f_,f_,f_] rfl rfl (any_of HT_.out (by kernel_rfl)) (fun _ _ _ h => h) (Or.inr ⟨by rfl, rfl⟩) ?_ ?_
   rotate_left
   ·simp only [Act.put, La_, Lb_, Lc_, i64_w, i32_w]
    rfl
   refine pure_ (i := 24) (N := some 45) (v := ?_) (a' := ?_) #[t_,t_,t_,t_,t_,t_,t_,t_,t_,t_,t_,t_,t_,t_,t_,t_,t_,t_,t_,t_,t_,t_,t_,t_,t_,f_,f_,f_,f_,f_,f_,f_,f_,f_,f_,f_,f_,f_,f_,f_,f_,f_,f_,f_] rfl rfl (any_of HT_.out (by kernel_rfl)) (fun _ _ _ h => h) (Or.inl ⟨by rfl, ?_⟩) ?_ ?_
   rotate_left
   ·intro w'
    go_simp
    with_reducible rfl
   rotate_left
   ·simp only [Act.put, La_, Lb_, Lc_, i64_w, i32_w]
    rfl
   refine pure_ (i := 25) (N := some 46) (v := ?_) (a' := ?_) #[t_,t_,t_,t_,t_,t_,t_,t_,t_,t_,t_,t_,t_,t_,t_,t_,t_,t_,t_,t_,t_,t_,t_,t_,t_,t_,f_,f_,f_,f_,f_,f_,f_,f_,f_,f_,f_,f_,f_,f_,f_,f_,f_,f_] rfl rfl (any_of HT_.out (by kernel_rfl)) (fun _ _ _ h => h) (Or.inl ⟨by rfl, ?_⟩) ?_ ?_
   rotate_left
   ·intro w'
    go_simp
    with_reducible rfl
   rotate_left
   ·simp only [Act.put, La_, Lb_, Lc_, i64_w, i32_w]
    rfl
   refine pure_ (i := 26) (N := some 47) (v := undef) (a' := ?_) #[t_,t_,t_,t_,t_,t_,t_,t_,t_,t_,t_,t_,t_,t_,t_,t_,t_,t_,t_,t_,t_,t_,t_,t_,t_,t_,t_,f_,f_,f_,f_,f_,f_,f_,f_,f_,f_,f_,f_,f_,f_,f_,f_,f_] rfl rfl (any_of HT_.out (by kernel_rfl)) (fun _ _ _ h => h) (Or.inr ⟨by rfl, rfl⟩) ?_ ?_
   rotate_left
   ·simp only [Act.put, La_, Lb_, Lc_, i64_w, i32_w]
    rfl
   refine pure_ (i := 27) (N := some 48) (v := undef) (a' := ?_) #[t_,t_,t_,t_,t_,t_,t_,t_,t_,t_,t_,t_,t_,t_,t_,t_,t_,t_,t_,t_,t_,t_,t_,t_,t_,t_,t_,t_,f_,f_,f_,f_,f_,f_,f_,f_,f_,f_,f_,f_,f_,f_,f_,f_] rfl rfl (any_of HT_.out (by kernel_rfl)) (fun _ _ _ h => h) (Or.inr ⟨by rfl, rfl⟩) ?_ ?_
   rotate_left
   ·simp only [Act.put, La_, Lb_, Lc_, i64_w, i32_w]
    rfl
   refine pure_ (i := 28) (N := some 49) (v := undef) (a' := ?_) #[t_,t_,t_,t_,t_,t_,t_,t_,t_,t_,t_,t_,t_,t_,t_,t_,t_,t_,t_,t_,t_,t_,t_,t_,t_,t_,t_,t_,t_,f_,f_,f_,f_,f_,f_,f_,f_,f_,f_,f_,f_,f_,f_,f_] rfl rfl (any_of HT_.out (by kernel_rfl)) (fun _ _ _ h => h) (Or.inr ⟨by rfl, rfl⟩) ?_ ?_
   rotate_left
   ·simp only [Act.put, La_, Lb_, Lc_, i64_w, i32_w]
    rfl
   refine pure_ (i := 29) (N := some 50) (v := undef) (a' := ?_) #[t_,t_,t_,t_,t_,t_,t_,t_,t_,t_,t_,t_,t_,t_,t_,t_,t_,t_,t_,t_,t_,t_,t_,t_,t_,t_,t_,t_,t_,t_,f_,f_,f_,f_,f_,f_,f_,f_,f_,f_,f_,f_,f_,f_] rfl rfl (any_of HT_.out (by kernel_rfl)) (fun _ _ _ h => h) (Or.inr ⟨by rfl, rfl⟩) ?_ ?_
   rotate_left
   ·simp only [Act.put, La_, Lb_, Lc_, i64_w, i32_w]
    rfl
   refine pure_ (i := 30) (N := some 51) (v := undef) (a' := ?_) #[t_,t_,t_,t_,t_,t_,t_,t_,t_,t_,t_,t_,t_,t_,t_,t_,t_,t_,t_,t_,t_,t_,t_,t_,t_,t_,t_,t_,t_,t_,t_,f_,f_,f_,f_,f_,f_,f_,f_,f_,f_,f_,f_,f_] rfl rfl (any_of HT_.out (by kernel_rfl)) (fun _ _ _ h => h) (Or.inr ⟨by rfl, rfl⟩) ?_ ?_
   rotate_left
   ·simp only [Act.put, La_, Lb_, Lc_, i64_w, i32_w]
    rfl
   refine pure_ (i := 31) (N := some 52) (v := undef) (a' := ?_) #[t_,t_,t_,t_,t_,t_,t_,t_,t_,t_,t_,t_,t_,t_,t_,t_,t_,t_,t_,t_,t_,t_,t_,t_,t_,t_,t_,t_,t_,t_,t_,t_,f_,f_,f_,f_,f_,f_,f_,f_,f_,f_,f_,f_] rfl rfl (any_of HT_.out (by kernel_rfl)) (fun _ _ _ h => h) (Or.inr ⟨by rfl, rfl⟩) ?_ ?_
   rotate_left
   ·simp only [Act.put, La_, Lb_, Lc_, i64_w, i32_w]
    rfl
   refine pure_ (i := 32) (N := some 53) (v := undef) (a' := ?_) #[t_,t_,t_,t_,t_,t_,t_,t_,t_,t_,t_,t_,t_,t_,t_,t_,t_,t_,t_,t_,t_,t_,t_,t_,t_,t_,t_,t_,t_,t_,t_,t_,t_,f_,f_,f_,f_,f_,f_,f_,f_,f_,f_,f_] rfl rfl (any_of HT_.out (by kernel_rfl)) (fun _ _ _ h => h) (Or.inr ⟨by rfl, rfl⟩) ?_ ?_
   rotate_left
   ·simp only [Act.put, La_, Lb_, Lc_, i64_w, i32_w]
    rfl
   refine pure_ (i := 33) (N := some 54) (v := undef) (a' := ?_) #[t_,t_,t_,t_,t_,t_,t_,t_,t_,t_,t_,t_,t_,t_,t_,t_,t_,t_,t_,t_,t_,t_,t_,t_,t_,t_,t_,t_,t_,t_,t_,t_,t_,t_,f_,f_,f_,f_,f_,f_,f_,f_,f_,f_] rfl rfl (any_of HT_.out (by kernel_rfl)) (fun _ _ _ h => h) (Or.inr ⟨by rfl, rfl⟩) ?_ ?_
   rotate_left
   ·simp only [Act.put, La_, Lb_, Lc_, i64_w, i32_w]
    rfl
   refine pure_ (i := 34) (N := some 55) (v := undef) (a' := ?_) #[t_,t_,t_,t_,t_,t_,t_,t_,t_,t_,t_,t_,t_,t_,t_,t_,t_,t_,t_,t_,t_,t_,t_,t_,t_,t_,t_,t_,t_,t_,t_,t_,t_,t_,t_,f_,f_,f_,f_,f_,f_,f_,f_,f_] rfl rfl (any_of HT_.out (by kernel_rfl)) (fun _ _ _ h => h) (Or.inr ⟨by rfl, rfl⟩) ?_ ?_
   rotate_left
   ·simp only [Act.put, La_, Lb_, Lc_, i64_w, i32_w]
    rfl
   refine pure_ (i := 35) (N := some 56) (v := undef) (a' := ?_) #[t_,t_,t_,t_,t_,t_,t_,t_,t_,t_,t_,t_,t_,t_,t_,t_,t_,t_,t_,t_,t_,t_,t_,t_,t_,t_,t_,t_,t_,t_,t_,t_,t_,t_,t_,t_,f_,f_,f_,f_,f_,f_,f_,f_] rfl rfl (any_of HT_.out (by kernel_rfl)) (fun _ _ _ h => h) (Or.inr ⟨by rfl, rfl⟩) ?_ ?_
   rotate_left
   ·simp only [Act.put, La_, Lb_, Lc_, i64_w, i32_w]
    rfl
   refine pure_ (i := 36) (N := some 57) (v := undef) (a' := ?_) #[t_,t_,t_,t_,t_,t_,t_,t_,t_,t_,t_,t_,t_,t_,t_,t_,t_,t_,t_,t_,t_,t_,t_,t_,t_,t_,t_,t_,t_,t_,t_,t_,t_,t_,t_,t_,t_,f_,f_,f_,f_,f_,f_,f_] rfl rfl (any_of HT_.out (by kernel_rfl)) (fun _ _ _ h => h) (Or.inr ⟨by rfl, rfl⟩) ?_ ?_
   rotate_left
   ·simp only [Act.put, La_, Lb_, Lc_, i64_w, i32_w]
    rfl
   refine pure_ (i := 37) (N := some 58) (v := undef) (a' := ?_) #[t_,t_,t_,t_,t_,t_,t_,t_,t_,t_,t_,t_,t_,t_,t_,t_,t_,t_,t_,t_,t_,t_,t_,t_,t_,t_,t_,t_,t_,t_,t_,t_,t_,t_,t_,t_,t_,t_,f_,f_,f_,f_,f_,f_] rfl rfl (any_of HT_.out (by kernel_rfl)) (fun _ _ _ h => h) (Or.inr ⟨by rfl, rfl⟩) ?_ ?_
   rotate_left
   ·simp only [Act.put, La_, Lb_, Lc_, i64_w, i32_w]
    rfl
   refine pure_ (i := 38) (N := some 59) (v := undef) (a' := ?_) #[t_,t_,t_,t_,t_,t_,t_,t_,t_,t_,t_,t_,t_,t_,t_,t_,t_,t_,t_,t_,t_,t_,t_,t_,t_,t_,t_,t_,t_,t_,t_,t_,t_,t_,t_,t_,t_,t_,t_,f_,f_,f_,f_,f_] rfl rfl (any_of HT_.out (by kernel_rfl)) (fun _ _ _ h => h) (Or.inr ⟨by rfl, rfl⟩) ?_ ?_
   rotate_left
   ·simp only [Act.put, La_, Lb_, Lc_, i64_w, i32_w]
    rfl
   refine pure_ (i := 39) (N := some 60) (v := ?_) (a' := ?_) #[t_,t_,t_,t_,t_,t_,t_,t_,t_,t_,t_,t_,t_,t_,t_,t_,t_,t_,t_,t_,t_,t_,t_,t_,t_,t_,t_,t_,t_,t_,t_,t_,t_,t_,t_,t_,t_,t_,t_,t_,f_,f_,f_,f_] rfl rfl (any_of HT_.out (by kernel_rfl)) (fun _ _ _ h => h) (Or.inl ⟨by rfl, ?_⟩) ?_ ?_
   rotate_left
   ·intro w'
    go_simp
    with_reducible rfl
   rotate_left
   ·simp only [Act.put, La_, Lb_, Lc_, i64_w, i32_w]
    rfl
   refine pure_ (i := 40) (N := some 61) (v := ?_) (a' := ?_) #[t_,t_,t_,t_,t_,t_,t_,t_,t_,t_,t_,t_,t_,t_,t_,t_,t_,t_,t_,t_,t_,t_,t_,t_,t_,t_,t_,t_,t_,t_,t_,t_,t_,t_,t_,t_,t_,t_,t_,t_,t_,f_,f_,f_] rfl rfl (any_of HT_.out (by kernel_rfl)) (fun _ _ _ h => h) (Or.inl ⟨by rfl, ?_⟩) ?_ ?_
   rotate_left
   ·intro w'
    go_simp
    with_reducible rfl
   rotate_left
   ·simp only [Act.put, La_, Lb_, Lc_, i64_w, i32_w]
    rfl
   refine pure_ (i := 41) (N := some 62) (v := undef) (a' := ?_) #[t_,t_,t_,t_,t_,t_,t_,t_,t_,t_,t_,t_,t_,t_,t_,t_,t_,t_,t_,t_,t_,t_,t_,t_,t_,t_,t_,t_,t_,t_,t_,t_,t_,t_,t_,t_,t_,t_,t_,t_,t_,t_,f_,f_] rfl rfl (any_of HT_.out (by kernel_rfl)) (fun _ _ _ h => h) (Or.inr ⟨by rfl, rfl⟩) ?_ ?_
   rotate_left
   ·simp only [Act.put, La_, Lb_, Lc_, i64_w, i32_w]
    rfl
   refine pure_ (i := 42) (N := some 63) (v := undef) (a' := ?_) #[t_,t_,t_,t_,t_,t_,t_,t_,t_,t_,t_,t_,t_,t_,t_,t_,t_,t_,t_,t_,t_,t_,t_,t_,t_,t_,t_,t_,t_,t_,t_,t_,t_,t_,t_,t_,t_,t_,t_,t_,t_,t_,t_,f_] rfl rfl (any_of HT_.out (by kernel_rfl)) (fun _ _ _ h => h) (Or.inr ⟨by rfl, rfl⟩) ?_ ?_
   rotate_left
   ·simp only [Act.put, La_, Lb_, Lc_, i64_w, i32_w]
    rfl
   refine pure_ (i := 43) (N := some 64) (v := ?_) (a' := ?_) #[t_,t_,t_,t_,t_,t_,t_,t_,t_,t_,t_,t_,t_,t_,t_,t_,t_,t_,t_,t_,t_,t_,t_,t_,t_,t_,t_,t_,t_,t_,t_,t_,t_,t_,t_,t_,t_,t_,t_,t_,t_,t_,t_,t_] rfl rfl (any_of HT_.out (by kernel_rfl)) (fun _ _ _ h => h) (Or.inl ⟨by rfl, ?_⟩) ?_ ?_
   rotate_left
   ·intro w'
    go_simp
    with_reducible rfl
   rotate_left
   ·simp only [Act.put, La_, Lb_, Lc_, i64_w, i32_w]
    rfl
   refine done_ (done_of HT_.out (by kernel_rfl)) ?_
   try go_wp2
   go_meet
   case rel => exact ⟨_, (true), (by first | rfl | (simp; done) | (simp [*]; done)), H', ⟨by first | omega | exact Nat.le_refl _⟩, ⟨by (with_reducible repeat (first | refine Bn_ ?_ _ | refine Bd_ ?_ | refine Ba_ ?_ _)); exact BK375.out⟩, ⟨by repeat (first | (with_reducible first | exact HB.out | apply Pa_ | apply Pn_ | apply Pd_ | refine Bs_ ?_ GE375.out) | exact HB.out)⟩⟩
 case rest =>
  clear HC6
  try clear c1
  try clear p2
  try clear c9
  try clear c10
  try clear c14
  try clear c15
  try clear c16
  try clear c17
  obtain ⟨kq, x64_5, rfl, HA, HJ5, BK375, HB⟩ := hcut
  cases kq with
  | zero => exact absurd HA.out (by simp [flagstonelaw11_FlockOtherA.j0])
  | succ kj5 =>
   have H := HA.out
   clear HA
   simp only [flagstonelaw11_FlockOtherA.j0] at H
   by_cases c25 : x64_5 = true
   ·subst c25
    have H1 : (none) = some r := by rw [if_pos rfl] at H; exact H
    clear H
    have H := H1
    clear H1
    exact absurd H (by simp)
   ·replace c25 := Bool.eq_false_iff.mpr c25
    subst c25
    have H1 : ((flock_Lock.f l0_0 l0_1 a1 a3).bind fun bt380 => ((flock_Lock.f l0_0 l0_1 a2 a4).bind fun bt388 => ((flock_Lock.f bt388.1 bt388.2.1 a1 a3).bind fun bt396 => (if bt380.2.2 = bt396.2.2 then (if 0 ≤ a1 then (if a1 < (l0_0.length : Int) then (if ((rd_T44 l0_0 a1).f4) < 1 then (flagstonelaw11_FlockOtherA.j1 kj5 true) else (if ((rd_T44 l0_0 a1).f5) < 0 then (flagstonelaw11_FlockOtherA.j1 kj5 true) else (if ((rd_T44 l0_0 a1).f5) > 2 then (flagstonelaw11_FlockOtherA.j1 kj5 true) else ((flagstonelaw11_its.f kj5 l0_0 l0_1).bind fun bt407 => ((flagstoneref11_Fair.f kj5 bt407.1 bt407.2).bind fun t413 => (flagstonelaw11_FlockOtherA.j1 kj5 (!t413))))))) else (none)) else (none)) else (none))))) = some r := by rw [if_neg (show ¬ (false = true) by decide)] at H; exact H
    clear H
    have H := H1
    clear H1
    replace H := Option.bind_eq_some_iff.mp H
    obtain ⟨⟨t380, t383, t386⟩, A260, H⟩ := H
    replace H : ((flock_Lock.f l0_0 l0_1 a2 a4).bind fun bt388 => ((flock_Lock.f bt388.1 bt388.2.1 a1 a3).bind fun bt396 => (if t386 = bt396.2.2 then (if 0 ≤ a1 then (if a1 < (l0_0.length : Int) then (if ((rd_T44 l0_0 a1).f4) < 1 then (flagstonelaw11_FlockOtherA.j1 kj5 true) else (if ((rd_T44 l0_0 a1).f5) < 0 then (flagstonelaw11_FlockOtherA.j1 kj5 true) else (if ((rd_T44 l0_0 a1).f5) > 2 then (flagstonelaw11_FlockOtherA.j1 kj5 true) else ((flagstonelaw11_its.f kj5 l0_0 l0_1).bind fun bt407 => ((flagstoneref11_Fair.f kj5 bt407.1 bt407.2).bind fun t413 => (flagstonelaw11_FlockOtherA.j1 kj5 (!t413))))))) else (none)) else (none)) else (none)))) = some r := H
    have A26 := Am_ A260
    clear A260
    replace H := Option.bind_eq_some_iff.mp H
    obtain ⟨⟨t388, t391, t394⟩, A270, H⟩ := H
    replace H : ((flock_Lock.f t388 t391 a1 a3).bind fun bt396 => (if t386 = bt396.2.2 then (if 0 ≤ a1 then (if a1 < (l0_0.length : Int) then (if ((rd_T44 l0_0 a1).f4) < 1 then (flagstonelaw11_FlockOtherA.j1 kj5 true) else (if ((rd_T44 l0_0 a1).f5) < 0 then (flagstonelaw11_FlockOtherA.j1 kj5 true) else (if ((rd_T44 l0_0 a1).f5) > 2 then (flagstonelaw11_FlockOtherA.j1 kj5 true) else ((flagstonelaw11_its.f kj5 l0_0 l0_1).bind fun bt407 => ((flagstoneref11_Fair.f kj5 bt407.1 bt407.2).bind fun t413 => (flagstonelaw11_FlockOtherA.j1 kj5 (!t413))))))) else (none)) else (none)) else (none))) = some r := H
    have A27 := Am_ A270
    clear A270
    replace H := Option.bind_eq_some_iff.mp H
    obtain ⟨⟨t396, t399, t402⟩, A280, H⟩ := H
    replace H : (if t386 = t402 then (if 0 ≤ a1 then (if a1 < (l0_0.length : Int) then (if ((rd_T44 l0_0 a1).f4) < 1 then (flagstonelaw11_FlockOtherA.j1 kj5 true) else (if ((rd_T44 l0_0 a1).f5) < 0 then (flagstonelaw11_FlockOtherA.j1 kj5 true) else (if ((rd_T44 l0_0 a1).f5) > 2 then (flagstonelaw11_FlockOtherA.j1 kj5 true) else ((flagstonelaw11_its.f kj5 l0_0 l0_1).bind fun bt407 => ((flagstoneref11_Fair.f kj5 bt407.1 bt407.2).bind fun t413 => (flagstonelaw11_FlockOtherA.j1 kj5 (!t413))))))) else (none)) else (none)) else (none)) = some r := H
    have A28 := Am_ A280
    clear A280
    by_cases c29 : t386 = t402
    ·rw [if_pos c29] at H
     have c29b0 : (t386 == t402) = true := beq_iff_eq.mpr c29
     have c29b1 : (t386 != t402) = false := bne_eq_false_iff_eq.mpr c29
     clear c29
     have HC30 := Am_ H
     clear H
     have hcz31_0 : wc.cell? ⟨gb375, 0, none⟩ = some (.slice A0_0 l0_0.length c0_0) := (Bc_ BK375.out 0).trans rfl
     have hcz31_1 : wc.cell? ⟨gb375, 1, none⟩ = some (.slice A0_1 l0_1.length c0_1) := (Bc_ BK375.out 1).trans rfl
     have hfz31_0 := Bf_ BK375.out 0
     have hfz31_1 := Bf_ BK375.out 1
     go_upto_region 8 with (first | ((with_reducible refine gate_callee (f := 11) rfl ?_); refine goesL_ (some 70) rfl rfl Try.func11 (by kernel_rfl) rfl #[.agg #[.slice A0_0 l0_0.length c0_0, .slice A0_1 l0_1.length c0_1], .int .i64 a1, .int .i64 a3] rfl (by (try simp only [List.map_toArray, List.map_cons, List.map_nil]); first | done | rfl | (simp only [List.length_drop, List.length_take]; rfl)) ?_; (with_reducible refine (flock_Lock.calls (fun k_ => k_ < w.heap.size) _ _ l0_0 (fun k_ => k_ < w.heap.size) _ _ l0_1 a1 a3 t380 t383 t386 _ ?side1 ?side2 A26.out).mono ?_); (case side1 => exact Kd.V_mk HC0_0.out (Kd.F_below (Kd.C_F k44_heap HR0_0.out) (by repeat (first | (with_reducible first | exact HB.out | apply Pa_ | apply Pn_ | apply Pd_ | refine Bs_ ?_ GE375.out) | exact HB.out)))); (case side2 => exact Kd.V_mk HC0_1.out (Kd.F_below (Kd.C_F (Kd.heap_slice 3 (Kd.heap_int .i64)) HR0_1.out) (by repeat (first | (with_reducible first | exact HB.out | apply Pa_ | apply Pn_ | apply Pd_ | refine Bs_ ?_ GE375.out) | exact HB.out)))); rintro e w32 ⟨v381, v384, rfl, ho0, ho1, hb⟩; refine ⟨_, rfl, ?_⟩; have n0_ := Am_ (Vl_ (Vm_ (ok' := fun k_ => k_ ≠ gb375) ho0 (fun k_ hk_ => Or.elim hk_ (fun hs_ => Or.elim hs_ (fun hs_ => fun e_ => Nat.not_le.2 hs_ (by rw [e_]; exact GW375.out)) (fun hs_ => fun e_ => Nat.not_le.2 hs_ (by rw [e_]; exact GW375.out))) (fun hn_ => (Kd.freshB (g := gb375) (o := .cells #[.slice A0_0 l0_0.length c0_0, .slice A0_1 l0_1.length c0_1] 25 (0, 0)) (by (with_reducible repeat (first | refine Bn_ ?_ _ | refine Bd_ ?_ | refine Ba_ ?_ _)); exact BK375.out) k_ hn_)))) (Bz_ (by repeat (first | (with_reducible first | exact HB.out | apply Pa_ | apply Pn_ | apply Pd_ | refine Bs_ ?_ GE375.out) | exact HB.out)))); have n1_ := Am_ (Vl_ (Vm_ (ok' := fun k_ => k_ ≠ gb375) ho1 (fun k_ hk_ => Or.elim hk_ (fun hs_ => Or.elim hs_ (fun hs_ => fun e_ => Nat.not_le.2 hs_ (by rw [e_]; exact GW375.out)) (fun hs_ => fun e_ => Nat.not_le.2 hs_ (by rw [e_]; exact GW375.out))) (fun hn_ => (Kd.freshB (g := gb375) (o := .cells #[.slice A0_0 l0_0.length c0_0, .slice A0_1 l0_1.length c0_1] 25 (0, 0)) (by (with_reducible repeat (first | refine Bn_ ?_ _ | refine Bd_ ?_ | refine Ba_ ?_ _)); exact BK375.out) k_ hn_)))) (Bz_ (by repeat (first | (with_reducible first | exact HB.out | apply Pa_ | apply Pn_ | apply Pd_ | refine Bs_ ?_ GE375.out) | exact HB.out)))); have n2_ := Am_ (Bb_ (g := gb375) (o := .cells #[.slice A0_0 l0_0.length c0_0, .slice A0_1 l0_1.length c0_1] 25 (0, 0)) (by (with_reducible repeat (first | refine Bn_ ?_ _ | refine Bd_ ?_ | refine Ba_ ?_ _)); exact BK375.out) hb); have n3_ := Am_ (Be_ (by repeat (first | (with_reducible first | exact HB.out | apply Pa_ | apply Pn_ | apply Pd_ | refine Bs_ ?_ GE375.out) | exact HB.out)) hb); clear BK375; clear HB; have HO382 := n0_; have HO385 := n1_; have BK375 := n2_; have HB := n3_; clear n0_ n1_ n2_ n3_; (try clear hb); (try clear hb2); (try clear hk); (try clear hi); (try clear ho0); (try clear ho1)) | ((with_reducible refine gate_dst (N := 11) rfl ?_); (try (refine gate_guard (by rfl) ?_; dsimp only)); refine box_event ?hg (N := 11) ?hd (cs := #[.slice none 0 0, .slice none 0 0]) (t := 25) ?hr ?_; (case hd => rfl); (case hg => rfl); (case hr => first | (go_simp; done) | (go_simp; rfl)); intro gb387 hg w33 hbox hb; have n0_ := Am_ (Vb_ (Ke_ (by (with_reducible repeat (first | apply Va_ | apply Vn_ | apply Vd_)); exact HO382.out) gb387 (Nat.le_of_eq hg.symm)) hb); have n1_ := Am_ (Vb_ (Ke_ (by (with_reducible repeat (first | apply Va_ | apply Vn_ | apply Vd_)); exact HO385.out) gb387 (Nat.le_of_eq hg.symm)) hb); have n2_ := Am_ (Bb_ (g := gb375) (o := .cells #[.slice A0_0 l0_0.length c0_0, .slice A0_1 l0_1.length c0_1] 25 (0, 0)) (by (with_reducible repeat (first | refine Bn_ ?_ _ | refine Bd_ ?_ | refine Ba_ ?_ _)); exact BK375.out) hb); have n3_ := Am_ (Be_ (by repeat (first | (with_reducible first | exact HB.out | apply Pa_ | apply Pn_ | apply Pd_ | refine Bs_ ?_ GE375.out) | exact HB.out)) hb); have n4_ := Am_ (hbox); have n5_ := Am_ ((by rw [hg]; exact (Bz_ (by repeat (first | (with_reducible first | exact HB.out | apply Pa_ | apply Pn_ | apply Pd_ | refine Bs_ ?_ GE375.out) | exact HB.out))) : w.heap.size ≤ gb387)); have n6_ := Am_ ((by rw [hg]; exact (Bz_ (by repeat (first | (with_reducible first | exact HB.out | apply Pa_ | apply Pn_ | apply Pd_ | refine Bs_ ?_ GE375.out) | exact HB.out))) : w.heap.size ≤ gb387)); have n7_ := Am_ ((by rw [hg]; exact Nat.ne_of_lt (blk_lt (g := gb375) (o := .cells #[.slice A0_0 l0_0.length c0_0, .slice A0_1 l0_1.length c0_1] 25 (0, 0)) (by (with_reducible repeat (first | refine Bn_ ?_ _ | refine Bd_ ?_ | refine Ba_ ?_ _)); exact BK375.out)) : gb375 ≠ gb387)); have n8_ := Am_ ((by rw [hg]; exact Nat.ne_of_gt (blk_lt (g := gb375) (o := .cells #[.slice A0_0 l0_0.length c0_0, .slice A0_1 l0_1.length c0_1] 25 (0, 0)) (by (with_reducible repeat (first | refine Bn_ ?_ _ | refine Bd_ ?_ | refine Ba_ ?_ _)); exact BK375.out)) : gb387 ≠ gb375)); clear HO382; clear HO385; clear BK375; clear HB; have HO382 := n0_; have HO385 := n1_; have BK375 := n2_; have HB := n3_; have BK387 := n4_; have GW387 := n5_; have GE387 := n6_; have NB375_387 := n7_; have NB387_375 := n8_; clear n0_ n1_ n2_ n3_ n4_ n5_ n6_ n7_ n8_; clear hb hbox hg; obtain ⟨Ao34, co34, eo34⟩ := Vx_ HO382.out; subst eo34; have hnb35 := NB387_375.out; have hnc35 := NB375_387.out; have hcz36_0 : w33.cell? ⟨gb387, 0, none⟩ = some (.slice none 0 0) := (Bc_ BK387.out 0).trans rfl; have hcz36_1 : w33.cell? ⟨gb387, 1, none⟩ = some (.slice none 0 0) := (Bc_ BK387.out 1).trans rfl; have hfz36_0 := Bf_ BK387.out 0; have hfz36_1 := Bf_ BK387.out 1; obtain ⟨Ao37, co37, eo37⟩ := Vx_ HO385.out; subst eo37) | ((with_reducible refine gate_store (t := 25) (p := 11) rfl ?_); refine store_event (t := 25) (p := 11) (v := ?vo_w38) (w1 := ((w33.setCell ⟨gb387, 0, none⟩ (.slice Ao34 t380.length co34)).setCell ⟨gb387, 1, none⟩ (.slice Ao37 t383.length co37))) ?hg ?ho ?hn ?hr ?_; (case ho => rfl); (case hg => rfl); (case hn => rfl); (case hr => first | (go_simp; done) | (go_simp; rfl)); intro w38 hw; have n0_ : Aside0 (Kd.V k44 44 w38 w.heap.size (fun k_ => k_ ≠ gb375 ∧ k_ ≠ gb387) (.slice Ao34 t380.length co34) t380) := ⟨(by rw [hw]; exact (by (with_reducible repeat (first | apply Va_ | apply Vn_ | apply Vd_)); exact Vm_ (Vf_ (p := ⟨gb387, 1, none⟩) (Vf_ (p := ⟨gb387, 0, none⟩) (Vm_ HO382.out (fun k_ hk => (⟨hk, hk.2⟩ : _ ∧ k_ ≠ gb387))) (fun _ hk => hk.2) (.slice Ao34 t380.length co34)) (fun _ hk => hk.2) (.slice Ao37 t383.length co37)) (fun _ hk => ⟨hk.1.1, hk.1.2⟩)))⟩; have n1_ : Aside0 (Kd.V (Kd.slice 3 (Kd.int .i64)) 48 w38 w.heap.size (fun k_ => k_ ≠ gb375 ∧ k_ ≠ gb387) (.slice Ao37 t383.length co37) t383) := ⟨(by rw [hw]; exact (by (with_reducible repeat (first | apply Va_ | apply Vn_ | apply Vd_)); exact Vm_ (Vf_ (p := ⟨gb387, 1, none⟩) (Vf_ (p := ⟨gb387, 0, none⟩) (Vm_ HO385.out (fun k_ hk => (⟨hk, hk.2⟩ : _ ∧ k_ ≠ gb387))) (fun _ hk => hk.2) (.slice Ao34 t380.length co34)) (fun _ hk => hk.2) (.slice Ao37 t383.length co37)) (fun _ hk => ⟨hk.1.1, hk.1.2⟩)))⟩; have n2_ : Aside0 (w38.heap[gb375]? = some (.cells #[.slice A0_0 l0_0.length c0_0, .slice A0_1 l0_1.length c0_1] 25 (0, 0))) := ⟨(by rw [hw]; exact (by (with_reducible repeat (first | refine Bn_ ?_ _ | refine Bd_ ?_ | refine Ba_ ?_ _)); refine blk_far ?_ NB375_387.out _; (with_reducible repeat (first | refine Bn_ ?_ _ | refine Bd_ ?_ | refine Ba_ ?_ _)); refine blk_far ?_ NB375_387.out _; (with_reducible repeat (first | refine Bn_ ?_ _ | refine Bd_ ?_ | refine Ba_ ?_ _)); exact BK375.out))⟩; have n3_ : Aside0 (w38.heap[gb387]? = some (.cells #[.slice Ao34 t380.length co34, .slice Ao37 t383.length co37] 25 (0, 0))) := ⟨(by rw [hw]; exact (by (with_reducible repeat (first | refine Bn_ ?_ _ | refine Bd_ ?_ | refine Ba_ ?_ _)); refine Bp_ (cs := #[.slice Ao34 t380.length co34, .slice none 0 0]) ?_ 1 _ rfl; (with_reducible repeat (first | refine Bn_ ?_ _ | refine Bd_ ?_ | refine Ba_ ?_ _)); refine Bp_ (cs := #[.slice none 0 0, .slice none 0 0]) ?_ 0 _ rfl; (with_reducible repeat (first | refine Bn_ ?_ _ | refine Bd_ ?_ | refine Ba_ ?_ _)); exact BK387.out))⟩; have n4_ : Aside0 (Below w.heap.size w w38) := ⟨(by rw [hw]; exact (by repeat (first | (with_reducible first | exact HB.out | apply Pa_ | apply Pn_ | apply Pd_ | refine Bs_ ?_ GE375.out | refine Bs_ ?_ GE387.out) | exact HB.out)))⟩; clear hw; clear HO382; clear HO385; clear BK375; clear BK387; clear HB; have HO382 := n0_; have HO385 := n1_; have BK375 := n2_; have BK387 := n3_; have HB := n4_; clear n0_ n1_ n2_ n3_ n4_; have hcz39_0 : w38.cell? ⟨gb375, 0, none⟩ = some (.slice A0_0 l0_0.length c0_0) := (Bc_ BK375.out 0).trans rfl; have hcz39_1 : w38.cell? ⟨gb375, 1, none⟩ = some (.slice A0_1 l0_1.length c0_1) := (Bc_ BK375.out 1).trans rfl; have hfz39_0 := Bf_ BK375.out 0; have hfz39_1 := Bf_ BK375.out 1) | ((with_reducible refine gate_callee (f := 11) rfl ?_); refine goesL_ (some 77) rfl rfl Try.func11 (by kernel_rfl) rfl #[.agg #[.slice A0_0 l0_0.length c0_0, .slice A0_1 l0_1.length c0_1], .int .i64 a2, .int .i64 a4] rfl (by (try simp only [List.map_toArray, List.map_cons, List.map_nil]); first | done | rfl | (simp only [List.length_drop, List.length_take]; rfl)) ?_; (with_reducible refine (flock_Lock.calls (fun k_ => k_ < w.heap.size) _ _ l0_0 (fun k_ => k_ < w.heap.size) _ _ l0_1 a2 a4 t388 t391 t394 _ ?side1 ?side2 A27.out).mono ?_); (case side1 => exact Kd.V_mk HC0_0.out (Kd.F_below (Kd.C_F k44_heap HR0_0.out) (by repeat (first | (with_reducible first | exact HB.out | apply Pa_ | apply Pn_ | apply Pd_ | refine Bs_ ?_ GE375.out | refine Bs_ ?_ GE387.out) | exact HB.out)))); (case side2 => exact Kd.V_mk HC0_1.out (Kd.F_below (Kd.C_F (Kd.heap_slice 3 (Kd.heap_int .i64)) HR0_1.out) (by repeat (first | (with_reducible first | exact HB.out | apply Pa_ | apply Pn_ | apply Pd_ | refine Bs_ ?_ GE375.out | refine Bs_ ?_ GE387.out) | exact HB.out)))); rintro e w40 ⟨v389, v392, rfl, ho0, ho1, hb⟩; refine ⟨_, rfl, ?_⟩; have n0_ := Am_ (Vb_ (by (with_reducible repeat (first | apply Va_ | apply Vn_ | apply Vd_)); exact HO382.out) hb); have n1_ := Am_ (Vb_ (by (with_reducible repeat (first | apply Va_ | apply Vn_ | apply Vd_)); exact HO385.out) hb); have n2_ := Am_ (Vl_ (Vm_ (ok' := fun k_ => k_ ≠ gb375 ∧ k_ ≠ gb387) ho0 (fun k_ hk_ => ⟨Or.elim hk_ (fun hs_ => Or.elim hs_ (fun hs_ => fun e_ => Nat.not_le.2 hs_ (by rw [e_]; exact GW375.out)) (fun hs_ => fun e_ => Nat.not_le.2 hs_ (by rw [e_]; exact GW375.out))) (fun hn_ => (Kd.freshB (g := gb375) (o := .cells #[.slice A0_0 l0_0.length c0_0, .slice A0_1 l0_1.length c0_1] 25 (0, 0)) (by (with_reducible repeat (first | refine Bn_ ?_ _ | refine Bd_ ?_ | refine Ba_ ?_ _)); exact BK375.out) k_ hn_)), Or.elim hk_ (fun hs_ => Or.elim hs_ (fun hs_ => fun e_ => Nat.not_le.2 hs_ (by rw [e_]; exact GW387.out)) (fun hs_ => fun e_ => Nat.not_le.2 hs_ (by rw [e_]; exact GW387.out))) (fun hn_ => (Kd.freshB (g := gb387) (o := .cells #[.slice Ao34 t380.length co34, .slice Ao37 t383.length co37] 25 (0, 0)) (by (with_reducible repeat (first | refine Bn_ ?_ _ | refine Bd_ ?_ | refine Ba_ ?_ _)); exact BK387.out) k_ hn_))⟩)) (Bz_ (by repeat (first | (with_reducible first | exact HB.out | apply Pa_ | apply Pn_ | apply Pd_ | refine Bs_ ?_ GE375.out | refine Bs_ ?_ GE387.out) | exact HB.out)))); have n3_ := Am_ (Vl_ (Vm_ (ok' := fun k_ => k_ ≠ gb375 ∧ k_ ≠ gb387) ho1 (fun k_ hk_ => ⟨Or.elim hk_ (fun hs_ => Or.elim hs_ (fun hs_ => fun e_ => Nat.not_le.2 hs_ (by rw [e_]; exact GW375.out)) (fun hs_ => fun e_ => Nat.not_le.2 hs_ (by rw [e_]; exact GW375.out))) (fun hn_ => (Kd.freshB (g := gb375) (o := .cells #[.slice A0_0 l0_0.length c0_0, .slice A0_1 l0_1.length c0_1] 25 (0, 0)) (by (with_reducible repeat (first | refine Bn_ ?_ _ | refine Bd_ ?_ | refine Ba_ ?_ _)); exact BK375.out) k_ hn_)), Or.elim hk_ (fun hs_ => Or.elim hs_ (fun hs_ => fun e_ => Nat.not_le.2 hs_ (by rw [e_]; exact GW387.out)) (fun hs_ => fun e_ => Nat.not_le.2 hs_ (by rw [e_]; exact GW387.out))) (fun hn_ => (Kd.freshB (g := gb387) (o := .cells #[.slice Ao34 t380.length co34, .slice Ao37 t383.length co37] 25 (0, 0)) (by (with_reducible repeat (first | refine Bn_ ?_ _ | refine Bd_ ?_ | refine Ba_ ?_ _)); exact BK387.out) k_ hn_))⟩)) (Bz_ (by repeat (first | (with_reducible first | exact HB.out | apply Pa_ | apply Pn_ | apply Pd_ | refine Bs_ ?_ GE375.out | refine Bs_ ?_ GE387.out) | exact HB.out)))); have n4_ := Am_ (Bb_ (g := gb375) (o := .cells #[.slice A0_0 l0_0.length c0_0, .slice A0_1 l0_1.length c0_1] 25 (0, 0)) (by (with_reducible repeat (first | refine Bn_ ?_ _ | refine Bd_ ?_ | refine Ba_ ?_ _)); exact BK375.out) hb); have n5_ := Am_ (Bb_ (g := gb387) (o := .cells #[.slice Ao34 t380.length co34, .slice Ao37 t383.length co37] 25 (0, 0)) (by (with_reducible repeat (first | refine Bn_ ?_ _ | refine Bd_ ?_ | refine Ba_ ?_ _)); exact BK387.out) hb); have n6_ := Am_ (Be_ (by repeat (first | (with_reducible first | exact HB.out | apply Pa_ | apply Pn_ | apply Pd_ | refine Bs_ ?_ GE375.out | refine Bs_ ?_ GE387.out) | exact HB.out)) hb); clear HO382; clear HO385; clear BK375; clear BK387; clear HB; have HO382 := n0_; have HO385 := n1_; have HO390 := n2_; have HO393 := n3_; have BK375 := n4_; have BK387 := n5_; have HB := n6_; clear n0_ n1_ n2_ n3_ n4_ n5_ n6_; (try clear hb); (try clear hb2); (try clear hk); (try clear hi); (try clear ho0); (try clear ho1)) | ((with_reducible refine gate_dst (N := 13) rfl ?_); (try (refine gate_guard (by rfl) ?_; dsimp only)); refine box_event ?hg (N := 13) ?hd (cs := #[.slice none 0 0, .slice none 0 0]) (t := 25) ?hr ?_; (case hd => rfl); (case hg => rfl); (case hr => first | (go_simp; done) | (go_simp; rfl)); intro gb395 hg w41 hbox hb; have n0_ := Am_ (Vb_ (Ke_ (by (with_reducible repeat (first | apply Va_ | apply Vn_ | apply Vd_)); exact HO382.out) gb395 (Nat.le_of_eq hg.symm)) hb); have n1_ := Am_ (Vb_ (Ke_ (by (with_reducible repeat (first | apply Va_ | apply Vn_ | apply Vd_)); exact HO385.out) gb395 (Nat.le_of_eq hg.symm)) hb); have n2_ := Am_ (Vb_ (Ke_ (by (with_reducible repeat (first | apply Va_ | apply Vn_ | apply Vd_)); exact HO390.out) gb395 (Nat.le_of_eq hg.symm)) hb); have n3_ := Am_ (Vb_ (Ke_ (by (with_reducible repeat (first | apply Va_ | apply Vn_ | apply Vd_)); exact HO393.out) gb395 (Nat.le_of_eq hg.symm)) hb); have n4_ := Am_ (Bb_ (g := gb375) (o := .cells #[.slice A0_0 l0_0.length c0_0, .slice A0_1 l0_1.length c0_1] 25 (0, 0)) (by (with_reducible repeat (first | refine Bn_ ?_ _ | refine Bd_ ?_ | refine Ba_ ?_ _)); exact BK375.out) hb); have n5_ := Am_ (Bb_ (g := gb387) (o := .cells #[.slice Ao34 t380.length co34, .slice Ao37 t383.length co37] 25 (0, 0)) (by (with_reducible repeat (first | refine Bn_ ?_ _ | refine Bd_ ?_ | refine Ba_ ?_ _)); exact BK387.out) hb); have n6_ := Am_ (Be_ (by repeat (first | (with_reducible first | exact HB.out | apply Pa_ | apply Pn_ | apply Pd_ | refine Bs_ ?_ GE375.out | refine Bs_ ?_ GE387.out) | exact HB.out)) hb); have n7_ := Am_ (hbox); have n8_ := Am_ ((by rw [hg]; exact (Bz_ (by repeat (first | (with_reducible first | exact HB.out | apply Pa_ | apply Pn_ | apply Pd_ | refine Bs_ ?_ GE375.out | refine Bs_ ?_ GE387.out) | exact HB.out))) : w.heap.size ≤ gb395)); have n9_ := Am_ ((by rw [hg]; exact (Bz_ (by repeat (first | (with_reducible first | exact HB.out | apply Pa_ | apply Pn_ | apply Pd_ | refine Bs_ ?_ GE375.out | refine Bs_ ?_ GE387.out) | exact HB.out))) : w.heap.size ≤ gb395)); have n10_ := Am_ ((by rw [hg]; exact Nat.ne_of_lt (blk_lt (g := gb375) (o := .cells #[.slice A0_0 l0_0.length c0_0, .slice A0_1 l0_1.length c0_1] 25 (0, 0)) (by (with_reducible repeat (first | refine Bn_ ?_ _ | refine Bd_ ?_ | refine Ba_ ?_ _)); exact BK375.out)) : gb375 ≠ gb395)); have n11_ := Am_ ((by rw [hg]; exact Nat.ne_of_gt (blk_lt (g := gb375) (o := .cells #[.slice A0_0 l0_0.length c0_0, .slice A0_1 l0_1.length c0_1] 25 (0, 0)) (by (with_reducible repeat (first | refine Bn_ ?_ _ | refine Bd_ ?_ | refine Ba_ ?_ _)); exact BK375.out)) : gb395 ≠ gb375)); have n12_ := Am_ ((by rw [hg]; exact Nat.ne_of_lt (blk_lt (g := gb387) (o := .cells #[.slice Ao34 t380.length co34, .slice Ao37 t383.length co37] 25 (0, 0)) (by (with_reducible repeat (first | refine Bn_ ?_ _ | refine Bd_ ?_ | refine Ba_ ?_ _)); exact BK387.out)) : gb387 ≠ gb395)); have n13_ := Am_ ((by rw [hg]; exact Nat.ne_of_gt (blk_lt (g := gb387) (o := .cells #[.slice Ao34 t380.length co34, .slice Ao37 t383.length co37] 25 (0, 0)) (by (with_reducible repeat (first | refine Bn_ ?_ _ | refine Bd_ ?_ | refine Ba_ ?_ _)); exact BK387.out)) : gb395 ≠ gb387)); clear HO382; clear HO385; clear HO390; clear HO393; clear BK375; clear BK387; clear HB; have HO382 := n0_; have HO385 := n1_; have HO390 := n2_; have HO393 := n3_; have BK375 := n4_; have BK387 := n5_; have HB := n6_; have BK395 := n7_; have GW395 := n8_; have GE395 := n9_; have NB375_395 := n10_; have NB395_375 := n11_; have NB387_395 := n12_; have NB395_387 := n13_; clear n0_ n1_ n2_ n3_ n4_ n5_ n6_ n7_ n8_ n9_ n10_ n11_ n12_ n13_; clear hb hbox hg; obtain ⟨Ao42, co42, eo42⟩ := Vx_ HO390.out; subst eo42; have hnb43 := NB395_375.out; have hnc43 := NB375_395.out; have hnb44 := NB395_387.out; have hnc44 := NB387_395.out; have hcz45_0 : w41.cell? ⟨gb395, 0, none⟩ = some (.slice none 0 0) := (Bc_ BK395.out 0).trans rfl; have hcz45_1 : w41.cell? ⟨gb395, 1, none⟩ = some (.slice none 0 0) := (Bc_ BK395.out 1).trans rfl; have hfz45_0 := Bf_ BK395.out 0; have hfz45_1 := Bf_ BK395.out 1; obtain ⟨Ao46, co46, eo46⟩ := Vx_ HO393.out; subst eo46) | ((with_reducible refine gate_store (t := 25) (p := 13) rfl ?_); refine store_event (t := 25) (p := 13) (v := ?vo_w47) (w1 := ((w41.setCell ⟨gb395, 0, none⟩ (.slice Ao42 t388.length co42)).setCell ⟨gb395, 1, none⟩ (.slice Ao46 t391.length co46))) ?hg ?ho ?hn ?hr ?_; (case ho => rfl); (case hg => rfl); (case hn => rfl); (case hr => first | (go_simp; done) | (go_simp; rfl)); intro w47 hw; have n0_ : Aside0 (Kd.V k44 44 w47 w.heap.size (fun k_ => k_ ≠ gb375 ∧ k_ ≠ gb387 ∧ k_ ≠ gb395) (.slice Ao34 t380.length co34) t380) := ⟨(by rw [hw]; exact (by (with_reducible repeat (first | apply Va_ | apply Vn_ | apply Vd_)); exact Vm_ (Vf_ (p := ⟨gb395, 1, none⟩) (Vf_ (p := ⟨gb395, 0, none⟩) (Vm_ HO382.out (fun k_ hk => (⟨hk, hk.2⟩ : _ ∧ k_ ≠ gb395))) (fun _ hk => hk.2) (.slice Ao42 t388.length co42)) (fun _ hk => hk.2) (.slice Ao46 t391.length co46)) (fun _ hk => ⟨hk.1.1.1, ⟨hk.1.1.2, hk.1.2⟩⟩)))⟩; have n1_ : Aside0 (Kd.V (Kd.slice 3 (Kd.int .i64)) 48 w47 w.heap.size (fun k_ => k_ ≠ gb375 ∧ k_ ≠ gb387 ∧ k_ ≠ gb395) (.slice Ao37 t383.length co37) t383) := ⟨(by rw [hw]; exact (by (with_reducible repeat (first | apply Va_ | apply Vn_ | apply Vd_)); exact Vm_ (Vf_ (p := ⟨gb395, 1, none⟩) (Vf_ (p := ⟨gb395, 0, none⟩) (Vm_ HO385.out (fun k_ hk => (⟨hk, hk.2⟩ : _ ∧ k_ ≠ gb395))) (fun _ hk => hk.2) (.slice Ao42 t388.length co42)) (fun _ hk => hk.2) (.slice Ao46 t391.length co46)) (fun _ hk => ⟨hk.1.1.1, ⟨hk.1.1.2, hk.1.2⟩⟩)))⟩; have n2_ : Aside0 (Kd.V k44 44 w47 w.heap.size (fun k_ => k_ ≠ gb375 ∧ k_ ≠ gb387 ∧ k_ ≠ gb395) (.slice Ao42 t388.length co42) t388) := ⟨(by rw [hw]; exact (by (with_reducible repeat (first | apply Va_ | apply Vn_ | apply Vd_)); exact Vm_ (Vf_ (p := ⟨gb395, 1, none⟩) (Vf_ (p := ⟨gb395, 0, none⟩) (Vm_ HO390.out (fun k_ hk => (⟨hk, hk.2⟩ : _ ∧ k_ ≠ gb395))) (fun _ hk => hk.2) (.slice Ao42 t388.length co42)) (fun _ hk => hk.2) (.slice Ao46 t391.length co46)) (fun _ hk => ⟨hk.1.1.1, ⟨hk.1.1.2, hk.1.2⟩⟩)))⟩; have n3_ : Aside0 (Kd.V (Kd.slice 3 (Kd.int .i64)) 48 w47 w.heap.size (fun k_ => k_ ≠ gb375 ∧ k_ ≠ gb387 ∧ k_ ≠ gb395) (.slice Ao46 t391.length co46) t391) := ⟨(by rw [hw]; exact (by (with_reducible repeat (first | apply Va_ | apply Vn_ | apply Vd_)); exact Vm_ (Vf_ (p := ⟨gb395, 1, none⟩) (Vf_ (p := ⟨gb395, 0, none⟩) (Vm_ HO393.out (fun k_ hk => (⟨hk, hk.2⟩ : _ ∧ k_ ≠ gb395))) (fun _ hk => hk.2) (.slice Ao42 t388.length co42)) (fun _ hk => hk.2) (.slice Ao46 t391.length co46)) (fun _ hk => ⟨hk.1.1.1, ⟨hk.1.1.2, hk.1.2⟩⟩)))⟩; have n4_ : Aside0 (w47.heap[gb375]? = some (.cells #[.slice A0_0 l0_0.length c0_0, .slice A0_1 l0_1.length c0_1] 25 (0, 0))) := ⟨(by rw [hw]; exact (by (with_reducible repeat (first | refine Bn_ ?_ _ | refine Bd_ ?_ | refine Ba_ ?_ _)); refine blk_far ?_ NB375_395.out _; (with_reducible repeat (first | refine Bn_ ?_ _ | refine Bd_ ?_ | refine Ba_ ?_ _)); refine blk_far ?_ NB375_395.out _; (with_reducible repeat (first | refine Bn_ ?_ _ | refine Bd_ ?_ | refine Ba_ ?_ _)); exact BK375.out))⟩; have n5_ : Aside0 (w47.heap[gb387]? = some (.cells #[.slice Ao34 t380.length co34, .slice Ao37 t383.length co37] 25 (0, 0))) := ⟨(by rw [hw]; exact (by (with_reducible repeat (first | refine Bn_ ?_ _ | refine Bd_ ?_ | refine Ba_ ?_ _)); refine blk_far ?_ NB387_395.out _; (with_reducible repeat (first | refine Bn_ ?_ _ | refine Bd_ ?_ | refine Ba_ ?_ _)); refine blk_far ?_ NB387_395.out _; (with_reducible repeat (first | refine Bn_ ?_ _ | refine Bd_ ?_ | refine Ba_ ?_ _)); exact BK387.out))⟩; have n6_ : Aside0 (w47.heap[gb395]? = some (.cells #[.slice Ao42 t388.length co42, .slice Ao46 t391.length co46] 25 (0, 0))) := ⟨(by rw [hw]; exact (by (with_reducible repeat (first | refine Bn_ ?_ _ | refine Bd_ ?_ | refine Ba_ ?_ _)); refine Bp_ (cs := #[.slice Ao42 t388.length co42, .slice none 0 0]) ?_ 1 _ rfl; (with_reducible repeat (first | refine Bn_ ?_ _ | refine Bd_ ?_ | refine Ba_ ?_ _)); refine Bp_ (cs := #[.slice none 0 0, .slice none 0 0]) ?_ 0 _ rfl; (with_reducible repeat (first | refine Bn_ ?_ _ | refine Bd_ ?_ | refine Ba_ ?_ _)); exact BK395.out))⟩; have n7_ : Aside0 (Below w.heap.size w w47) := ⟨(by rw [hw]; exact (by repeat (first | (with_reducible first | exact HB.out | apply Pa_ | apply Pn_ | apply Pd_ | refine Bs_ ?_ GE375.out | refine Bs_ ?_ GE387.out | refine Bs_ ?_ GE395.out) | exact HB.out)))⟩; clear hw; clear HO382; clear HO385; clear HO390; clear HO393; clear BK375; clear BK387; clear BK395; clear HB; have HO382 := n0_; have HO385 := n1_; have HO390 := n2_; have HO393 := n3_; have BK375 := n4_; have BK387 := n5_; have BK395 := n6_; have HB := n7_; clear n0_ n1_ n2_ n3_ n4_ n5_ n6_ n7_; have hcz48_0 : w47.cell? ⟨gb395, 0, none⟩ = some (.slice Ao42 t388.length co42) := (Bc_ BK395.out 0).trans rfl; have hcz48_1 : w47.cell? ⟨gb395, 1, none⟩ = some (.slice Ao46 t391.length co46) := (Bc_ BK395.out 1).trans rfl; have hfz48_0 := Bf_ BK395.out 0; have hfz48_1 := Bf_ BK395.out 1) | ((with_reducible refine gate_callee (f := 11) rfl ?_); refine goesL_ (some 84) rfl rfl Try.func11 (by kernel_rfl) rfl #[.agg #[.slice Ao42 t388.length co42, .slice Ao46 t391.length co46], .int .i64 a1, .int .i64 a3] rfl (by (try simp only [List.map_toArray, List.map_cons, List.map_nil]); first | done | rfl | (simp only [List.length_drop, List.length_take]; rfl)) ?_; (with_reducible refine (flock_Lock.calls (fun k_ => (k_ ≠ gb375 ∧ (k_ ≠ gb387 ∧ k_ ≠ gb395))) _ _ t388 (fun k_ => (k_ ≠ gb375 ∧ (k_ ≠ gb387 ∧ k_ ≠ gb395))) _ _ t391 a1 a3 t396 t399 t402 _ ?side1 ?side2 A28.out).mono ?_); (case side1 => exact HO390.out); (case side2 => exact HO393.out); rintro e w49 ⟨v397, v400, rfl, ho0, ho1, hb⟩; refine ⟨_, rfl, ?_⟩; have n0_ := Am_ (Vb_ (by (with_reducible repeat (first | apply Va_ | apply Vn_ | apply Vd_)); exact HO382.out) hb); have n1_ := Am_ (Vb_ (by (with_reducible repeat (first | apply Va_ | apply Vn_ | apply Vd_)); exact HO385.out) hb); have n2_ := Am_ (Vb_ (by (with_reducible repeat (first | apply Va_ | apply Vn_ | apply Vd_)); exact HO390.out) hb); have n3_ := Am_ (Vb_ (by (with_reducible repeat (first | apply Va_ | apply Vn_ | apply Vd_)); exact HO393.out) hb); have n4_ := Am_ (Vl_ (Vm_ (ok' := fun k_ => k_ ≠ gb375 ∧ k_ ≠ gb387 ∧ k_ ≠ gb395) ho0 (fun k_ hk_ => ⟨Or.elim hk_ (fun hs_ => Or.elim hs_ (fun hs_ => hs_.1) (fun hs_ => hs_.1)) (fun hn_ => (Kd.freshB (g := gb375) (o := .cells #[.slice A0_0 l0_0.length c0_0, .slice A0_1 l0_1.length c0_1] 25 (0, 0)) (by (with_reducible repeat (first | refine Bn_ ?_ _ | refine Bd_ ?_ | refine Ba_ ?_ _)); exact BK375.out) k_ hn_)), Or.elim hk_ (fun hs_ => Or.elim hs_ (fun hs_ => hs_.2.1) (fun hs_ => hs_.2.1)) (fun hn_ => (Kd.freshB (g := gb387) (o := .cells #[.slice Ao34 t380.length co34, .slice Ao37 t383.length co37] 25 (0, 0)) (by (with_reducible repeat (first | refine Bn_ ?_ _ | refine Bd_ ?_ | refine Ba_ ?_ _)); exact BK387.out) k_ hn_)), Or.elim hk_ (fun hs_ => Or.elim hs_ (fun hs_ => hs_.2.2) (fun hs_ => hs_.2.2)) (fun hn_ => (Kd.freshB (g := gb395) (o := .cells #[.slice Ao42 t388.length co42, .slice Ao46 t391.length co46] 25 (0, 0)) (by (with_reducible repeat (first | refine Bn_ ?_ _ | refine Bd_ ?_ | refine Ba_ ?_ _)); exact BK395.out) k_ hn_))⟩)) (Bz_ (by repeat (first | (with_reducible first | exact HB.out | apply Pa_ | apply Pn_ | apply Pd_ | refine Bs_ ?_ GE375.out | refine Bs_ ?_ GE387.out | refine Bs_ ?_ GE395.out) | exact HB.out)))); have n5_ := Am_ (Vl_ (Vm_ (ok' := fun k_ => k_ ≠ gb375 ∧ k_ ≠ gb387 ∧ k_ ≠ gb395) ho1 (fun k_ hk_ => ⟨Or.elim hk_ (fun hs_ => Or.elim hs_ (fun hs_ => hs_.1) (fun hs_ => hs_.1)) (fun hn_ => (Kd.freshB (g := gb375) (o := .cells #[.slice A0_0 l0_0.length c0_0, .slice A0_1 l0_1.length c0_1] 25 (0, 0)) (by (with_reducible repeat (first | refine Bn_ ?_ _ | refine Bd_ ?_ | refine Ba_ ?_ _)); exact BK375.out) k_ hn_)), Or.elim hk_ (fun hs_ => Or.elim hs_ (fun hs_ => hs_.2.1) (fun hs_ => hs_.2.1)) (fun hn_ => (Kd.freshB (g := gb387) (o := .cells #[.slice Ao34 t380.length co34, .slice Ao37 t383.length co37] 25 (0, 0)) (by (with_reducible repeat (first | refine Bn_ ?_ _ | refine Bd_ ?_ | refine Ba_ ?_ _)); exact BK387.out) k_ hn_)), Or.elim hk_ (fun hs_ => Or.elim hs_ (fun hs_ => hs_.2.2) (fun hs_ => hs_.2.2)) (fun hn_ => (Kd.freshB (g := gb395) (o := .cells #[.slice Ao42 t388.length co42, .slice Ao46 t391.length co46] 25 (0, 0)) (by (with_reducible repeat (first | refine Bn_ ?_ _ | refine Bd_ ?_ | refine Ba_ ?_ _)); exact BK395.out) k_ hn_))⟩)) (Bz_ (by repeat (first | (with_reducible first | exact HB.out | apply Pa_ | apply Pn_ | apply Pd_ | refine Bs_ ?_ GE375.out | refine Bs_ ?_ GE387.out | refine Bs_ ?_ GE395.out) | exact HB.out)))); have n6_ := Am_ (Bb_ (g := gb375) (o := .cells #[.slice A0_0 l0_0.length c0_0, .slice A0_1 l0_1.length c0_1] 25 (0, 0)) (by (with_reducible repeat (first | refine Bn_ ?_ _ | refine Bd_ ?_ | refine Ba_ ?_ _)); exact BK375.out) hb); have n7_ := Am_ (Bb_ (g := gb387) (o := .cells #[.slice Ao34 t380.length co34, .slice Ao37 t383.length co37] 25 (0, 0)) (by (with_reducible repeat (first | refine Bn_ ?_ _ | refine Bd_ ?_ | refine Ba_ ?_ _)); exact BK387.out) hb); have n8_ := Am_ (Bb_ (g := gb395) (o := .cells #[.slice Ao42 t388.length co42, .slice Ao46 t391.length co46] 25 (0, 0)) (by (with_reducible repeat (first | refine Bn_ ?_ _ | refine Bd_ ?_ | refine Ba_ ?_ _)); exact BK395.out) hb); have n9_ := Am_ (Be_ (by repeat (first | (with_reducible first | exact HB.out | apply Pa_ | apply Pn_ | apply Pd_ | refine Bs_ ?_ GE375.out | refine Bs_ ?_ GE387.out | refine Bs_ ?_ GE395.out) | exact HB.out)) hb); clear HO382; clear HO385; clear HO390; clear HO393; clear BK375; clear BK387; clear BK395; clear HB; have HO382 := n0_; have HO385 := n1_; have HO390 := n2_; have HO393 := n3_; have HO398 := n4_; have HO401 := n5_; have BK375 := n6_; have BK387 := n7_; have BK395 := n8_; have HB := n9_; clear n0_ n1_ n2_ n3_ n4_ n5_ n6_ n7_ n8_ n9_; (try clear hb); (try clear hb2); (try clear hk); (try clear hi); (try clear ho0); (try clear ho1)) | ((with_reducible refine gate_dst (N := 15) rfl ?_); (try (refine gate_guard (by rfl) ?_; dsimp only)); refine box_event ?hg (N := 15) ?hd (cs := #[.slice none 0 0, .slice none 0 0]) (t := 25) ?hr ?_; (case hd => rfl); (case hg => rfl); (case hr => first | (go_simp; done) | (go_simp; rfl)); intro gb403 hg w50 hbox hb; have n0_ := Am_ (Vb_ (Ke_ (by (with_reducible repeat (first | apply Va_ | apply Vn_ | apply Vd_)); exact HO382.out) gb403 (Nat.le_of_eq hg.symm)) hb); have n1_ := Am_ (Vb_ (Ke_ (by (with_reducible repeat (first | apply Va_ | apply Vn_ | apply Vd_)); exact HO385.out) gb403 (Nat.le_of_eq hg.symm)) hb); have n2_ := Am_ (Vb_ (Ke_ (by (with_reducible repeat (first | apply Va_ | apply Vn_ | apply Vd_)); exact HO390.out) gb403 (Nat.le_of_eq hg.symm)) hb); have n3_ := Am_ (Vb_ (Ke_ (by (with_reducible repeat (first | apply Va_ | apply Vn_ | apply Vd_)); exact HO393.out) gb403 (Nat.le_of_eq hg.symm)) hb); have n4_ := Am_ (Vb_ (Ke_ (by (with_reducible repeat (first | apply Va_ | apply Vn_ | apply Vd_)); exact HO398.out) gb403 (Nat.le_of_eq hg.symm)) hb); have n5_ := Am_ (Vb_ (Ke_ (by (with_reducible repeat (first | apply Va_ | apply Vn_ | apply Vd_)); exact HO401.out) gb403 (Nat.le_of_eq hg.symm)) hb); have n6_ := Am_ (Bb_ (g := gb375) (o := .cells #[.slice A0_0 l0_0.length c0_0, .slice A0_1 l0_1.length c0_1] 25 (0, 0)) (by (with_reducible repeat (first | refine Bn_ ?_ _ | refine Bd_ ?_ | refine Ba_ ?_ _)); exact BK375.out) hb); have n7_ := Am_ (Bb_ (g := gb387) (o := .cells #[.slice Ao34 t380.length co34, .slice Ao37 t383.length co37] 25 (0, 0)) (by (with_reducible repeat (first | refine Bn_ ?_ _ | refine Bd_ ?_ | refine Ba_ ?_ _)); exact BK387.out) hb); have n8_ := Am_ (Bb_ (g := gb395) (o := .cells #[.slice Ao42 t388.length co42, .slice Ao46 t391.length co46] 25 (0, 0)) (by (with_reducible repeat (first | refine Bn_ ?_ _ | refine Bd_ ?_ | refine Ba_ ?_ _)); exact BK395.out) hb); have n9_ := Am_ (Be_ (by repeat (first | (with_reducible first | exact HB.out | apply Pa_ | apply Pn_ | apply Pd_ | refine Bs_ ?_ GE375.out | refine Bs_ ?_ GE387.out | refine Bs_ ?_ GE395.out) | exact HB.out)) hb); have n10_ := Am_ (hbox); have n11_ := Am_ ((by rw [hg]; exact (Bz_ (by repeat (first | (with_reducible first | exact HB.out | apply Pa_ | apply Pn_ | apply Pd_ | refine Bs_ ?_ GE375.out | refine Bs_ ?_ GE387.out | refine Bs_ ?_ GE395.out) | exact HB.out))) : w.heap.size ≤ gb403)); have n12_ := Am_ ((by rw [hg]; exact (Bz_ (by repeat (first | (with_reducible first | exact HB.out | apply Pa_ | apply Pn_ | apply Pd_ | refine Bs_ ?_ GE375.out | refine Bs_ ?_ GE387.out | refine Bs_ ?_ GE395.out) | exact HB.out))) : w.heap.size ≤ gb403)); have n13_ := Am_ ((by rw [hg]; exact Nat.ne_of_lt (blk_lt (g := gb375) (o := .cells #[.slice A0_0 l0_0.length c0_0, .slice A0_1 l0_1.length c0_1] 25 (0, 0)) (by (with_reducible repeat (first | refine Bn_ ?_ _ | refine Bd_ ?_ | refine Ba_ ?_ _)); exact BK375.out)) : gb375 ≠ gb403)); have n14_ := Am_ ((by rw [hg]; exact Nat.ne_of_gt (blk_lt (g := gb375) (o := .cells #[.slice A0_0 l0_0.length c0_0, .slice A0_1 l0_1.length c0_1] 25 (0, 0)) (by (with_reducible repeat (first | refine Bn_ ?_ _ | refine Bd_ ?_ | refine Ba_ ?_ _)); exact BK375.out)) : gb403 ≠ gb375)); have n15_ := Am_ ((by rw [hg]; exact Nat.ne_of_lt (blk_lt (g := gb387) (o := .cells #[.slice Ao34 t380.length co34, .slice Ao37 t383.length co37] 25 (0, 0)) (by (with_reducible repeat (first | refine Bn_ ?_ _ | refine Bd_ ?_ | refine Ba_ ?_ _)); exact BK387.out)) : gb387 ≠ gb403)); have n16_ := Am_ ((by rw [hg]; exact Nat.ne_of_gt (blk_lt (g := gb387) (o := .cells #[.slice Ao34 t380.length co34, .slice Ao37 t383.length co37] 25 (0, 0)) (by (with_reducible repeat (first | refine Bn_ ?_ _ | refine Bd_ ?_ | refine Ba_ ?_ _)); exact BK387.out)) : gb403 ≠ gb387)); have n17_ := Am_ ((by rw [hg]; exact Nat.ne_of_lt (blk_lt (g := gb395) (o := .cells #[.slice Ao42 t388.length co42, .slice Ao46 t391.length co46] 25 (0, 0)) (by (with_reducible repeat (first | refine Bn_ ?_ _ | refine Bd_ ?_ | refine Ba_ ?_ _)); exact BK395.out)) : gb395 ≠ gb403)); have n18_ := Am_ ((by rw [hg]; exact Nat.ne_of_gt (blk_lt (g := gb395) (o := .cells #[.slice Ao42 t388.length co42, .slice Ao46 t391.length co46] 25 (0, 0)) (by (with_reducible repeat (first | refine Bn_ ?_ _ | refine Bd_ ?_ | refine Ba_ ?_ _)); exact BK395.out)) : gb403 ≠ gb395)); clear HO382; clear HO385; clear HO390; clear HO393; clear HO398; clear HO401; clear BK375; clear BK387; clear BK395; clear HB; have HO382 := n0_; have HO385 := n1_; have HO390 := n2_; have HO393 := n3_; have HO398 := n4_; have HO401 := n5_; have BK375 := n6_; have BK387 := n7_; have BK395 := n8_; have HB := n9_; have BK403 := n10_; have GW403 := n11_; have GE403 := n12_; have NB375_403 := n13_; have NB403_375 := n14_; have NB387_403 := n15_; have NB403_387 := n16_; have NB395_403 := n17_; have NB403_395 := n18_; clear n0_ n1_ n2_ n3_ n4_ n5_ n6_ n7_ n8_ n9_ n10_ n11_ n12_ n13_ n14_ n15_ n16_ n17_ n18_; clear hb hbox hg; obtain ⟨Ao51, co51, eo51⟩ := Vx_ HO398.out; subst eo51; have hnb52 := NB403_375.out; have hnc52 := NB375_403.out; have hnb53 := NB403_387.out; have hnc53 := NB387_403.out; have hnb54 := NB403_395.out; have hnc54 := NB395_403.out; have hcz55_0 : w50.cell? ⟨gb403, 0, none⟩ = some (.slice none 0 0) := (Bc_ BK403.out 0).trans rfl; have hcz55_1 : w50.cell? ⟨gb403, 1, none⟩ = some (.slice none 0 0) := (Bc_ BK403.out 1).trans rfl; have hfz55_0 := Bf_ BK403.out 0; have hfz55_1 := Bf_ BK403.out 1; obtain ⟨Ao56, co56, eo56⟩ := Vx_ HO401.out; subst eo56))
     (try simp only [Act.put, La_, Lb_, Lc_])
     go_cut [120] (fun v120 wc => ∃ (kq : Nat) (x120_29 : Bool), v120 = .bool x120_29 ∧ Aside0 (flagstonelaw11_FlockOtherA.j1 kq x120_29 = some r) ∧ Aside0 (kq ≤ kj5) ∧ Aside0 (Kd.V k44 44 wc w.heap.size (fun k_ => k_ ≠ gb375 ∧ k_ ≠ gb387 ∧ k_ ≠ gb395 ∧ k_ ≠ gb403) (.slice Ao34 t380.length co34) t380) ∧ Aside0 (Kd.V (Kd.slice 3 (Kd.int .i64)) 48 wc w.heap.size (fun k_ => k_ ≠ gb375 ∧ k_ ≠ gb387 ∧ k_ ≠ gb395 ∧ k_ ≠ gb403) (.slice Ao37 t383.length co37) t383) ∧ Aside0 (Kd.V k44 44 wc w.heap.size (fun k_ => k_ ≠ gb375 ∧ k_ ≠ gb387 ∧ k_ ≠ gb395 ∧ k_ ≠ gb403) (.slice Ao42 t388.length co42) t388) ∧ Aside0 (Kd.V (Kd.slice 3 (Kd.int .i64)) 48 wc w.heap.size (fun k_ => k_ ≠ gb375 ∧ k_ ≠ gb387 ∧ k_ ≠ gb395 ∧ k_ ≠ gb403) (.slice Ao46 t391.length co46) t391) ∧ Aside0 (Kd.V k44 44 wc w.heap.size (fun k_ => k_ ≠ gb375 ∧ k_ ≠ gb387 ∧ k_ ≠ gb395 ∧ k_ ≠ gb403) (.slice Ao51 t396.length co51) t396) ∧ Aside0 (Kd.V (Kd.slice 3 (Kd.int .i64)) 48 wc w.heap.size (fun k_ => k_ ≠ gb375 ∧ k_ ≠ gb387 ∧ k_ ≠ gb395 ∧ k_ ≠ gb403) (.slice Ao56 t399.length co56) t399) ∧ Aside0 (wc.heap[gb375]? = some (.cells #[(.slice A0_0 l0_0.length c0_0), (.slice A0_1 l0_1.length c0_1)] 25 (0, 0))) ∧ Aside0 (wc.heap[gb387]? = some (.cells #[(.slice Ao34 t380.length co34), (.slice Ao37 t383.length co37)] 25 (0, 0))) ∧ Aside0 (wc.heap[gb395]? = some (.cells #[(.slice Ao42 t388.length co42), (.slice Ao46 t391.length co46)] 25 (0, 0))) ∧ Aside0 (wc.heap[gb403]? = some (.cells #[(.slice Ao51 t396.length co51), (.slice Ao56 t399.length co56)] 25 (0, 0))) ∧ Aside0 (Below w.heap.size w wc))
     case first =>
      have H := HC30.out
      clear HC30
      by_cases c57 : 0 ≤ a1
      ·rw [if_pos c57] at H
       have c57b0 : decide (0 ≤ a1) = true := Dt_ c57
       clear c57
       (first | rw [c57b0] | (simp only [i64_w, i32_w]; rw [c57b0]) | skip)
       by_cases c58 : a1 < (l0_0.length : Int)
       ·rw [if_pos c58] at H
        have c58b0 : decide (a1 < (l0_0.length : Int)) = true := Dt_ c58
        clear c58
        by_cases c59 : ((rd_T44 l0_0 a1).f4) < 1
        ·rw [if_pos c59] at H
         have c59b0 : decide (((rd_T44 l0_0 a1).f4) < 1) = true := Dt_ c59
         clear c59
         have H' := Am_ H
         clear H
         have hnb60 := NB375_387.out
         have hnc60 := NB387_375.out
         have hnb61 := NB375_395.out
         have hnc61 := NB395_375.out
         have hnb62 := NB375_403.out
         have hnc62 := NB403_375.out
         have hcz63_0 : w50.cell? ⟨gb375, 0, none⟩ = some (.slice A0_0 l0_0.length c0_0) := (Bc_ BK375.out 0).trans rfl
         have hcz63_1 : w50.cell? ⟨gb375, 1, none⟩ = some (.slice A0_1 l0_1.length c0_1) := (Bc_ BK375.out 1).trans rfl
         have hfz63_0 := Bf_ BK375.out 0
         have hfz63_1 := Bf_ BK375.out 1
         have p404 : 0 ≤ (a1 : Int) := Ot_ (by first | (with_reducible assumption) | assumption)
         have q404 : a1 < (l0_0.length : Int) := Ot_ (by first | (with_reducible assumption) | assumption)
         obtain ⟨ad404, e404, hx404_0, hx404_1, hx404_2, hx404_3, hx404_4, hx404_5⟩ := at_T44 HR0_0.out a1 p404 q404
         cases e404
         have hn404_0 : ad404.block ≠ gb403 := Nat.ne_of_lt (Nat.lt_of_lt_of_le (by have := Bl_ _ _ hx404_0; first | rwa [Ab_] at this | exact this) GW403.out)
         have hn404_1 : ad404.block ≠ gb403 := Nat.ne_of_lt (Nat.lt_of_lt_of_le (by have := Bl_ _ _ hx404_0; first | rwa [Ab_] at this | exact this) GW403.out)
         replace hx404_0 := (HB.out.cell (Bl_ w _ hx404_0)).trans hx404_0
         replace hx404_1 := (HB.out.cell (Bl_ w _ hx404_1)).trans hx404_1
         replace hx404_2 := (HB.out.cell (Bl_ w _ hx404_2)).trans hx404_2
         replace hx404_3 := (HB.out.cell (Bl_ w _ hx404_3)).trans hx404_3
         replace hx404_4 := (HB.out.cell (Bl_ w _ hx404_4)).trans hx404_4
         replace hx404_5 := (HB.out.cell (Bl_ w _ hx404_5)).trans hx404_5
         replace hx404_0 := (Cf_ (p := ⟨gb403, 0, none⟩) (by first | (rw [Ab_]; exact hn404_0) | (show (Addr.add _ _).block ≠ _; rw [Ab_]; exact hn404_0) | exact hn404_0) (.slice Ao51 t396.length co51)).trans hx404_0
         replace hx404_1 := (Cf_ (p := ⟨gb403, 0, none⟩) (by first | (rw [Ab_]; exact hn404_0) | (show (Addr.add _ _).block ≠ _; rw [Ab_]; exact hn404_0) | exact hn404_0) (.slice Ao51 t396.length co51)).trans hx404_1
         replace hx404_2 := (Cf_ (p := ⟨gb403, 0, none⟩) (by first | (rw [Ab_]; exact hn404_0) | (show (Addr.add _ _).block ≠ _; rw [Ab_]; exact hn404_0) | exact hn404_0) (.slice Ao51 t396.length co51)).trans hx404_2
         replace hx404_3 := (Cf_ (p := ⟨gb403, 0, none⟩) (by first | (rw [Ab_]; exact hn404_0) | (show (Addr.add _ _).block ≠ _; rw [Ab_]; exact hn404_0) | exact hn404_0) (.slice Ao51 t396.length co51)).trans hx404_3
         replace hx404_4 := (Cf_ (p := ⟨gb403, 0, none⟩) (by first | (rw [Ab_]; exact hn404_0) | (show (Addr.add _ _).block ≠ _; rw [Ab_]; exact hn404_0) | exact hn404_0) (.slice Ao51 t396.length co51)).trans hx404_4
         replace hx404_5 := (Cf_ (p := ⟨gb403, 0, none⟩) (by first | (rw [Ab_]; exact hn404_0) | (show (Addr.add _ _).block ≠ _; rw [Ab_]; exact hn404_0) | exact hn404_0) (.slice Ao51 t396.length co51)).trans hx404_5
         replace hx404_0 := (Cf_ (p := ⟨gb403, 1, none⟩) (by first | (rw [Ab_]; exact hn404_1) | (show (Addr.add _ _).block ≠ _; rw [Ab_]; exact hn404_1) | exact hn404_1) (.slice Ao56 t399.length co56)).trans hx404_0
         replace hx404_1 := (Cf_ (p := ⟨gb403, 1, none⟩) (by first | (rw [Ab_]; exact hn404_1) | (show (Addr.add _ _).block ≠ _; rw [Ab_]; exact hn404_1) | exact hn404_1) (.slice Ao56 t399.length co56)).trans hx404_1
         replace hx404_2 := (Cf_ (p := ⟨gb403, 1, none⟩) (by first | (rw [Ab_]; exact hn404_1) | (show (Addr.add _ _).block ≠ _; rw [Ab_]; exact hn404_1) | exact hn404_1) (.slice Ao56 t399.length co56)).trans hx404_2
         replace hx404_3 := (Cf_ (p := ⟨gb403, 1, none⟩) (by first | (rw [Ab_]; exact hn404_1) | (show (Addr.add _ _).block ≠ _; rw [Ab_]; exact hn404_1) | exact hn404_1) (.slice Ao56 t399.length co56)).trans hx404_3
         replace hx404_4 := (Cf_ (p := ⟨gb403, 1, none⟩) (by first | (rw [Ab_]; exact hn404_1) | (show (Addr.add _ _).block ≠ _; rw [Ab_]; exact hn404_1) | exact hn404_1) (.slice Ao56 t399.length co56)).trans hx404_4
         replace hx404_5 := (Cf_ (p := ⟨gb403, 1, none⟩) (by first | (rw [Ab_]; exact hn404_1) | (show (Addr.add _ _).block ≠ _; rw [Ab_]; exact hn404_1) | exact hn404_1) (.slice Ao56 t399.length co56)).trans hx404_5
         clear hn404_0
         clear hn404_1
         replace p404 := eq_true p404
         replace q404 := eq_true q404
         go_wp2
         go_meet
         case rel => exact ⟨_, (true), (by first | rfl | (simp; done) | (simp [*]; done)), H', ⟨by have := HJ5.out; first | omega | exact Nat.le_refl _⟩, ⟨by (with_reducible repeat (first | apply Va_ | apply Vn_ | apply Vd_)); exact Vm_ (Vf_ (p := ⟨gb403, 1, none⟩) (Vf_ (p := ⟨gb403, 0, none⟩) (Vm_ HO382.out (fun k_ hk => (⟨hk, hk.2⟩ : _ ∧ k_ ≠ gb403))) (fun _ hk => hk.2) (.slice Ao51 t396.length co51)) (fun _ hk => hk.2) (.slice Ao56 t399.length co56)) (fun _ hk => ⟨hk.1.1.1, ⟨hk.1.1.2.1, ⟨hk.1.1.2.2, hk.1.2⟩⟩⟩)⟩, ⟨by (with_reducible repeat (first | apply Va_ | apply Vn_ | apply Vd_)); exact Vm_ (Vf_ (p := ⟨gb403, 1, none⟩) (Vf_ (p := ⟨gb403, 0, none⟩) (Vm_ HO385.out (fun k_ hk => (⟨hk, hk.2⟩ : _ ∧ k_ ≠ gb403))) (fun _ hk => hk.2) (.slice Ao51 t396.length co51)) (fun _ hk => hk.2) (.slice Ao56 t399.length co56)) (fun _ hk => ⟨hk.1.1.1, ⟨hk.1.1.2.1, ⟨hk.1.1.2.2, hk.1.2⟩⟩⟩)⟩, ⟨by (with_reducible repeat (first | apply Va_ | apply Vn_ | apply Vd_)); exact Vm_ (Vf_ (p := ⟨gb403, 1, none⟩) (Vf_ (p := ⟨gb403, 0, none⟩) (Vm_ HO390.out (fun k_ hk => (⟨hk, hk.2⟩ : _ ∧ k_ ≠ gb403))) (fun _ hk => hk.2) (.slice Ao51 t396.length co51)) (fun _ hk => hk.2) (.slice Ao56 t399.length co56)) (fun _ hk => ⟨hk.1.1.1, ⟨hk.1.1.2.1, ⟨hk.1.1.2.2, hk.1.2⟩⟩⟩)⟩, ⟨by (with_reducible repeat (first | apply Va_ | apply Vn_ | apply Vd_)); exact Vm_ (Vf_ (p := ⟨gb403, 1, none⟩) (Vf_ (p := ⟨gb403, 0, none⟩) (Vm_ HO393.out (fun k_ hk => (⟨hk, hk.2⟩ : _ ∧ k_ ≠ gb403))) (fun _ hk => hk.2) (.slice Ao51 t396.length co51)) (fun _ hk => hk.2) (.slice Ao56 t399.length co56)) (fun _ hk => ⟨hk.1.1.1, ⟨hk.1.1.2.1, ⟨hk.1.1.2.2, hk.1.2⟩⟩⟩)⟩, ⟨by (with_reducible repeat (first | apply Va_ | apply Vn_ | apply Vd_)); exact Vm_ (Vf_ (p := ⟨gb403, 1, none⟩) (Vf_ (p := ⟨gb403, 0, none⟩) (Vm_ HO398.out (fun k_ hk => (⟨hk, hk.2⟩ : _ ∧ k_ ≠ gb403))) (fun _ hk => hk.2) (.slice Ao51 t396.length co51)) (fun _ hk => hk.2) (.slice Ao56 t399.length co56)) (fun _ hk => ⟨hk.1.1.1, ⟨hk.1.1.2.1, ⟨hk.1.1.2.2, hk.1.2⟩⟩⟩)⟩, ⟨by (with_reducible repeat (first | apply Va_ | apply Vn_ | apply Vd_)); exact Vm_ (Vf_ (p := ⟨gb403, 1, none⟩) (Vf_ (p := ⟨gb403, 0, none⟩) (Vm_ HO401.out (fun k_ hk => (⟨hk, hk.2⟩ : _ ∧ k_ ≠ gb403))) (fun _ hk => hk.2) (.slice Ao51 t396.length co51)) (fun _ hk => hk.2) (.slice Ao56 t399.length co56)) (fun _ hk => ⟨hk.1.1.1, ⟨hk.1.1.2.1, ⟨hk.1.1.2.2, hk.1.2⟩⟩⟩)⟩, ⟨by (with_reducible repeat (first | refine Bn_ ?_ _ | refine Bd_ ?_ | refine Ba_ ?_ _)); refine blk_far ?_ NB375_403.out _; (with_reducible repeat (first | refine Bn_ ?_ _ | refine Bd_ ?_ | refine Ba_ ?_ _)); refine blk_far ?_ NB375_403.out _; (with_reducible repeat (first | refine Bn_ ?_ _ | refine Bd_ ?_ | refine Ba_ ?_ _)); exact BK375.out⟩, ⟨by (with_reducible repeat (first | refine Bn_ ?_ _ | refine Bd_ ?_ | refine Ba_ ?_ _)); refine blk_far ?_ NB387_403.out _; (with_reducible repeat (first | refine Bn_ ?_ _ | refine Bd_ ?_ | refine Ba_ ?_ _)); refine blk_far ?_ NB387_403.out _; (with_reducible repeat (first | refine Bn_ ?_ _ | refine Bd_ ?_ | refine Ba_ ?_ _)); exact BK387.out⟩, ⟨by (with_reducible repeat (first | refine Bn_ ?_ _ | refine Bd_ ?_ | refine Ba_ ?_ _)); refine blk_far ?_ NB395_403.out _; (with_reducible repeat (first | refine Bn_ ?_ _ | refine Bd_ ?_ | refine Ba_ ?_ _)); refine blk_far ?_ NB395_403.out _; (with_reducible repeat (first | refine Bn_ ?_ _ | refine Bd_ ?_ | refine Ba_ ?_ _)); exact BK395.out⟩, ⟨by (with_reducible repeat (first | refine Bn_ ?_ _ | refine Bd_ ?_ | refine Ba_ ?_ _)); refine Bp_ (cs := #[.slice Ao51 t396.length co51, .slice none 0 0]) ?_ 1 _ rfl; (with_reducible repeat (first | refine Bn_ ?_ _ | refine Bd_ ?_ | refine Ba_ ?_ _)); refine Bp_ (cs := #[.slice none 0 0, .slice none 0 0]) ?_ 0 _ rfl; (with_reducible repeat (first | refine Bn_ ?_ _ | refine Bd_ ?_ | refine Ba_ ?_ _)); exact BK403.out⟩, ⟨by repeat (first | (with_reducible first | exact HB.out | apply Pa_ | apply Pn_ | apply Pd_ | refine Bs_ ?_ GE375.out | refine Bs_ ?_ GE387.out | refine Bs_ ?_ GE395.out | refine Bs_ ?_ GE403.out) | exact HB.out)⟩⟩
        ·rw [if_neg c59] at H
         have c59b0 : decide (((rd_T44 l0_0 a1).f4) < 1) = false := Df_ c59
         clear c59
         by_cases c64 : ((rd_T44 l0_0 a1).f5) < 0
         ·rw [if_pos c64] at H
          have c64b0 : decide (((rd_T44 l0_0 a1).f5) < 0) = true := Dt_ c64
          clear c64
          have H' := Am_ H
          clear H
          have hnb65 := NB375_387.out
          have hnc65 := NB387_375.out
          have hnb66 := NB375_395.out
          have hnc66 := NB395_375.out
          have hnb67 := NB375_403.out
          have hnc67 := NB403_375.out
          have hcz68_0 : w50.cell? ⟨gb375, 0, none⟩ = some (.slice A0_0 l0_0.length c0_0) := (Bc_ BK375.out 0).trans rfl
          have hcz68_1 : w50.cell? ⟨gb375, 1, none⟩ = some (.slice A0_1 l0_1.length c0_1) := (Bc_ BK375.out 1).trans rfl
          have hfz68_0 := Bf_ BK375.out 0
          have hfz68_1 := Bf_ BK375.out 1
          have p404 : 0 ≤ (a1 : Int) := Ot_ (by first | (with_reducible assumption) | assumption)
          have q404 : a1 < (l0_0.length : Int) := Ot_ (by first | (with_reducible assumption) | assumption)
          obtain ⟨ad404, e404, hx404_0, hx404_1, hx404_2, hx404_3, hx404_4, hx404_5⟩ := at_T44 HR0_0.out a1 p404 q404
          cases e404
          have hn404_0 : ad404.block ≠ gb403 := Nat.ne_of_lt (Nat.lt_of_lt_of_le (by have := Bl_ _ _ hx404_0; first | rwa [Ab_] at this | exact this) GW403.out)
          have hn404_1 : ad404.block ≠ gb403 := Nat.ne_of_lt (Nat.lt_of_lt_of_le (by have := Bl_ _ _ hx404_0; first | rwa [Ab_] at this | exact this) GW403.out)
          replace hx404_0 := (HB.out.cell (Bl_ w _ hx404_0)).trans hx404_0
          replace hx404_1 := (HB.out.cell (Bl_ w _ hx404_1)).trans hx404_1
          replace hx404_2 := (HB.out.cell (Bl_ w _ hx404_2)).trans hx404_2
          replace hx404_3 := (HB.out.cell (Bl_ w _ hx404_3)).trans hx404_3
          replace hx404_4 := (HB.out.cell (Bl_ w _ hx404_4)).trans hx404_4
          replace hx404_5 := (HB.out.cell (Bl_ w _ hx404_5)).trans hx404_5
          replace hx404_0 := (Cf_ (p := ⟨gb403, 0, none⟩) (by first | (rw [Ab_]; exact hn404_0) | (show (Addr.add _ _).block ≠ _; rw [Ab_]; exact hn404_0) | exact hn404_0) (.slice Ao51 t396.length co51)).trans hx404_0
          replace hx404_1 := (Cf_ (p := ⟨gb403, 0, none⟩) (by first | (rw [Ab_]; exact hn404_0) | (show (Addr.add _ _).block ≠ _; rw [Ab_]; exact hn404_0) | exact hn404_0) (.slice Ao51 t396.length co51)).trans hx404_1
          replace hx404_2 := (Cf_ (p := ⟨gb403, 0, none⟩) (by first | (rw [Ab_]; exact hn404_0) | (show (Addr.add _ _).block ≠ _; rw [Ab_]; exact hn404_0) | exact hn404_0) (.slice Ao51 t396.length co51)).trans hx404_2
          replace hx404_3 := (Cf_ (p := ⟨gb403, 0, none⟩) (by first | (rw [Ab_]; exact hn404_0) | (show (Addr.add _ _).block ≠ _; rw [Ab_]; exact hn404_0) | exact hn404_0) (.slice Ao51 t396.length co51)).trans hx404_3
          replace hx404_4 := (Cf_ (p := ⟨gb403, 0, none⟩) (by first | (rw [Ab_]; exact hn404_0) | (show (Addr.add _ _).block ≠ _; rw [Ab_]; exact hn404_0) | exact hn404_0) (.slice Ao51 t396.length co51)).trans hx404_4
          replace hx404_5 := (Cf_ (p := ⟨gb403, 0, none⟩) (by first | (rw [Ab_]; exact hn404_0) | (show (Addr.add _ _).block ≠ _; rw [Ab_]; exact hn404_0) | exact hn404_0) (.slice Ao51 t396.length co51)).trans hx404_5
          replace hx404_0 := (Cf_ (p := ⟨gb403, 1, none⟩) (by first | (rw [Ab_]; exact hn404_1) | (show (Addr.add _ _).block ≠ _; rw [Ab_]; exact hn404_1) | exact hn404_1) (.slice Ao56 t399.length co56)).trans hx404_0
          replace hx404_1 := (Cf_ (p := ⟨gb403, 1, none⟩) (by first | (rw [Ab_]; exact hn404_1) | (show (Addr.add _ _).block ≠ _; rw [Ab_]; exact hn404_1) | exact hn404_1) (.slice Ao56 t399.length co56)).trans hx404_1
          replace hx404_2 := (Cf_ (p := ⟨gb403, 1, none⟩) (by first | (rw [Ab_]; exact hn404_1) | (show (Addr.add _ _).block ≠ _; rw [Ab_]; exact hn404_1) | exact hn404_1) (.slice Ao56 t399.length co56)).trans hx404_2
          replace hx404_3 := (Cf_ (p := ⟨gb403, 1, none⟩) (by first | (rw [Ab_]; exact hn404_1) | (show (Addr.add _ _).block ≠ _; rw [Ab_]; exact hn404_1) | exact hn404_1) (.slice Ao56 t399.length co56)).trans hx404_3
          replace hx404_4 := (Cf_ (p := ⟨gb403, 1, none⟩) (by first | (rw [Ab_]; exact hn404_1) | (show (Addr.add _ _).block ≠ _; rw [Ab_]; exact hn404_1) | exact hn404_1) (.slice Ao56 t399.length co56)).trans hx404_4
          replace hx404_5 := (Cf_ (p := ⟨gb403, 1, none⟩) (by first | (rw [Ab_]; exact hn404_1) | (show (Addr.add _ _).block ≠ _; rw [Ab_]; exact hn404_1) | exact hn404_1) (.slice Ao56 t399.length co56)).trans hx404_5
          clear hn404_0
          clear hn404_1
          replace p404 := eq_true p404
          replace q404 := eq_true q404
          have p405 : 0 ≤ (a1 : Int) := Ot_ (by first | (with_reducible assumption) | assumption)
          have q405 : a1 < (l0_0.length : Int) := Ot_ (by first | (with_reducible assumption) | assumption)
          obtain ⟨ad405, e405, hx405_0, hx405_1, hx405_2, hx405_3, hx405_4, hx405_5⟩ := at_T44 HR0_0.out a1 p405 q405
          obtain rfl : ad404 = ad405 := (by injection e405)
          have hn405_0 : ad404.block ≠ gb403 := Nat.ne_of_lt (Nat.lt_of_lt_of_le (by have := Bl_ _ _ hx405_0; first | rwa [Ab_] at this | exact this) GW403.out)
          have hn405_1 : ad404.block ≠ gb403 := Nat.ne_of_lt (Nat.lt_of_lt_of_le (by have := Bl_ _ _ hx405_0; first | rwa [Ab_] at this | exact this) GW403.out)
          replace hx405_0 := (HB.out.cell (Bl_ w _ hx405_0)).trans hx405_0
          replace hx405_1 := (HB.out.cell (Bl_ w _ hx405_1)).trans hx405_1
          replace hx405_2 := (HB.out.cell (Bl_ w _ hx405_2)).trans hx405_2
          replace hx405_3 := (HB.out.cell (Bl_ w _ hx405_3)).trans hx405_3
          replace hx405_4 := (HB.out.cell (Bl_ w _ hx405_4)).trans hx405_4
          replace hx405_5 := (HB.out.cell (Bl_ w _ hx405_5)).trans hx405_5
          replace hx405_0 := (Cf_ (p := ⟨gb403, 0, none⟩) (by first | (rw [Ab_]; exact hn405_0) | (show (Addr.add _ _).block ≠ _; rw [Ab_]; exact hn405_0) | exact hn405_0) (.slice Ao51 t396.length co51)).trans hx405_0
          replace hx405_1 := (Cf_ (p := ⟨gb403, 0, none⟩) (by first | (rw [Ab_]; exact hn405_0) | (show (Addr.add _ _).block ≠ _; rw [Ab_]; exact hn405_0) | exact hn405_0) (.slice Ao51 t396.length co51)).trans hx405_1
          replace hx405_2 := (Cf_ (p := ⟨gb403, 0, none⟩) (by first | (rw [Ab_]; exact hn405_0) | (show (Addr.add _ _).block ≠ _; rw [Ab_]; exact hn405_0) | exact hn405_0) (.slice Ao51 t396.length co51)).trans hx405_2
          replace hx405_3 := (Cf_ (p := ⟨gb403, 0, none⟩) (by first | (rw [Ab_]; exact hn405_0) | (show (Addr.add _ _).block ≠ _; rw [Ab_]; exact hn405_0) | exact hn405_0) (.slice Ao51 t396.length co51)).trans hx405_3
          replace hx405_4 := (Cf_ (p := ⟨gb403, 0, none⟩) (by first | (rw [Ab_]; exact hn405_0) | (show (Addr.add _ _).block ≠ _; rw [Ab_]; exact hn405_0) | exact hn405_0) (.slice Ao51 t396.length co51)).trans hx405_4
          replace hx405_5 := (Cf_ (p := ⟨gb403, 0, none⟩) (by first | (rw [Ab_]; exact hn405_0) | (show (Addr.add _ _).block ≠ _; rw [Ab_]; exact hn405_0) | exact hn405_0) (.slice Ao51 t396.length co51)).trans hx405_5
          replace hx405_0 := (Cf_ (p := ⟨gb403, 1, none⟩) (by first | (rw [Ab_]; exact hn405_1) | (show (Addr.add _ _).block ≠ _; rw [Ab_]; exact hn405_1) | exact hn405_1) (.slice Ao56 t399.length co56)).trans hx405_0
          replace hx405_1 := (Cf_ (p := ⟨gb403, 1, none⟩) (by first | (rw [Ab_]; exact hn405_1) | (show (Addr.add _ _).block ≠ _; rw [Ab_]; exact hn405_1) | exact hn405_1) (.slice Ao56 t399.length co56)).trans hx405_1
          replace hx405_2 := (Cf_ (p := ⟨gb403, 1, none⟩) (by first | (rw [Ab_]; exact hn405_1) | (show (Addr.add _ _).block ≠ _; rw [Ab_]; exact hn405_1) | exact hn405_1) (.slice Ao56 t399.length co56)).trans hx405_2
          replace hx405_3 := (Cf_ (p := ⟨gb403, 1, none⟩) (by first | (rw [Ab_]; exact hn405_1) | (show (Addr.add _ _).block ≠ _; rw [Ab_]; exact hn405_1) | exact hn405_1) (.slice Ao56 t399.length co56)).trans hx405_3
          replace hx405_4 := (Cf_ (p := ⟨gb403, 1, none⟩) (by first | (rw [Ab_]; exact hn405_1) | (show (Addr.add _ _).block ≠ _; rw [Ab_]; exact hn405_1) | exact hn405_1) (.slice Ao56 t399.length co56)).trans hx405_4
          replace hx405_5 := (Cf_ (p := ⟨gb403, 1, none⟩) (by first | (rw [Ab_]; exact hn405_1) | (show (Addr.add _ _).block ≠ _; rw [Ab_]; exact hn405_1) | exact hn405_1) (.slice Ao56 t399.length co56)).trans hx405_5
          clear hn405_0
          clear hn405_1
          replace p405 := eq_true p405
          replace q405 := eq_true q405
          go_wp2
          go_meet
          case rel => exact ⟨_, (true), (by first | rfl | (simp; done) | (simp [*]; done)), H', ⟨by have := HJ5.out; first | omega | exact Nat.le_refl _⟩, ⟨by (with_reducible repeat (first | apply Va_ | apply Vn_ | apply Vd_)); exact Vm_ (Vf_ (p := ⟨gb403, 1, none⟩) (Vf_ (p := ⟨gb403, 0, none⟩) (Vm_ HO382.out (fun k_ hk => (⟨hk, hk.2⟩ : _ ∧ k_ ≠ gb403))) (fun _ hk => hk.2) (.slice Ao51 t396.length co51)) (fun _ hk => hk.2) (.slice Ao56 t399.length co56)) (fun _ hk => ⟨hk.1.1.1, ⟨hk.1.1.2.1, ⟨hk.1.1.2.2, hk.1.2⟩⟩⟩)⟩, ⟨by (with_reducible repeat (first | apply Va_ | apply Vn_ | apply Vd_)); exact Vm_ (Vf_ (p := ⟨gb403, 1, none⟩) (Vf_ (p := ⟨gb403, 0, none⟩) (Vm_ HO385.out (fun k_ hk => (⟨hk, hk.2⟩ : _ ∧ k_ ≠ gb403))) (fun _ hk => hk.2) (.slice Ao51 t396.length co51)) (fun _ hk => hk.2) (.slice Ao56 t399.length co56)) (fun _ hk => ⟨hk.1.1.1, ⟨hk.1.1.2.1, ⟨hk.1.1.2.2, hk.1.2⟩⟩⟩)⟩, ⟨by (with_reducible repeat (first | apply Va_ | apply Vn_ | apply Vd_)); exact Vm_ (Vf_ (p := ⟨gb403, 1, none⟩) (Vf_ (p := ⟨gb403, 0, none⟩) (Vm_ HO390.out (fun k_ hk => (⟨hk, hk.2⟩ : _ ∧ k_ ≠ gb403))) (fun _ hk => hk.2) (.slice Ao51 t396.length co51)) (fun _ hk => hk.2) (.slice Ao56 t399.length co56)) (fun _ hk => ⟨hk.1.1.1, ⟨hk.1.1.2.1, ⟨hk.1.1.2.2, hk.1.2⟩⟩⟩)⟩, ⟨by (with_reducible repeat (first | apply Va_ | apply Vn_ | apply Vd_)); exact Vm_ (Vf_ (p := ⟨gb403, 1, none⟩) (Vf_ (p := ⟨gb403, 0, none⟩) (Vm_ HO393.out (fun k_ hk => (⟨hk, hk.2⟩ : _ ∧ k_ ≠ gb403))) (fun _ hk => hk.2) (.slice Ao51 t396.length co51)) (fun _ hk => hk.2) (.slice Ao56 t399.length co56)) (fun _ hk => ⟨hk.1.1.1, ⟨hk.1.1.2.1, ⟨hk.1.1.2.2, hk.1.2⟩⟩⟩)⟩, ⟨by (with_reducible repeat (first | apply Va_ | apply Vn_ | apply Vd_)); exact Vm_ (Vf_ (p := ⟨gb403, 1, none⟩) (Vf_ (p := ⟨gb403, 0, none⟩) (Vm_ HO398.out (fun k_ hk => (⟨hk, hk.2⟩ : _ ∧ k_ ≠ gb403))) (fun _ hk => hk.2) (.slice Ao51 t396.length co51)) (fun _ hk => hk.2) (.slice Ao56 t399.length co56)) (fun _ hk => ⟨hk.1.1.1, ⟨hk.1.1.2.1, ⟨hk.1.1.2.2, hk.1.2⟩⟩⟩)⟩, ⟨by (with_reducible repeat (first | apply Va_ | apply Vn_ | apply Vd_)); exact Vm_ (Vf_ (p := ⟨gb403, 1, none⟩) (Vf_ (p := ⟨gb403, 0, none⟩) (Vm_ HO401.out (fun k_ hk => (⟨hk, hk.2⟩ : _ ∧ k_ ≠ gb403))) (fun _ hk => hk.2) (.slice Ao51 t396.length co51)) (fun _ hk => hk.2) (.slice Ao56 t399.length co56)) (fun _ hk => ⟨hk.1.1.1, ⟨hk.1.1.2.1, ⟨hk.1.1.2.2, hk.1.2⟩⟩⟩)⟩, ⟨by (with_reducible repeat (first | refine Bn_ ?_ _ | refine Bd_ ?_ | refine Ba_ ?_ _)); refine blk_far ?_ NB375_403.out _; (with_reducible repeat (first | refine Bn_ ?_ _ | refine Bd_ ?_ | refine Ba_ ?_ _)); refine blk_far ?_ NB375_403.out _; (with_reducible repeat (first | refine Bn_ ?_ _ | refine Bd_ ?_ | refine Ba_ ?_ _)); exact BK375.out⟩, ⟨by (with_reducible repeat (first | refine Bn_ ?_ _ | refine Bd_ ?_ | refine Ba_ ?_ _)); refine blk_far ?_ NB387_403.out _; (with_reducible repeat (first | refine Bn_ ?_ _ | refine Bd_ ?_ | refine Ba_ ?_ _)); refine blk_far ?_ NB387_403.out _; (with_reducible repeat (first | refine Bn_ ?_ _ | refine Bd_ ?_ | refine Ba_ ?_ _)); exact BK387.out⟩, ⟨by (with_reducible repeat (first | refine Bn_ ?_ _ | refine Bd_ ?_ | refine Ba_ ?_ _)); refine blk_far ?_ NB395_403.out _; (with_reducible repeat (first | refine Bn_ ?_ _ | refine Bd_ ?_ | refine Ba_ ?_ _)); refine blk_far ?_ NB395_403.out _; (with_reducible repeat (first | refine Bn_ ?_ _ | refine Bd_ ?_ | refine Ba_ ?_ _)); exact BK395.out⟩, ⟨by (with_reducible repeat (first | refine Bn_ ?_ _ | refine Bd_ ?_ | refine Ba_ ?_ _)); refine Bp_ (cs := #[.slice Ao51 t396.length co51, .slice none 0 0]) ?_ 1 _ rfl; (with_reducible repeat (first | refine Bn_ ?_ _ | refine Bd_ ?_ | refine Ba_ ?_ _)); refine Bp_ (cs := #[.slice none 0 0, .slice none 0 0]) ?_ 0 _ rfl; (with_reducible repeat (first | refine Bn_ ?_ _ | refine Bd_ ?_ | refine Ba_ ?_ _)); exact BK403.out⟩, ⟨by repeat (first | (with_reducible first | exact HB.out | apply Pa_ | apply Pn_ | apply Pd_ | refine Bs_ ?_ GE375.out | refine Bs_ ?_ GE387.out | refine Bs_ ?_ GE395.out | refine Bs_ ?_ GE403.out) | exact HB.out)⟩⟩
         ·rw [if_neg c64] at H
          have c64b0 : decide (((rd_T44 l0_0 a1).f5) < 0) = false := Df_ c64
          clear c64
          by_cases c69 : ((rd_T44 l0_0 a1).f5) > 2
          ·rw [if_pos c69] at H
           have c69b0 : decide (2 < ((rd_T44 l0_0 a1).f5)) = true := Dt_ c69
           clear c69
           have H' := Am_ H
           clear H
           have hnb70 := NB375_387.out
           have hnc70 := NB387_375.out
           have hnb71 := NB375_395.out
           have hnc71 := NB395_375.out
           have hnb72 := NB375_403.out
           have hnc72 := NB403_375.out
           have hcz73_0 : w50.cell? ⟨gb375, 0, none⟩ = some (.slice A0_0 l0_0.length c0_0) := (Bc_ BK375.out 0).trans rfl
           have hcz73_1 : w50.cell? ⟨gb375, 1, none⟩ = some (.slice A0_1 l0_1.length c0_1) := (Bc_ BK375.out 1).trans rfl
           have hfz73_0 := Bf_ BK375.out 0
           have hfz73_1 := Bf_ BK375.out 1
           have p404 : 0 ≤ (a1 : Int) := Ot_ (by first | (with_reducible assumption) | assumption)
           have q404 : a1 < (l0_0.length : Int) := Ot_ (by first | (with_reducible assumption) | assumption)
           obtain ⟨ad404, e404, hx404_0, hx404_1, hx404_2, hx404_3, hx404_4, hx404_5⟩ := at_T44 HR0_0.out a1 p404 q404
           cases e404
           have hn404_0 : ad404.block ≠ gb403 := Nat.ne_of_lt (Nat.lt_of_lt_of_le (by have := Bl_ _ _ hx404_0; first | rwa [Ab_] at this | exact this) GW403.out)
           have hn404_1 : ad404.block ≠ gb403 := Nat.ne_of_lt (Nat.lt_of_lt_of_le (by have := Bl_ _ _ hx404_0; first | rwa [Ab_] at this | exact this) GW403.out)
           replace hx404_0 := (HB.out.cell (Bl_ w _ hx404_0)).trans hx404_0
           replace hx404_1 := (HB.out.cell (Bl_ w _ hx404_1)).trans hx404_1
           replace hx404_2 := (HB.out.cell (Bl_ w _ hx404_2)).trans hx404_2
           replace hx404_3 := (HB.out.cell (Bl_ w _ hx404_3)).trans hx404_3
           replace hx404_4 := (HB.out.cell (Bl_ w _ hx404_4)).trans hx404_4
           replace hx404_5 := (HB.out.cell (Bl_ w _ hx404_5)).trans hx404_5
           replace hx404_0 := (Cf_ (p := ⟨gb403, 0, none⟩) (by first | (rw [Ab_]; exact hn404_0) | (show (Addr.add _ _).block ≠ _; rw [Ab_]; exact hn404_0) | exact hn404_0) (.slice Ao51 t396.length co51)).trans hx404_0
           replace hx404_1 := (Cf_ (p := ⟨gb403, 0, none⟩) (by first | (rw [Ab_]; exact hn404_0) | (show (Addr.add _ _).block ≠ _; rw [Ab_]; exact hn404_0) | exact hn404_0) (.slice Ao51 t396.length co51)).trans hx404_1
           replace hx404_2 := (Cf_ (p := ⟨gb403, 0, none⟩) (by first | (rw [Ab_]; exact hn404_0) | (show (Addr.add _ _).block ≠ _; rw [Ab_]; exact hn404_0) | exact hn404_0) (.slice Ao51 t396.length co51)).trans hx404_2
           replace hx404_3 := (Cf_ (p := ⟨gb403, 0, none⟩) (by first | (rw [Ab_]; exact hn404_0) | (show (Addr.add _ _).block ≠ _; rw [Ab_]; exact hn404_0) | exact hn404_0) (.slice Ao51 t396.length co51)).trans hx404_3
           replace hx404_4 := (Cf_ (p := ⟨gb403, 0, none⟩) (by first | (rw [Ab_]; exact hn404_0) | (show (Addr.add _ _).block ≠ _; rw [Ab_]; exact hn404_0) | exact hn404_0) (.slice Ao51 t396.length co51)).trans hx404_4
           replace hx404_5 := (Cf_ (p := ⟨gb403, 0, none⟩) (by first | (rw [Ab_]; exact hn404_0) | (show (Addr.add _ _).block ≠ _; rw [Ab_]; exact hn404_0) | exact hn404_0) (.slice Ao51 t396.length co51)).trans hx404_5
           replace hx404_0 := (Cf_ (p := ⟨gb403, 1, none⟩) (by first | (rw [Ab_]; exact hn404_1) | (show (Addr.add _ _).block ≠ _; rw [Ab_]; exact hn404_1) | exact hn404_1) (.slice Ao56 t399.length co56)).trans hx404_0
           replace hx404_1 := (Cf_ (p := ⟨gb403, 1, none⟩) (by first | (rw [Ab_]; exact hn404_1) | (show (Addr.add _ _).block ≠ _; rw [Ab_]; exact hn404_1) | exact hn404_1) (.slice Ao56 t399.length co56)).trans hx404_1
           replace hx404_2 := (Cf_ (p := ⟨gb403, 1, none⟩) (by first | (rw [Ab_]; exact hn404_1) | (show (Addr.add _ _).block ≠ _; rw [Ab_]; exact hn404_1) | exact hn404_1) (.slice Ao56 t399.length co56)).trans hx404_2
           replace hx404_3 := (Cf_ (p := ⟨gb403, 1, none⟩) (by first | (rw [Ab_]; exact hn404_1) | (show (Addr.add _ _).block ≠ _; rw [Ab_]; exact hn404_1) | exact hn404_1) (.slice Ao56 t399.length co56)).trans hx404_3
           replace hx404_4 := (Cf_ (p := ⟨gb403, 1, none⟩) (by first | (rw [Ab_]; exact hn404_1) | (show (Addr.add _ _).block ≠ _; rw [Ab_]; exact hn404_1) | exact hn404_1) (.slice Ao56 t399.length co56)).trans hx404_4
           replace hx404_5 := (Cf_ (p := ⟨gb403, 1, none⟩) (by first | (rw [Ab_]; exact hn404_1) | (show (Addr.add _ _).block ≠ _; rw [Ab_]; exact hn404_1) | exact hn404_1) (.slice Ao56 t399.length co56)).trans hx404_5
           clear hn404_0
           clear hn404_1
           replace p404 := eq_true p404
           replace q404 := eq_true q404
           have p405 : 0 ≤ (a1 : Int) := Ot_ (by first | (with_reducible assumption) | assumption)
           have q405 : a1 < (l0_0.length : Int) := Ot_ (by first | (with_reducible assumption) | assumption)
           obtain ⟨ad405, e405, hx405_0, hx405_1, hx405_2, hx405_3, hx405_4, hx405_5⟩ := at_T44 HR0_0.out a1 p405 q405
           obtain rfl : ad404 = ad405 := (by injection e405)
           have hn405_0 : ad404.block ≠ gb403 := Nat.ne_of_lt (Nat.lt_of_lt_of_le (by have := Bl_ _ _ hx405_0; first | rwa [Ab_] at this | exact this) GW403.out)
           have hn405_1 : ad404.block ≠ gb403 := Nat.ne_of_lt (Nat.lt_of_lt_of_le (by have := Bl_ _ _ hx405_0; first | rwa [Ab_] at this | exact this) GW403.out)
           replace hx405_0 := (HB.out.cell (Bl_ w _ hx405_0)).trans hx405_0
           replace hx405_1 := (HB.out.cell (Bl_ w _ hx405_1)).trans hx405_1
           replace hx405_2 := (HB.out.cell (Bl_ w _ hx405_2)).trans hx405_2
           replace hx405_3 := (HB.out.cell (Bl_ w _ hx405_3)).trans hx405_3
           replace hx405_4 := (HB.out.cell (Bl_ w _ hx405_4)).trans hx405_4
           replace hx405_5 := (HB.out.cell (Bl_ w _ hx405_5)).trans hx405_5
           replace hx405_0 := (Cf_ (p := ⟨gb403, 0, none⟩) (by first | (rw [Ab_]; exact hn405_0) | (show (Addr.add _ _).block ≠ _; rw [Ab_]; exact hn405_0) | exact hn405_0) (.slice Ao51 t396.length co51)).trans hx405_0
           replace hx405_1 := (Cf_ (p := ⟨gb403, 0, none⟩) (by first | (rw [Ab_]; exact hn405_0) | (show (Addr.add _ _).block ≠ _; rw [Ab_]; exact hn405_0) | exact hn405_0) (.slice Ao51 t396.length co51)).trans hx405_1
           replace hx405_2 := (Cf_ (p := ⟨gb403, 0, none⟩) (by first | (rw [Ab_]; exact hn405_0) | (show (Addr.add _ _).block ≠ _; rw [Ab_]; exact hn405_0) | exact hn405_0) (.slice Ao51 t396.length co51)).trans hx405_2
           replace hx405_3 := (Cf_ (p := ⟨gb403, 0, none⟩) (by first | (rw [Ab_]; exact hn405_0) | (show (Addr.add _ _).block ≠ _; rw [Ab_]; exact hn405_0) | exact hn405_0) (.slice Ao51 t396.length co51)).trans hx405_3
           replace hx405_4 := (Cf_ (p := ⟨gb403, 0, none⟩) (by first | (rw [Ab_]; exact hn405_0) | (show (Addr.add _ _).block ≠ _; rw [Ab_]; exact hn405_0) | exact hn405_0) (.slice Ao51 t396.length co51)).trans hx405_4
           replace hx405_5 := (Cf_ (p := ⟨gb403, 0, none⟩) (by first | (rw [Ab_]; exact hn405_0) | (show (Addr.add _ _).block ≠ _; rw [Ab_]; exact hn405_0) | exact hn405_0) (.slice Ao51 t396.length co51)).trans hx405_5
           replace hx405_0 := (Cf_ (p := ⟨gb403, 1, none⟩) (by first | (rw [Ab_]; exact hn405_1) | (show (Addr.add _ _).block ≠ _; rw [Ab_]; exact hn405_1) | exact hn405_1) (.slice Ao56 t399.length co56)).trans hx405_0
           replace hx405_1 := (Cf_ (p := ⟨gb403, 1, none⟩) (by first | (rw [Ab_]; exact hn405_1) | (show (Addr.add _ _).block ≠ _; rw [Ab_]; exact hn405_1) | exact hn405_1) (.slice Ao56 t399.length co56)).trans hx405_1
           replace hx405_2 := (Cf_ (p := ⟨gb403, 1, none⟩) (by first | (rw [Ab_]; exact hn405_1) | (show (Addr.add _ _).block ≠ _; rw [Ab_]; exact hn405_1) | exact hn405_1) (.slice Ao56 t399.length co56)).trans hx405_2
           replace hx405_3 := (Cf_ (p := ⟨gb403, 1, none⟩) (by first | (rw [Ab_]; exact hn405_1) | (show (Addr.add _ _).block ≠ _; rw [Ab_]; exact hn405_1) | exact hn405_1) (.slice Ao56 t399.length co56)).trans hx405_3
           replace hx405_4 := (Cf_ (p := ⟨gb403, 1, none⟩) (by first | (rw [Ab_]; exact hn405_1) | (show (Addr.add _ _).block ≠ _; rw [Ab_]; exact hn405_1) | exact hn405_1) (.slice Ao56 t399.length co56)).trans hx405_4
           replace hx405_5 := (Cf_ (p := ⟨gb403, 1, none⟩) (by first | (rw [Ab_]; exact hn405_1) | (show (Addr.add _ _).block ≠ _; rw [Ab_]; exact hn405_1) | exact hn405_1) (.slice Ao56 t399.length co56)).trans hx405_5
           clear hn405_0
           clear hn405_1
           replace p405 := eq_true p405
           replace q405 := eq_true q405
           have p406 : 0 ≤ (a1 : Int) := Ot_ (by first | (with_reducible assumption) | assumption)
           have q406 : a1 < (l0_0.length : Int) := Ot_ (by first | (with_reducible assumption) | assumption)
           obtain ⟨ad406, e406, hx406_0, hx406_1, hx406_2, hx406_3, hx406_4, hx406_5⟩ := at_T44 HR0_0.out a1 p406 q406
           obtain rfl : ad404 = ad406 := (by injection e406)
           have hn406_0 : ad404.block ≠ gb403 := Nat.ne_of_lt (Nat.lt_of_lt_of_le (by have := Bl_ _ _ hx406_0; first | rwa [Ab_] at this | exact this) GW403.out)
           have hn406_1 : ad404.block ≠ gb403 := Nat.ne_of_lt (Nat.lt_of_lt_of_le (by have := Bl_ _ _ hx406_0; first | rwa [Ab_] at this | exact this) GW403.out)
           replace hx406_0 := (HB.out.cell (Bl_ w _ hx406_0)).trans hx406_0
           replace hx406_1 := (HB.out.cell (Bl_ w _ hx406_1)).trans hx406_1
           replace hx406_2 := (HB.out.cell (Bl_ w _ hx406_2)).trans hx406_2
           replace hx406_3 := (HB.out.cell (Bl_ w _ hx406_3)).trans hx406_3
           replace hx406_4 := (HB.out.cell (Bl_ w _ hx406_4)).trans hx406_4
           replace hx406_5 := (HB.out.cell (Bl_ w _ hx406_5)).trans hx406_5
           replace hx406_0 := (Cf_ (p := ⟨gb403, 0, none⟩) (by first | (rw [Ab_]; exact hn406_0) | (show (Addr.add _ _).block ≠ _; rw [Ab_]; exact hn406_0) | exact hn406_0) (.slice Ao51 t396.length co51)).trans hx406_0
           replace hx406_1 := (Cf_ (p := ⟨gb403, 0, none⟩) (by first | (rw [Ab_]; exact hn406_0) | (show (Addr.add _ _).block ≠ _; rw [Ab_]; exact hn406_0) | exact hn406_0) (.slice Ao51 t396.length co51)).trans hx406_1
           replace hx406_2 := (Cf_ (p := ⟨gb403, 0, none⟩) (by first | (rw [Ab_]; exact hn406_0) | (show (Addr.add _ _).block ≠ _; rw [Ab_]; exact hn406_0) | exact hn406_0) (.slice Ao51 t396.length co51)).trans hx406_2
           replace hx406_3 := (Cf_ (p := ⟨gb403, 0, none⟩) (by first | (rw [Ab_]; exact hn406_0) | (show (Addr.add _ _).block ≠ _; rw [Ab_]; exact hn406_0) | exact hn406_0) (.slice Ao51 t396.length co51)).trans hx406_3
           replace hx406_4 := (Cf_ (p := ⟨gb403, 0, none⟩) (by first | (rw [Ab_]; exact hn406_0) | (show (Addr.add _ _).block ≠ _; rw [Ab_]; exact hn406_0) | exact hn406_0) (.slice Ao51 t396.length co51)).trans hx406_4
           replace hx406_5 := (Cf_ (p := ⟨gb403, 0, none⟩) (by first | (rw [Ab_]; exact hn406_0) | (show (Addr.add _ _).block ≠ _; rw [Ab_]; exact hn406_0) | exact hn406_0) (.slice Ao51 t396.length co51)).trans hx406_5
           replace hx406_0 := (Cf_ (p := ⟨gb403, 1, none⟩) (by first | (rw [Ab_]; exact hn406_1) | (show (Addr.add _ _).block ≠ _; rw [Ab_]; exact hn406_1) | exact hn406_1) (.slice Ao56 t399.length co56)).trans hx406_0
           replace hx406_1 := (Cf_ (p := ⟨gb403, 1, none⟩) (by first | (rw [Ab_]; exact hn406_1) | (show (Addr.add _ _).block ≠ _; rw [Ab_]; exact hn406_1) | exact hn406_1) (.slice Ao56 t399.length co56)).trans hx406_1
           replace hx406_2 := (Cf_ (p := ⟨gb403, 1, none⟩) (by first | (rw [Ab_]; exact hn406_1) | (show (Addr.add _ _).block ≠ _; rw [Ab_]; exact hn406_1) | exact hn406_1) (.slice Ao56 t399.length co56)).trans hx406_2
           replace hx406_3 := (Cf_ (p := ⟨gb403, 1, none⟩) (by first | (rw [Ab_]; exact hn406_1) | (show (Addr.add _ _).block ≠ _; rw [Ab_]; exact hn406_1) | exact hn406_1) (.slice Ao56 t399.length co56)).trans hx406_3
           replace hx406_4 := (Cf_ (p := ⟨gb403, 1, none⟩) (by first | (rw [Ab_]; exact hn406_1) | (show (Addr.add _ _).block ≠ _; rw [Ab_]; exact hn406_1) | exact hn406_1) (.slice Ao56 t399.length co56)).trans hx406_4
           replace hx406_5 := (Cf_ (p := ⟨gb403, 1, none⟩) (by first | (rw [Ab_]; exact hn406_1) | (show (Addr.add _ _).block ≠ _; rw [Ab_]; exact hn406_1) | exact hn406_1) (.slice Ao56 t399.length co56)).trans hx406_5
           clear hn406_0
           clear hn406_1
           replace p406 := eq_true p406
           replace q406 := eq_true q406
           go_wp2
           go_meet
           case rel => exact ⟨_, (true), (by first | rfl | (simp; done) | (simp [*]; done)), H', ⟨by have := HJ5.out; first | omega | exact Nat.le_refl _⟩, ⟨by (with_reducible repeat (first | apply Va_ | apply Vn_ | apply Vd_)); exact Vm_ (Vf_ (p := ⟨gb403, 1, none⟩) (Vf_ (p := ⟨gb403, 0, none⟩) (Vm_ HO382.out (fun k_ hk => (⟨hk, hk.2⟩ : _ ∧ k_ ≠ gb403))) (fun _ hk => hk.2) (.slice Ao51 t396.length co51)) (fun _ hk => hk.2) (.slice Ao56 t399.length co56)) (fun _ hk => ⟨hk.1.1.1, ⟨hk.1.1.2.1, ⟨hk.1.1.2.2, hk.1.2⟩⟩⟩)⟩, ⟨by (with_reducible repeat (first | apply Va_ | apply Vn_ | apply Vd_)); exact Vm_ (Vf_ (p := ⟨gb403, 1, none⟩) (Vf_ (p := ⟨gb403, 0, none⟩) (Vm_ HO385.out (fun k_ hk => (⟨hk, hk.2⟩ : _ ∧ k_ ≠ gb403))) (fun _ hk => hk.2) (.slice Ao51 t396.length co51)) (fun _ hk => hk.2) (.slice Ao56 t399.length co56)) (fun _ hk => ⟨hk.1.1.1, ⟨hk.1.1.2.1, ⟨hk.1.1.2.2, hk.1.2⟩⟩⟩)⟩, ⟨by (with_reducible repeat (first | apply Va_ | apply Vn_ | apply Vd_)); exact Vm_ (Vf_ (p := ⟨gb403, 1, none⟩) (Vf_ (p := ⟨gb403, 0, none⟩) (Vm_ HO390.out (fun k_ hk => (⟨hk, hk.2⟩ : _ ∧ k_ ≠ gb403))) (fun _ hk => hk.2) (.slice Ao51 t396.length co51)) (fun _ hk => hk.2) (.slice Ao56 t399.length co56)) (fun _ hk => ⟨hk.1.1.1, ⟨hk.1.1.2.1, ⟨hk.1.1.2.2, hk.1.2⟩⟩⟩)⟩, ⟨by (with_reducible repeat (first | apply Va_ | apply Vn_ | apply Vd_)); exact Vm_ (Vf_ (p := ⟨gb403, 1, none⟩) (Vf_ (p := ⟨gb403, 0, none⟩) (Vm_ HO393.out (fun k_ hk => (⟨hk, hk.2⟩ : _ ∧ k_ ≠ gb403))) (fun _ hk => hk.2) (.slice Ao51 t396.length co51)) (fun _ hk => hk.2) (.slice Ao56 t399.length co56)) (fun _ hk => ⟨hk.1.1.1, ⟨hk.1.1.2.1, ⟨hk.1.1.2.2, hk.1.2⟩⟩⟩)⟩, ⟨by (with_reducible repeat (first | apply Va_ | apply Vn_ | apply Vd_)); exact Vm_ (Vf_ (p := ⟨gb403, 1, none⟩) (Vf_ (p := ⟨gb403, 0, none⟩) (Vm_ HO398.out (fun k_ hk => (⟨hk, hk.2⟩ : _ ∧ k_ ≠ gb403))) (fun _ hk => hk.2) (.slice Ao51 t396.length co51)) (fun _ hk => hk.2) (.slice Ao56 t399.length co56)) (fun _ hk => ⟨hk.1.1.1, ⟨hk.1.1.2.1, ⟨hk.1.1.2.2, hk.1.2⟩⟩⟩)⟩, ⟨by (with_reducible repeat (first | apply Va_ | apply Vn_ | apply Vd_)); exact Vm_ (Vf_ (p := ⟨gb403, 1, none⟩) (Vf_ (p := ⟨gb403, 0, none⟩) (Vm_ HO401.out (fun k_ hk => (⟨hk, hk.2⟩ : _ ∧ k_ ≠ gb403))) (fun _ hk => hk.2) (.slice Ao51 t396.length co51)) (fun _ hk => hk.2) (.slice Ao56 t399.length co56)) (fun _ hk => ⟨hk.1.1.1, ⟨hk.1.1.2.1, ⟨hk.1.1.2.2, hk.1.2⟩⟩⟩)⟩, ⟨by (with_reducible repeat (first | refine Bn_ ?_ _ | refine Bd_ ?_ | refine Ba_ ?_ _)); refine blk_far ?_ NB375_403.out _; (with_reducible repeat (first | refine Bn_ ?_ _ | refine Bd_ ?_ | refine Ba_ ?_ _)); refine blk_far ?_ NB375_403.out _; (with_reducible repeat (first | refine Bn_ ?_ _ | refine Bd_ ?_ | refine Ba_ ?_ _)); exact BK375.out⟩, ⟨by (with_reducible repeat (first | refine Bn_ ?_ _ | refine Bd_ ?_ | refine Ba_ ?_ _)); refine blk_far ?_ NB387_403.out _; (with_reducible repeat (first | refine Bn_ ?_ _ | refine Bd_ ?_ | refine Ba_ ?_ _)); refine blk_far ?_ NB387_403.out _; (with_reducible repeat (first | refine Bn_ ?_ _ | refine Bd_ ?_ | refine Ba_ ?_ _)); exact BK387.out⟩, ⟨by (with_reducible repeat (first | refine Bn_ ?_ _ | refine Bd_ ?_ | refine Ba_ ?_ _)); refine blk_far ?_ NB395_403.out _; (with_reducible repeat (first | refine Bn_ ?_ _ | refine Bd_ ?_ | refine Ba_ ?_ _)); refine blk_far ?_ NB395_403.out _; (with_reducible repeat (first | refine Bn_ ?_ _ | refine Bd_ ?_ | refine Ba_ ?_ _)); exact BK395.out⟩, ⟨by (with_reducible repeat (first | refine Bn_ ?_ _ | refine Bd_ ?_ | refine Ba_ ?_ _)); refine Bp_ (cs := #[.slice Ao51 t396.length co51, .slice none 0 0]) ?_ 1 _ rfl; (with_reducible repeat (first | refine Bn_ ?_ _ | refine Bd_ ?_ | refine Ba_ ?_ _)); refine Bp_ (cs := #[.slice none 0 0, .slice none 0 0]) ?_ 0 _ rfl; (with_reducible repeat (first | refine Bn_ ?_ _ | refine Bd_ ?_ | refine Ba_ ?_ _)); exact BK403.out⟩, ⟨by repeat (first | (with_reducible first | exact HB.out | apply Pa_ | apply Pn_ | apply Pd_ | refine Bs_ ?_ GE375.out | refine Bs_ ?_ GE387.out | refine Bs_ ?_ GE395.out | refine Bs_ ?_ GE403.out) | exact HB.out)⟩⟩
          ·rw [if_neg c69] at H
           have c69b0 : decide (2 < ((rd_T44 l0_0 a1).f5)) = false := Df_ c69
           clear c69
           replace H := Option.bind_eq_some_iff.mp H
           obtain ⟨⟨t407, t410⟩, A740, H⟩ := H
           replace H : ((flagstoneref11_Fair.f kj5 t407 t410).bind fun t413 => (flagstonelaw11_FlockOtherA.j1 kj5 (!t413))) = some r := H
           have A74 := Am_ A740
           clear A740
           replace H := Option.bind_eq_some_iff.mp H
           obtain ⟨t413, A750, H⟩ := H
           replace H : (flagstonelaw11_FlockOtherA.j1 kj5 (!t413)) = some r := H
           have A75 := Am_ A750
           clear A750
           have H' := Am_ H
           clear H
           have hnb76 := NB375_387.out
           have hnc76 := NB387_375.out
           have hnb77 := NB375_395.out
           have hnc77 := NB395_375.out
           have hnb78 := NB375_403.out
           have hnc78 := NB403_375.out
           have hcz79_0 : w50.cell? ⟨gb375, 0, none⟩ = some (.slice A0_0 l0_0.length c0_0) := (Bc_ BK375.out 0).trans rfl
           have hcz79_1 : w50.cell? ⟨gb375, 1, none⟩ = some (.slice A0_1 l0_1.length c0_1) := (Bc_ BK375.out 1).trans rfl
           have hfz79_0 := Bf_ BK375.out 0
           have hfz79_1 := Bf_ BK375.out 1
           have p404 : 0 ≤ (a1 : Int) := Ot_ (by first | (with_reducible assumption) | assumption)
           have q404 : a1 < (l0_0.length : Int) := Ot_ (by first | (with_reducible assumption) | assumption)
           obtain ⟨ad404, e404, hx404_0, hx404_1, hx404_2, hx404_3, hx404_4, hx404_5⟩ := at_T44 HR0_0.out a1 p404 q404
           cases e404
           have hn404_0 : ad404.block ≠ gb403 := Nat.ne_of_lt (Nat.lt_of_lt_of_le (by have := Bl_ _ _ hx404_0; first | rwa [Ab_] at this | exact this) GW403.out)
           have hn404_1 : ad404.block ≠ gb403 := Nat.ne_of_lt (Nat.lt_of_lt_of_le (by have := Bl_ _ _ hx404_0; first | rwa [Ab_] at this | exact this) GW403.out)
           replace hx404_0 := (HB.out.cell (Bl_ w _ hx404_0)).trans hx404_0
           replace hx404_1 := (HB.out.cell (Bl_ w _ hx404_1)).trans hx404_1
           replace hx404_2 := (HB.out.cell (Bl_ w _ hx404_2)).trans hx404_2
           replace hx404_3 := (HB.out.cell (Bl_ w _ hx404_3)).trans hx404_3
           replace hx404_4 := (HB.out.cell (Bl_ w _ hx404_4)).trans hx404_4
           replace hx404_5 := (HB.out.cell (Bl_ w _ hx404_5)).trans hx404_5
           replace hx404_0 := (Cf_ (p := ⟨gb403, 0, none⟩) (by first | (rw [Ab_]; exact hn404_0) | (show (Addr.add _ _).block ≠ _; rw [Ab_]; exact hn404_0) | exact hn404_0) (.slice Ao51 t396.length co51)).trans hx404_0
           replace hx404_1 := (Cf_ (p := ⟨gb403, 0, none⟩) (by first | (rw [Ab_]; exact hn404_0) | (show (Addr.add _ _).block ≠ _; rw [Ab_]; exact hn404_0) | exact hn404_0) (.slice Ao51 t396.length co51)).trans hx404_1
           replace hx404_2 := (Cf_ (p := ⟨gb403, 0, none⟩) (by first | (rw [Ab_]; exact hn404_0) | (show (Addr.add _ _).block ≠ _; rw [Ab_]; exact hn404_0) | exact hn404_0) (.slice Ao51 t396.length co51)).trans hx404_2
           replace hx404_3 := (Cf_ (p := ⟨gb403, 0, none⟩) (by first | (rw [Ab_]; exact hn404_0) | (show (Addr.add _ _).block ≠ _; rw [Ab_]; exact hn404_0) | exact hn404_0) (.slice Ao51 t396.length co51)).trans hx404_3
           replace hx404_4 := (Cf_ (p := ⟨gb403, 0, none⟩) (by first | (rw [Ab_]; exact hn404_0) | (show (Addr.add _ _).block ≠ _; rw [Ab_]; exact hn404_0) | exact hn404_0) (.slice Ao51 t396.length co51)).trans hx404_4
           replace hx404_5 := (Cf_ (p := ⟨gb403, 0, none⟩) (by first | (rw [Ab_]; exact hn404_0) | (show (Addr.add _ _).block ≠ _; rw [Ab_]; exact hn404_0) | exact hn404_0) (.slice Ao51 t396.length co51)).trans hx404_5
           replace hx404_0 := (Cf_ (p := ⟨gb403, 1, none⟩) (by first | (rw [Ab_]; exact hn404_1) | (show (Addr.add _ _).block ≠ _; rw [Ab_]; exact hn404_1) | exact hn404_1) (.slice Ao56 t399.length co56)).trans hx404_0
           replace hx404_1 := (Cf_ (p := ⟨gb403, 1, none⟩) (by first | (rw [Ab_]; exact hn404_1) | (show (Addr.add _ _).block ≠ _; rw [Ab_]; exact hn404_1) | exact hn404_1) (.slice Ao56 t399.length co56)).trans hx404_1
           replace hx404_2 := (Cf_ (p := ⟨gb403, 1, none⟩) (by first | (rw [Ab_]; exact hn404_1) | (show (Addr.add _ _).block ≠ _; rw [Ab_]; exact hn404_1) | exact hn404_1) (.slice Ao56 t399.length co56)).trans hx404_2
           replace hx404_3 := (Cf_ (p := ⟨gb403, 1, none⟩) (by first | (rw [Ab_]; exact hn404_1) | (show (Addr.add _ _).block ≠ _; rw [Ab_]; exact hn404_1) | exact hn404_1) (.slice Ao56 t399.length co56)).trans hx404_3
           replace hx404_4 := (Cf_ (p := ⟨gb403, 1, none⟩) (by first | (rw [Ab_]; exact hn404_1) | (show (Addr.add _ _).block ≠ _; rw [Ab_]; exact hn404_1) | exact hn404_1) (.slice Ao56 t399.length co56)).trans hx404_4
           replace hx404_5 := (Cf_ (p := ⟨gb403, 1, none⟩) (by first | (rw [Ab_]; exact hn404_1) | (show (Addr.add _ _).block ≠ _; rw [Ab_]; exact hn404_1) | exact hn404_1) (.slice Ao56 t399.length co56)).trans hx404_5
           clear hn404_0
           clear hn404_1
           replace p404 := eq_true p404
           replace q404 := eq_true q404
           have p405 : 0 ≤ (a1 : Int) := Ot_ (by first | (with_reducible assumption) | assumption)
           have q405 : a1 < (l0_0.length : Int) := Ot_ (by first | (with_reducible assumption) | assumption)
           obtain ⟨ad405, e405, hx405_0, hx405_1, hx405_2, hx405_3, hx405_4, hx405_5⟩ := at_T44 HR0_0.out a1 p405 q405
           obtain rfl : ad404 = ad405 := (by injection e405)
           have hn405_0 : ad404.block ≠ gb403 := Nat.ne_of_lt (Nat.lt_of_lt_of_le (by have := Bl_ _ _ hx405_0; first | rwa [Ab_] at this | exact this) GW403.out)
           have hn405_1 : ad404.block ≠ gb403 := Nat.ne_of_lt (Nat.lt_of_lt_of_le (by have := Bl_ _ _ hx405_0; first | rwa [Ab_] at this | exact this) GW403.out)
           replace hx405_0 := (HB.out.cell (Bl_ w _ hx405_0)).trans hx405_0
           replace hx405_1 := (HB.out.cell (Bl_ w _ hx405_1)).trans hx405_1
           replace hx405_2 := (HB.out.cell (Bl_ w _ hx405_2)).trans hx405_2
           replace hx405_3 := (HB.out.cell (Bl_ w _ hx405_3)).trans hx405_3
           replace hx405_4 := (HB.out.cell (Bl_ w _ hx405_4)).trans hx405_4
           replace hx405_5 := (HB.out.cell (Bl_ w _ hx405_5)).trans hx405_5
           replace hx405_0 := (Cf_ (p := ⟨gb403, 0, none⟩) (by first | (rw [Ab_]; exact hn405_0) | (show (Addr.add _ _).block ≠ _; rw [Ab_]; exact hn405_0) | exact hn405_0) (.slice Ao51 t396.length co51)).trans hx405_0
           replace hx405_1 := (Cf_ (p := ⟨gb403, 0, none⟩) (by first | (rw [Ab_]; exact hn405_0) | (show (Addr.add _ _).block ≠ _; rw [Ab_]; exact hn405_0) | exact hn405_0) (.slice Ao51 t396.length co51)).trans hx405_1
           replace hx405_2 := (Cf_ (p := ⟨gb403, 0, none⟩) (by first | (rw [Ab_]; exact hn405_0) | (show (Addr.add _ _).block ≠ _; rw [Ab_]; exact hn405_0) | exact hn405_0) (.slice Ao51 t396.length co51)).trans hx405_2
           replace hx405_3 := (Cf_ (p := ⟨gb403, 0, none⟩) (by first | (rw [Ab_]; exact hn405_0) | (show (Addr.add _ _).block ≠ _; rw [Ab_]; exact hn405_0) | exact hn405_0) (.slice Ao51 t396.length co51)).trans hx405_3
           replace hx405_4 := (Cf_ (p := ⟨gb403, 0, none⟩) (by first | (rw [Ab_]; exact hn405_0) | (show (Addr.add _ _).block ≠ _; rw [Ab_]; exact hn405_0) | exact hn405_0) (.slice Ao51 t396.length co51)).trans hx405_4
           replace hx405_5 := (Cf_ (p := ⟨gb403, 0, none⟩) (by first | (rw [Ab_]; exact hn405_0) | (show (Addr.add _ _).block ≠ _; rw [Ab_]; exact hn405_0) | exact hn405_0) (.slice Ao51 t396.length co51)).trans hx405_5
           replace hx405_0 := (Cf_ (p := ⟨gb403, 1, none⟩) (by first | (rw [Ab_]; exact hn405_1) | (show (Addr.add _ _).block ≠ _; rw [Ab_]; exact hn405_1) | exact hn405_1) (.slice Ao56 t399.length co56)).trans hx405_0
           replace hx405_1 := (Cf_ (p := ⟨gb403, 1, none⟩) (by first | (rw [Ab_]; exact hn405_1) | (show (Addr.add _ _).block ≠ _; rw [Ab_]; exact hn405_1) | exact hn405_1) (.slice Ao56 t399.length co56)).trans hx405_1
           replace hx405_2 := (Cf_ (p := ⟨gb403, 1, none⟩) (by first | (rw [Ab_]; exact hn405_1) | (show (Addr.add _ _).block ≠ _; rw [Ab_]; exact hn405_1) | exact hn405_1) (.slice Ao56 t399.length co56)).trans hx405_2
           replace hx405_3 := (Cf_ (p := ⟨gb403, 1, none⟩) (by first | (rw [Ab_]; exact hn405_1) | (show (Addr.add _ _).block ≠ _; rw [Ab_]; exact hn405_1) | exact hn405_1) (.slice Ao56 t399.length co56)).trans hx405_3
           replace hx405_4 := (Cf_ (p := ⟨gb403, 1, none⟩) (by first | (rw [Ab_]; exact hn405_1) | (show (Addr.add _ _).block ≠ _; rw [Ab_]; exact hn405_1) | exact hn405_1) (.slice Ao56 t399.length co56)).trans hx405_4
           replace hx405_5 := (Cf_ (p := ⟨gb403, 1, none⟩) (by first | (rw [Ab_]; exact hn405_1) | (show (Addr.add _ _).block ≠ _; rw [Ab_]; exact hn405_1) | exact hn405_1) (.slice Ao56 t399.length co56)).trans hx405_5
           clear hn405_0
           clear hn405_1
           replace p405 := eq_true p405
           replace q405 := eq_true q405
           have p406 : 0 ≤ (a1 : Int) := Ot_ (by first | (with_reducible assumption) | assumption)
           have q406 : a1 < (l0_0.length : Int) := Ot_ (by first | (with_reducible assumption) | assumption)
           obtain ⟨ad406, e406, hx406_0, hx406_1, hx406_2, hx406_3, hx406_4, hx406_5⟩ := at_T44 HR0_0.out a1 p406 q406
           obtain rfl : ad404 = ad406 := (by injection e406)
           have hn406_0 : ad404.block ≠ gb403 := Nat.ne_of_lt (Nat.lt_of_lt_of_le (by have := Bl_ _ _ hx406_0; first | rwa [Ab_] at this | exact this) GW403.out)
           have hn406_1 : ad404.block ≠ gb403 := Nat.ne_of_lt (Nat.lt_of_lt_of_le (by have := Bl_ _ _ hx406_0; first | rwa [Ab_] at this | exact this) GW403.out)
           replace hx406_0 := (HB.out.cell (Bl_ w _ hx406_0)).trans hx406_0
           replace hx406_1 := (HB.out.cell (Bl_ w _ hx406_1)).trans hx406_1
           replace hx406_2 := (HB.out.cell (Bl_ w _ hx406_2)).trans hx406_2
           replace hx406_3 := (HB.out.cell (Bl_ w _ hx406_3)).trans hx406_3
           replace hx406_4 := (HB.out.cell (Bl_ w _ hx406_4)).trans hx406_4
           replace hx406_5 := (HB.out.cell (Bl_ w _ hx406_5)).trans hx406_5
           replace hx406_0 := (Cf_ (p := ⟨gb403, 0, none⟩) (by first | (rw [Ab_]; exact hn406_0) | (show (Addr.add _ _).block ≠ _; rw [Ab_]; exact hn406_0) | exact hn406_0) (.slice Ao51 t396.length co51)).trans hx406_0
           replace hx406_1 := (Cf_ (p := ⟨gb403, 0, none⟩) (by first | (rw [Ab_]; exact hn406_0) | (show (Addr.add _ _).block ≠ _; rw [Ab_]; exact hn406_0) | exact hn406_0) (.slice Ao51 t396.length co51)).trans hx406_1
           replace hx406_2 := (Cf_ (p := ⟨gb403, 0, none⟩) (by first | (rw [Ab_]; exact hn406_0) | (show (Addr.add _ _).block ≠ _; rw [Ab_]; exact hn406_0) | exact hn406_0) (.slice Ao51 t396.length co51)).trans hx406_2
           replace hx406_3 := (Cf_ (p := ⟨gb403, 0, none⟩) (by first | (rw [Ab_]; exact hn406_0) | (show (Addr.add _ _).block ≠ _; rw [Ab_]; exact hn406_0) | exact hn406_0) (.slice Ao51 t396.length co51)).trans hx406_3
           replace hx406_4 := (Cf_ (p := ⟨gb403, 0, none⟩) (by first | (rw [Ab_]; exact hn406_0) | (show (Addr.add _ _).block ≠ _; rw [Ab_]; exact hn406_0) | exact hn406_0) (.slice Ao51 t396.length co51)).trans hx406_4
           replace hx406_5 := (Cf_ (p := ⟨gb403, 0, none⟩) (by first | (rw [Ab_]; exact hn406_0) | (show (Addr.add _ _).block ≠ _; rw [Ab_]; exact hn406_0) | exact hn406_0) (.slice Ao51 t396.length co51)).trans hx406_5
           replace hx406_0 := (Cf_ (p := ⟨gb403, 1, none⟩) (by first | (rw [Ab_]; exact hn406_1) | (show (Addr.add _ _).block ≠ _; rw [Ab_]; exact hn406_1) | exact hn406_1) (.slice Ao56 t399.length co56)).trans hx406_0
           replace hx406_1 := (Cf_ (p := ⟨gb403, 1, none⟩) (by first | (rw [Ab_]; exact hn406_1) | (show (Addr.add _ _).block ≠ _; rw [Ab_]; exact hn406_1) | exact hn406_1) (.slice Ao56 t399.length co56)).trans hx406_1
           replace hx406_2 := (Cf_ (p := ⟨gb403, 1, none⟩) (by first | (rw [Ab_]; exact hn406_1) | (show (Addr.add _ _).block ≠ _; rw [Ab_]; exact hn406_1) | exact hn406_1) (.slice Ao56 t399.length co56)).trans hx406_2
           replace hx406_3 := (Cf_ (p := ⟨gb403, 1, none⟩) (by first | (rw [Ab_]; exact hn406_1) | (show (Addr.add _ _).block ≠ _; rw [Ab_]; exact hn406_1) | exact hn406_1) (.slice Ao56 t399.length co56)).trans hx406_3
           replace hx406_4 := (Cf_ (p := ⟨gb403, 1, none⟩) (by first | (rw [Ab_]; exact hn406_1) | (show (Addr.add _ _).block ≠ _; rw [Ab_]; exact hn406_1) | exact hn406_1) (.slice Ao56 t399.length co56)).trans hx406_4
           replace hx406_5 := (Cf_ (p := ⟨gb403, 1, none⟩) (by first | (rw [Ab_]; exact hn406_1) | (show (Addr.add _ _).block ≠ _; rw [Ab_]; exact hn406_1) | exact hn406_1) (.slice Ao56 t399.length co56)).trans hx406_5
           clear hn406_0
           clear hn406_1
           replace p406 := eq_true p406
           replace q406 := eq_true q406
           go_wp2_with (first | (go_at_call 13; (with_reducible refine (flagstonelaw11_its.calls kj5 _ _ l0_0 (fun k_ => k_ < w.heap.size) _ _ l0_1 t407 t410 _ ?side1 ?side2 ?side3 A74.out).mono ?_); (case side1 => exact Kd.C_below HR0_0.out (by repeat (first | (with_reducible first | exact HB.out | apply Pa_ | apply Pn_ | apply Pd_ | refine Bs_ ?_ GE375.out | refine Bs_ ?_ GE387.out | refine Bs_ ?_ GE395.out | refine Bs_ ?_ GE403.out) | exact HB.out))); (case side2 => exact HC0_0.out); (case side3 => exact Kd.V_mk HC0_1.out (Kd.F_below (Kd.C_F (Kd.heap_slice 3 (Kd.heap_int .i64)) HR0_1.out) (by repeat (first | (with_reducible first | exact HB.out | apply Pa_ | apply Pn_ | apply Pd_ | refine Bs_ ?_ GE375.out | refine Bs_ ?_ GE387.out | refine Bs_ ?_ GE395.out | refine Bs_ ?_ GE403.out) | exact HB.out)))); rintro e w80 ⟨v408, v411, rfl, ho0, ho1, hb⟩; have n0_ := Am_ (Kd.V_elder' (by (with_reducible repeat (first | apply Va_ | apply Vn_ | apply Vd_)); exact (Vm_ (Vf_ (p := ⟨gb403, 1, none⟩) (Vf_ (p := ⟨gb403, 0, none⟩) (Vm_ HO382.out (fun k_ hk => (⟨hk, hk.2⟩ : _ ∧ k_ ≠ gb403))) (fun _ hk => hk.2) (.slice Ao51 t396.length co51)) (fun _ hk => hk.2) (.slice Ao56 t399.length co56)) (fun _ h_ => h_.1))) (Kd.R_base ho0) hb); have n1_ := Am_ (Kd.V_elder' (by (with_reducible repeat (first | apply Va_ | apply Vn_ | apply Vd_)); exact (Vm_ (Vf_ (p := ⟨gb403, 1, none⟩) (Vf_ (p := ⟨gb403, 0, none⟩) (Vm_ HO385.out (fun k_ hk => (⟨hk, hk.2⟩ : _ ∧ k_ ≠ gb403))) (fun _ hk => hk.2) (.slice Ao51 t396.length co51)) (fun _ hk => hk.2) (.slice Ao56 t399.length co56)) (fun _ h_ => h_.1))) (Kd.R_base ho0) hb); have n2_ := Am_ (Kd.V_elder' (by (with_reducible repeat (first | apply Va_ | apply Vn_ | apply Vd_)); exact (Vm_ (Vf_ (p := ⟨gb403, 1, none⟩) (Vf_ (p := ⟨gb403, 0, none⟩) (Vm_ HO390.out (fun k_ hk => (⟨hk, hk.2⟩ : _ ∧ k_ ≠ gb403))) (fun _ hk => hk.2) (.slice Ao51 t396.length co51)) (fun _ hk => hk.2) (.slice Ao56 t399.length co56)) (fun _ h_ => h_.1))) (Kd.R_base ho0) hb); have n3_ := Am_ (Kd.V_elder' (by (with_reducible repeat (first | apply Va_ | apply Vn_ | apply Vd_)); exact (Vm_ (Vf_ (p := ⟨gb403, 1, none⟩) (Vf_ (p := ⟨gb403, 0, none⟩) (Vm_ HO393.out (fun k_ hk => (⟨hk, hk.2⟩ : _ ∧ k_ ≠ gb403))) (fun _ hk => hk.2) (.slice Ao51 t396.length co51)) (fun _ hk => hk.2) (.slice Ao56 t399.length co56)) (fun _ h_ => h_.1))) (Kd.R_base ho0) hb); have n4_ := Am_ (Kd.V_elder' (by (with_reducible repeat (first | apply Va_ | apply Vn_ | apply Vd_)); exact (Vm_ (Vf_ (p := ⟨gb403, 1, none⟩) (Vf_ (p := ⟨gb403, 0, none⟩) (Vm_ HO398.out (fun k_ hk => (⟨hk, hk.2⟩ : _ ∧ k_ ≠ gb403))) (fun _ hk => hk.2) (.slice Ao51 t396.length co51)) (fun _ hk => hk.2) (.slice Ao56 t399.length co56)) (fun _ h_ => h_.1))) (Kd.R_base ho0) hb); have n5_ := Am_ (Kd.V_elder' (by (with_reducible repeat (first | apply Va_ | apply Vn_ | apply Vd_)); exact (Vm_ (Vf_ (p := ⟨gb403, 1, none⟩) (Vf_ (p := ⟨gb403, 0, none⟩) (Vm_ HO401.out (fun k_ hk => (⟨hk, hk.2⟩ : _ ∧ k_ ≠ gb403))) (fun _ hk => hk.2) (.slice Ao51 t396.length co51)) (fun _ hk => hk.2) (.slice Ao56 t399.length co56)) (fun _ h_ => h_.1))) (Kd.R_base ho0) hb); have n6_ := Am_ (Kd.R_lower (Kd.R_mono (ok' := fun k_ => True) ho0 (fun _ hk_ => trivial)) (Bz_ (by repeat (first | (with_reducible first | exact HB.out | apply Pa_ | apply Pn_ | apply Pd_ | refine Bs_ ?_ GE375.out | refine Bs_ ?_ GE387.out | refine Bs_ ?_ GE395.out | refine Bs_ ?_ GE403.out) | exact HB.out)))); have n7_ := Am_ (Vl_ (Vm_ (ok' := fun k_ => some k_ ≠ (v408 : Value).ownBlock ∧ k_ ≠ gb375 ∧ k_ ≠ gb387 ∧ k_ ≠ gb395 ∧ k_ ≠ gb403) ho1 (fun k_ hk_ => ⟨hk_.2, Or.elim hk_.1 (fun hs_ => fun e_ => Nat.not_le.2 hs_ (by rw [e_]; exact GW375.out)) (fun hn_ => (Kd.freshB (g := gb375) (o := .cells #[.slice (some ad404) l0_0.length c0_0, .slice A0_1 l0_1.length c0_1] 25 (0, 0)) (by (with_reducible repeat (first | refine Bn_ ?_ _ | refine Bd_ ?_ | refine Ba_ ?_ _)); refine blk_far ?_ NB375_403.out _; (with_reducible repeat (first | refine Bn_ ?_ _ | refine Bd_ ?_ | refine Ba_ ?_ _)); refine blk_far ?_ NB375_403.out _; (with_reducible repeat (first | refine Bn_ ?_ _ | refine Bd_ ?_ | refine Ba_ ?_ _)); exact BK375.out) k_ hn_)), Or.elim hk_.1 (fun hs_ => fun e_ => Nat.not_le.2 hs_ (by rw [e_]; exact GW387.out)) (fun hn_ => (Kd.freshB (g := gb387) (o := .cells #[.slice Ao34 t380.length co34, .slice Ao37 t383.length co37] 25 (0, 0)) (by (with_reducible repeat (first | refine Bn_ ?_ _ | refine Bd_ ?_ | refine Ba_ ?_ _)); refine blk_far ?_ NB387_403.out _; (with_reducible repeat (first | refine Bn_ ?_ _ | refine Bd_ ?_ | refine Ba_ ?_ _)); refine blk_far ?_ NB387_403.out _; (with_reducible repeat (first | refine Bn_ ?_ _ | refine Bd_ ?_ | refine Ba_ ?_ _)); exact BK387.out) k_ hn_)), Or.elim hk_.1 (fun hs_ => fun e_ => Nat.not_le.2 hs_ (by rw [e_]; exact GW395.out)) (fun hn_ => (Kd.freshB (g := gb395) (o := .cells #[.slice Ao42 t388.length co42, .slice Ao46 t391.length co46] 25 (0, 0)) (by (with_reducible repeat (first | refine Bn_ ?_ _ | refine Bd_ ?_ | refine Ba_ ?_ _)); refine blk_far ?_ NB395_403.out _; (with_reducible repeat (first | refine Bn_ ?_ _ | refine Bd_ ?_ | refine Ba_ ?_ _)); refine blk_far ?_ NB395_403.out _; (with_reducible repeat (first | refine Bn_ ?_ _ | refine Bd_ ?_ | refine Ba_ ?_ _)); exact BK395.out) k_ hn_)), Or.elim hk_.1 (fun hs_ => fun e_ => Nat.not_le.2 hs_ (by rw [e_]; exact GW403.out)) (fun hn_ => (Kd.freshB (g := gb403) (o := .cells #[.slice Ao51 t396.length co51, .slice Ao56 t399.length co56] 25 (0, 0)) (by (with_reducible repeat (first | refine Bn_ ?_ _ | refine Bd_ ?_ | refine Ba_ ?_ _)); refine Bp_ (cs := #[.slice Ao51 t396.length co51, .slice none 0 0]) ?_ 1 _ rfl; (with_reducible repeat (first | refine Bn_ ?_ _ | refine Bd_ ?_ | refine Ba_ ?_ _)); refine Bp_ (cs := #[.slice none 0 0, .slice none 0 0]) ?_ 0 _ rfl; (with_reducible repeat (first | refine Bn_ ?_ _ | refine Bd_ ?_ | refine Ba_ ?_ _)); exact BK403.out) k_ hn_))⟩)) (Bz_ (by repeat (first | (with_reducible first | exact HB.out | apply Pa_ | apply Pn_ | apply Pd_ | refine Bs_ ?_ GE375.out | refine Bs_ ?_ GE387.out | refine Bs_ ?_ GE395.out | refine Bs_ ?_ GE403.out) | exact HB.out)))); have n8_ := Am_ (Bb_ (g := gb375) (o := .cells #[.slice (some ad404) l0_0.length c0_0, .slice A0_1 l0_1.length c0_1] 25 (0, 0)) (by (with_reducible repeat (first | refine Bn_ ?_ _ | refine Bd_ ?_ | refine Ba_ ?_ _)); refine blk_far ?_ NB375_403.out _; (with_reducible repeat (first | refine Bn_ ?_ _ | refine Bd_ ?_ | refine Ba_ ?_ _)); refine blk_far ?_ NB375_403.out _; (with_reducible repeat (first | refine Bn_ ?_ _ | refine Bd_ ?_ | refine Ba_ ?_ _)); exact BK375.out) hb); have n9_ := Am_ (Bb_ (g := gb387) (o := .cells #[.slice Ao34 t380.length co34, .slice Ao37 t383.length co37] 25 (0, 0)) (by (with_reducible repeat (first | refine Bn_ ?_ _ | refine Bd_ ?_ | refine Ba_ ?_ _)); refine blk_far ?_ NB387_403.out _; (with_reducible repeat (first | refine Bn_ ?_ _ | refine Bd_ ?_ | refine Ba_ ?_ _)); refine blk_far ?_ NB387_403.out _; (with_reducible repeat (first | refine Bn_ ?_ _ | refine Bd_ ?_ | refine Ba_ ?_ _)); exact BK387.out) hb); have n10_ := Am_ (Bb_ (g := gb395) (o := .cells #[.slice Ao42 t388.length co42, .slice Ao46 t391.length co46] 25 (0, 0)) (by (with_reducible repeat (first | refine Bn_ ?_ _ | refine Bd_ ?_ | refine Ba_ ?_ _)); refine blk_far ?_ NB395_403.out _; (with_reducible repeat (first | refine Bn_ ?_ _ | refine Bd_ ?_ | refine Ba_ ?_ _)); refine blk_far ?_ NB395_403.out _; (with_reducible repeat (first | refine Bn_ ?_ _ | refine Bd_ ?_ | refine Ba_ ?_ _)); exact BK395.out) hb); have n11_ := Am_ (Bb_ (g := gb403) (o := .cells #[.slice Ao51 t396.length co51, .slice Ao56 t399.length co56] 25 (0, 0)) (by (with_reducible repeat (first | refine Bn_ ?_ _ | refine Bd_ ?_ | refine Ba_ ?_ _)); refine Bp_ (cs := #[.slice Ao51 t396.length co51, .slice none 0 0]) ?_ 1 _ rfl; (with_reducible repeat (first | refine Bn_ ?_ _ | refine Bd_ ?_ | refine Ba_ ?_ _)); refine Bp_ (cs := #[.slice none 0 0, .slice none 0 0]) ?_ 0 _ rfl; (with_reducible repeat (first | refine Bn_ ?_ _ | refine Bd_ ?_ | refine Ba_ ?_ _)); exact BK403.out) hb); have n12_ := Am_ (Be_ (by repeat (first | (with_reducible first | exact HB.out | apply Pa_ | apply Pn_ | apply Pd_ | refine Bs_ ?_ GE375.out | refine Bs_ ?_ GE387.out | refine Bs_ ?_ GE395.out | refine Bs_ ?_ GE403.out) | exact HB.out)) hb); clear HO382; clear HO385; clear HO390; clear HO393; clear HO398; clear HO401; clear BK375; clear BK387; clear BK395; clear BK403; clear HB; have HO382 := n0_; have HO385 := n1_; have HO390 := n2_; have HO393 := n3_; have HO398 := n4_; have HO401 := n5_; have HO409 := n6_; have HO412 := n7_; have BK375 := n8_; have BK387 := n9_; have BK395 := n10_; have BK403 := n11_; have HB := n12_; clear n0_ n1_ n2_ n3_ n4_ n5_ n6_ n7_ n8_ n9_ n10_ n11_ n12_; (try clear hb); (try clear hb2); (try clear hk); (try clear hi); (try clear ho0); (try clear ho1); obtain ⟨Ao81, co81, eo81⟩ := Kd.R_slice HO409.out; subst eo81; obtain ⟨Ao82, co82, eo82⟩ := Vx_ HO412.out; subst eo82) | (go_at_call 18; (with_reducible refine (flagstoneref11_Fair.calls kj5 _ _ t407 _ _ t410 t413 _ ?side1 ?side2 ?side3 ?side4 A75.out).mono ?_); (case side1 => repeat (first | exact (Kd.R_reads' HO409.out).2.2 | (with_reducible refine Kd.C_alloc ?_ _) | (with_reducible refine Kd.C_drewN ?_ _) | (with_reducible refine Kd.C_drew ?_))); (case side2 => exact (Kd.R_reads' HO409.out).2.1); (case side3 => repeat (first | exact (Vr_ HO412.out).2.2 | (with_reducible refine Kd.C_alloc ?_ _) | (with_reducible refine Kd.C_drewN ?_ _) | (with_reducible refine Kd.C_drew ?_))); (case side4 => exact (Vr_ HO412.out).2.1); rintro e w83 ⟨rfl, hb⟩; have n0_ := Am_ (Vb_ (by (with_reducible repeat (first | apply Va_ | apply Vn_ | apply Vd_)); exact HO382.out) hb); have n1_ := Am_ (Vb_ (by (with_reducible repeat (first | apply Va_ | apply Vn_ | apply Vd_)); exact HO385.out) hb); have n2_ := Am_ (Vb_ (by (with_reducible repeat (first | apply Va_ | apply Vn_ | apply Vd_)); exact HO390.out) hb); have n3_ := Am_ (Vb_ (by (with_reducible repeat (first | apply Va_ | apply Vn_ | apply Vd_)); exact HO393.out) hb); have n4_ := Am_ (Vb_ (by (with_reducible repeat (first | apply Va_ | apply Vn_ | apply Vd_)); exact HO398.out) hb); have n5_ := Am_ (Vb_ (by (with_reducible repeat (first | apply Va_ | apply Vn_ | apply Vd_)); exact HO401.out) hb); have n6_ := Am_ (Rb_ (by (with_reducible repeat (first | apply Ra_ | apply Rn_ | apply Rd_)); exact HO409.out) hb); have n7_ := Am_ (Vb_ (by (with_reducible repeat (first | apply Va_ | apply Vn_ | apply Vd_)); exact HO412.out) hb); have n8_ := Am_ (Bb_ (g := gb375) (o := .cells #[.slice (some ad404) l0_0.length c0_0, .slice A0_1 l0_1.length c0_1] 25 (0, 0)) (by (with_reducible repeat (first | refine Bn_ ?_ _ | refine Bd_ ?_ | refine Ba_ ?_ _)); exact BK375.out) hb); have n9_ := Am_ (Bb_ (g := gb387) (o := .cells #[.slice Ao34 t380.length co34, .slice Ao37 t383.length co37] 25 (0, 0)) (by (with_reducible repeat (first | refine Bn_ ?_ _ | refine Bd_ ?_ | refine Ba_ ?_ _)); exact BK387.out) hb); have n10_ := Am_ (Bb_ (g := gb395) (o := .cells #[.slice Ao42 t388.length co42, .slice Ao46 t391.length co46] 25 (0, 0)) (by (with_reducible repeat (first | refine Bn_ ?_ _ | refine Bd_ ?_ | refine Ba_ ?_ _)); exact BK395.out) hb); have n11_ := Am_ (Bb_ (g := gb403) (o := .cells #[.slice Ao51 t396.length co51, .slice Ao56 t399.length co56] 25 (0, 0)) (by (with_reducible repeat (first | refine Bn_ ?_ _ | refine Bd_ ?_ | refine Ba_ ?_ _)); exact BK403.out) hb); have n12_ := Am_ (Be_ (by repeat (first | (with_reducible first | exact HB.out | apply Pa_ | apply Pn_ | apply Pd_ | refine Bs_ ?_ GE375.out | refine Bs_ ?_ GE387.out | refine Bs_ ?_ GE395.out | refine Bs_ ?_ GE403.out) | exact HB.out)) hb); clear HO382; clear HO385; clear HO390; clear HO393; clear HO398; clear HO401; clear HO409; clear HO412; clear BK375; clear BK387; clear BK395; clear BK403; clear HB; have HO382 := n0_; have HO385 := n1_; have HO390 := n2_; have HO393 := n3_; have HO398 := n4_; have HO401 := n5_; have HO409 := n6_; have HO412 := n7_; have BK375 := n8_; have BK387 := n9_; have BK395 := n10_; have BK403 := n11_; have HB := n12_; clear n0_ n1_ n2_ n3_ n4_ n5_ n6_ n7_ n8_ n9_ n10_ n11_ n12_; (try clear hb); (try clear hb2); (try clear hk); (try clear hi)))
           go_meet
           case rel => exact ⟨_, (!t413), (by first | rfl | (simp; done) | (simp [*]; done)), H', ⟨by have := HJ5.out; first | omega | exact Nat.le_refl _⟩, ⟨by (with_reducible repeat (first | apply Va_ | apply Vn_ | apply Vd_)); exact Vm_ HO382.out (fun _ hk => ⟨hk.1.1.1, ⟨hk.1.1.2.1, ⟨hk.1.1.2.2, hk.1.2⟩⟩⟩)⟩, ⟨by (with_reducible repeat (first | apply Va_ | apply Vn_ | apply Vd_)); exact Vm_ HO385.out (fun _ hk => ⟨hk.1.1.1, ⟨hk.1.1.2.1, ⟨hk.1.1.2.2, hk.1.2⟩⟩⟩)⟩, ⟨by (with_reducible repeat (first | apply Va_ | apply Vn_ | apply Vd_)); exact Vm_ HO390.out (fun _ hk => ⟨hk.1.1.1, ⟨hk.1.1.2.1, ⟨hk.1.1.2.2, hk.1.2⟩⟩⟩)⟩, ⟨by (with_reducible repeat (first | apply Va_ | apply Vn_ | apply Vd_)); exact Vm_ HO393.out (fun _ hk => ⟨hk.1.1.1, ⟨hk.1.1.2.1, ⟨hk.1.1.2.2, hk.1.2⟩⟩⟩)⟩, ⟨by (with_reducible repeat (first | apply Va_ | apply Vn_ | apply Vd_)); exact Vm_ HO398.out (fun _ hk => ⟨hk.1.1.1, ⟨hk.1.1.2.1, ⟨hk.1.1.2.2, hk.1.2⟩⟩⟩)⟩, ⟨by (with_reducible repeat (first | apply Va_ | apply Vn_ | apply Vd_)); exact Vm_ HO401.out (fun _ hk => ⟨hk.1.1.1, ⟨hk.1.1.2.1, ⟨hk.1.1.2.2, hk.1.2⟩⟩⟩)⟩, ⟨by (with_reducible repeat (first | refine Bn_ ?_ _ | refine Bd_ ?_ | refine Ba_ ?_ _)); exact BK375.out⟩, ⟨by (with_reducible repeat (first | refine Bn_ ?_ _ | refine Bd_ ?_ | refine Ba_ ?_ _)); exact BK387.out⟩, ⟨by (with_reducible repeat (first | refine Bn_ ?_ _ | refine Bd_ ?_ | refine Ba_ ?_ _)); exact BK395.out⟩, ⟨by (with_reducible repeat (first | refine Bn_ ?_ _ | refine Bd_ ?_ | refine Ba_ ?_ _)); exact BK403.out⟩, ⟨by repeat (first | (with_reducible first | exact HB.out | apply Pa_ | apply Pn_ | apply Pd_ | refine Bs_ ?_ GE375.out | refine Bs_ ?_ GE387.out | refine Bs_ ?_ GE395.out | refine Bs_ ?_ GE403.out) | exact HB.out)⟩⟩
       ·rw [if_neg c58] at H
        exact absurd H (by simp)
      ·rw [if_neg c57] at H
       exact absurd H (by simp)
     case rest =>
      clear HC30
      try clear c1
      try clear c2
      try clear p2
      try clear c3
      try clear c4
      try clear p4
      try clear q4
      try clear hx4
      try clear c5
      try clear c6
      try clear c7
      try clear c9
      try clear c10
      try clear c11
      try clear c14
      try clear c15
      try clear c16
      try clear c17
      try clear c25
      try clear c29
      try clear c29b0
      try clear c29b1
      try clear c35
      try clear p40
      try clear q40
      try clear hx40
      try clear c43
      try clear c44
      try clear c52
      try clear c53
      try clear c54
      try clear c57
      try clear c57b0
      try clear c58
      try clear c58b0
      try clear c59
      try clear c59b0
      try clear c60
      try clear c61
      try clear c62
      try clear c64
      try clear c64b0
      try clear c65
      try clear c66
      try clear c67
      try clear c69
      try clear c69b0
      try clear c70
      try clear c71
      try clear c72
      try clear c76
      try clear c77
      try clear c78
      try clear hcz31_0
      try clear hcz31_1
      try clear hcz36_0
      try clear hcz36_1
      try clear hcz39_0
      try clear hcz39_1
      try clear hcz45_0
      try clear hcz45_1
      try clear hcz48_0
      try clear hcz48_1
      try clear hcz55_0
      try clear hcz55_1
      try clear hcz63_0
      try clear hcz63_1
      try clear hcz68_0
      try clear hcz68_1
      try clear hcz73_0
      try clear hcz73_1
      try clear hcz79_0
      try clear hcz79_1
      try clear hfz31_0
      try clear hfz31_1
      try clear hfz36_0
      try clear hfz36_1
      try clear hfz39_0
      try clear hfz39_1
      try clear hfz45_0
      try clear hfz45_1
      try clear hfz48_0
      try clear hfz48_1
      try clear hfz55_0
      try clear hfz55_1
      try clear hfz63_0
      try clear hfz63_1
      try clear hfz68_0
      try clear hfz68_1
      try clear hfz73_0
      try clear hfz73_1
      try clear hfz79_0
      try clear hfz79_1
      try clear hx404_0
      try clear hx404_1
      try clear hx404_2
      try clear hx404_3
      try clear hx404_4
      try clear hx404_5
      try clear hx405_0
      try clear hx405_1
      try clear hx405_2
      try clear hx405_3
      try clear hx405_4
      try clear hx405_5
      try clear hx406_0
      try clear hx406_1
      try clear hx406_2
      try clear hx406_3
      try clear hx406_4
      try clear hx406_5
      try clear p2
      try clear p404
      try clear p405
      try clear p406
      try clear q404
      try clear q405
      try clear q406
      obtain ⟨kq, x120_29, rfl, HA, HJ29, HO_388000, HO_388001, HO_396000, HO_396001, HO_404000, HO_404001, BK375, BK387, BK395, BK403, HB⟩ := hcut
      cases kq with
      | zero => exact absurd HA.out (by simp [flagstonelaw11_FlockOtherA.j1])
      | succ kj29 =>
       have H := HA.out
       clear HA
       simp only [flagstonelaw11_FlockOtherA.j1] at H
       by_cases c84 : x120_29 = true
       ·subst c84
        have H1 : (some true) = some r := by rw [if_pos rfl] at H; exact H
        clear H
        have H := H1
        clear H1
        obtain rfl := Option.some.inj H
        go_wp2
        go_ret
        exact ⟨by first | rfl | (simp [errW_none, errW_some] <;> rfl) | (simp [*, errW_none, errW_some] <;> rfl), by repeat (first | (with_reducible first | exact HB.out | apply Pa_ | apply Pn_ | apply Pd_ | refine Bs_ ?_ GE375.out | refine Bs_ ?_ GE387.out | refine Bs_ ?_ GE395.out | refine Bs_ ?_ GE403.out) | exact HB.out)⟩
       ·replace c84 := Bool.eq_false_iff.mpr c84
        subst c84
        have H1 : (none) = some r := by rw [if_neg (show ¬ (false = true) by decide)] at H; exact H
        clear H
        have H := H1
        clear H1
        exact absurd H (by simp)
    ·rw [if_neg c29] at H
     exact absurd H (by simp)

end Go.Proofs.Ytbfjakhloabhmaa.P
