-- Printed by a program of this session (inject.py) over the kit's print, with functions that were proved by hand in their places.
import Derived.Test.YtkecfdljodiifaaPK
import Derived.Test.YtkecfdljodiifaaPEq54
namespace Go.Proofs.Ytkecfdljodiifaa.P
open Go.RowKit Go.Proofs.YtkecfdljodiifaaW.PrintWords Go.Proofs.YtkecfdljodiifaaW.PrintLast Go.Proofs.YtkecfdljodiifaaW.PrintMore
attribute [local go_sem] max2_int min2_int max_two min_two max_three min_three max_four min_four   -- for this text's walks alone
set_option linter.unusedVariables false
set_option linter.unusedSimpArgs false

attribute [local go_sem high] eqA54
/-! ### flagstoneref10_Same: function 15 -/
mutual
def flagstoneref10_Same.j0 : Nat → Bool → List (S54) → List (List Int) → List (S54) → List (List Int) → Option (Bool)
 | 0, _, _, _, _, _ => none
 | k + 1, x23, x218000, x218001, x219000, x219001 => if x23 = true then (some false) else (flagstoneref10_Same.l0 k 0 x218000 x218001 x219000 x219001)
def flagstoneref10_Same.l0 : Nat → Int → List (S54) → List (List Int) → List (S54) → List (List Int) → Option (Bool)
 | 0, _, _, _, _, _ => none
 | k + 1, x5, x218000, x218001, x219000, x219001 => if x5 < (x218000.length : Int) then (if 0 ≤ x5 then (if x5 < (x219000.length : Int) then (if (!(((rd_T54 x218000 x5).f0) == ((rd_T54 x219000 x5).f0)) || (!(((rd_T54 x218000 x5).f1) == ((rd_T54 x219000 x5).f1)) || (!(((rd_T54 x218000 x5).f2) == ((rd_T54 x219000 x5).f2)) || (!(((rd_T54 x218000 x5).f3) == ((rd_T54 x219000 x5).f3)) || (!(((rd_T54 x218000 x5).f4) == ((rd_T54 x219000 x5).f4)) || (!(((rd_T54 x218000 x5).f5) == ((rd_T54 x219000 x5).f5)))))))) = true then (some false) else (flagstoneref10_Same.l0 k (wrap64 (x5 + 1)) x218000 x218001 x219000 x219001)) else (none)) else (none)) else (flagstoneref10_Same.l1 k 0 x218000 x218001 x219000 x219001)
def flagstoneref10_Same.l1 : Nat → Int → List (S54) → List (List Int) → List (S54) → List (List Int) → Option (Bool)
 | 0, _, _, _, _, _ => none
 | k + 1, x6, x218000, x218001, x219000, x219001 => if x6 < (x218001.length : Int) then (if 0 ≤ x6 then (if x6 < (x219001.length : Int) then (if ((rd_L1 x218001 x6).length : Int) = ((rd_L1 x219001 x6).length : Int) then (flagstoneref10_Same.l2 k x6 0 x218000 x218001 x219000 x219001) else (some false)) else (none)) else (none)) else (some true)
def flagstoneref10_Same.l2 : Nat → Int → Int → List (S54) → List (List Int) → List (S54) → List (List Int) → Option (Bool)
 | 0, _, _, _, _, _, _ => none
 | k + 1, x6, x7, x218000, x218001, x219000, x219001 => if 0 ≤ x6 then (if x6 < (x218001.length : Int) then (if x7 < ((rd_L1 x218001 x6).length : Int) then (if 0 ≤ x7 then (if x6 < (x219001.length : Int) then (if x7 < ((rd_L1 x219001 x6).length : Int) then (if (rd (rd_L1 x218001 x6) x7) = (rd (rd_L1 x219001 x6) x7) then (flagstoneref10_Same.l2 k x6 (wrap64 (x7 + 1)) x218000 x218001 x219000 x219001) else (some false)) else (none)) else (none)) else (none)) else (flagstoneref10_Same.l1 k (wrap64 (x6 + 1)) x218000 x218001 x219000 x219001)) else (none)) else (none)
end
def flagstoneref10_Same.f (k : Nat) (l0_0 : List (S54)) (l0_1 : List (List Int)) (l1_0 : List (S54)) (l1_1 : List (List Int)) : Option (Bool) := if (l0_0.length : Int) = (l1_0.length : Int) then (flagstoneref10_Same.j0 k ((l0_1.length : Int) != (l1_1.length : Int)) l0_0 l0_1 l1_0 l1_1) else (flagstoneref10_Same.j0 k true l0_0 l0_1 l1_0 l1_1)
theorem flagstoneref10_Same.mono_l : ∀ k, (∀ y0 y1 y2 y3 y4, LeO (flagstoneref10_Same.j0 k y0 y1 y2 y3 y4) (flagstoneref10_Same.j0 (k + 1) y0 y1 y2 y3 y4)) ∧ (∀ y0 y1 y2 y3 y4, LeO (flagstoneref10_Same.l0 k y0 y1 y2 y3 y4) (flagstoneref10_Same.l0 (k + 1) y0 y1 y2 y3 y4)) ∧ (∀ y0 y1 y2 y3 y4, LeO (flagstoneref10_Same.l1 k y0 y1 y2 y3 y4) (flagstoneref10_Same.l1 (k + 1) y0 y1 y2 y3 y4)) ∧ (∀ y0 y1 y2 y3 y4 y5, LeO (flagstoneref10_Same.l2 k y0 y1 y2 y3 y4 y5) (flagstoneref10_Same.l2 (k + 1) y0 y1 y2 y3 y4 y5))
 | 0 => ⟨fun _ _ _ _ _ r h => by simp [flagstoneref10_Same.j0] at h, fun _ _ _ _ _ r h => by simp [flagstoneref10_Same.l0] at h, fun _ _ _ _ _ r h => by simp [flagstoneref10_Same.l1] at h, fun _ _ _ _ _ _ r h => by simp [flagstoneref10_Same.l2] at h⟩
 | k + 1 => by
  obtain ⟨ih0, ih1, ih2, ih3⟩ := flagstoneref10_Same.mono_l k
  refine ⟨?_, ?_, ?_, ?_⟩
  ·intro y0 y1 y2 y3 y4
   unfold flagstoneref10_Same.j0
   repeat' first
   | (with_reducible exact ih0 _ _ _ _ _)
   | (with_reducible exact ih1 _ _ _ _ _)
   | (with_reducible exact ih2 _ _ _ _ _)
   | (with_reducible exact ih3 _ _ _ _ _ _)
   | (with_reducible exact LeO.refl _)
   | (with_reducible exact LeO.none _)
   | (with_reducible refine LeO.ite ?_ ?_)
   | (with_reducible refine LeO.bind ?_ (fun _ => ?_))
   | exact ih0 _ _ _ _ _
   | exact ih1 _ _ _ _ _
   | exact ih2 _ _ _ _ _
   | exact ih3 _ _ _ _ _ _
   | exact LeO.none _
   | refine LeO.ite ?_ ?_
   | refine LeO.bind ?_ (fun _ => ?_)
  ·intro y0 y1 y2 y3 y4
   unfold flagstoneref10_Same.l0
   repeat' first
   | (with_reducible exact ih0 _ _ _ _ _)
   | (with_reducible exact ih1 _ _ _ _ _)
   | (with_reducible exact ih2 _ _ _ _ _)
   | (with_reducible exact ih3 _ _ _ _ _ _)
   | (with_reducible exact LeO.refl _)
   | (with_reducible exact LeO.none _)
   | (with_reducible refine LeO.ite ?_ ?_)
   | (with_reducible refine LeO.bind ?_ (fun _ => ?_))
   | exact ih0 _ _ _ _ _
   | exact ih1 _ _ _ _ _
   | exact ih2 _ _ _ _ _
   | exact ih3 _ _ _ _ _ _
   | exact LeO.none _
   | refine LeO.ite ?_ ?_
   | refine LeO.bind ?_ (fun _ => ?_)
  ·intro y0 y1 y2 y3 y4
   unfold flagstoneref10_Same.l1
   repeat' first
   | (with_reducible exact ih0 _ _ _ _ _)
   | (with_reducible exact ih1 _ _ _ _ _)
   | (with_reducible exact ih2 _ _ _ _ _)
   | (with_reducible exact ih3 _ _ _ _ _ _)
   | (with_reducible exact LeO.refl _)
   | (with_reducible exact LeO.none _)
   | (with_reducible refine LeO.ite ?_ ?_)
   | (with_reducible refine LeO.bind ?_ (fun _ => ?_))
   | exact ih0 _ _ _ _ _
   | exact ih1 _ _ _ _ _
   | exact ih2 _ _ _ _ _
   | exact ih3 _ _ _ _ _ _
   | exact LeO.none _
   | refine LeO.ite ?_ ?_
   | refine LeO.bind ?_ (fun _ => ?_)
  ·intro y0 y1 y2 y3 y4 y5
   unfold flagstoneref10_Same.l2
   repeat' first
   | (with_reducible exact ih0 _ _ _ _ _)
   | (with_reducible exact ih1 _ _ _ _ _)
   | (with_reducible exact ih2 _ _ _ _ _)
   | (with_reducible exact ih3 _ _ _ _ _ _)
   | (with_reducible exact LeO.refl _)
   | (with_reducible exact LeO.none _)
   | (with_reducible refine LeO.ite ?_ ?_)
   | (with_reducible refine LeO.bind ?_ (fun _ => ?_))
   | exact ih0 _ _ _ _ _
   | exact ih1 _ _ _ _ _
   | exact ih2 _ _ _ _ _
   | exact ih3 _ _ _ _ _ _
   | exact LeO.none _
   | refine LeO.ite ?_ ?_
   | refine LeO.bind ?_ (fun _ => ?_)
theorem flagstoneref10_Same.mono : ∀ a0 a1 a2 a3 k, LeO (flagstoneref10_Same.f k a0 a1 a2 a3) (flagstoneref10_Same.f (k + 1) a0 a1 a2 a3) := by
 intro a0 a1 a2 a3 k
 obtain ⟨ih0, ih1, ih2, ih3⟩ := flagstoneref10_Same.mono_l k
 unfold flagstoneref10_Same.f
 repeat' first
   | (with_reducible exact ih0 _ _ _ _ _)
   | (with_reducible exact ih1 _ _ _ _ _)
   | (with_reducible exact ih2 _ _ _ _ _)
   | (with_reducible exact ih3 _ _ _ _ _ _)
   | (with_reducible exact LeO.refl _)
   | (with_reducible exact LeO.none _)
   | (with_reducible refine LeO.ite ?_ ?_)
   | (with_reducible refine LeO.bind ?_ (fun _ => ?_))
   | exact ih0 _ _ _ _ _
   | exact ih1 _ _ _ _ _
   | exact ih2 _ _ _ _ _
   | exact ih3 _ _ _ _ _ _
   | exact LeO.none _
   | refine LeO.ite ?_ ?_
   | refine LeO.bind ?_ (fun _ => ?_)
set_option maxHeartbeats 8000000 in
set_option maxRecDepth 100000 in
theorem flagstoneref10_Same.calls (k : Nat) (A0_0 : Option Addr) (c0_0 : Nat) (l0_0 : List (S54)) (A0_1 : Option Addr) (c0_1 : Nat) (l0_1 : List (List Int)) (A1_0 : Option Addr) (c1_0 : Nat) (l1_0 : List (S54)) (A1_1 : Option Addr) (c1_1 : Nat) (l1_1 : List (List Int)) (r : Bool) (w : World) (hr0_0 : Kd.C k54 w A0_0 l0_0.length l0_0) (hc0_0 : l0_0.length ≤ c0_0) (hr0_1 : Kd.C (Kd.slice 3 (Kd.int .i64)) w A0_1 l0_1.length l0_1) (hc0_1 : l0_1.length ≤ c0_1) (hr1_0 : Kd.C k54 w A1_0 l1_0.length l1_0) (hc1_0 : l1_0.length ≤ c1_0) (hr1_1 : Kd.C (Kd.slice 3 (Kd.int .i64)) w A1_1 l1_1.length l1_1) (hc1_1 : l1_1.length ≤ c1_1) (h : flagstoneref10_Same.f k l0_0 l0_1 l1_0 l1_1 = some r) :
  Calls Try.prog 15 #[.agg #[.slice A0_0 l0_0.length c0_0, .slice A0_1 l0_1.length c0_1], .agg #[.slice A1_0 l1_0.length c1_0, .slice A1_1 l1_1.length c1_1]] w fun e w' => e = .returned (.bool r) ∧ Below w.heap.size w w' := by
 have hu31 := Try.underlying31
 have hu54 := Try.underlying54
 have HR0_0 := Am_ hr0_0
 have HC0_0 := Am_ hc0_0
 clear hr0_0 hc0_0
 have HR0_1 := Am_ hr0_1
 have HC0_1 := Am_ hc0_1
 clear hr0_1 hc0_1
 have HR1_0 := Am_ hr1_0
 have HC1_0 := Am_ hc1_0
 clear hr1_0 hc1_0
 have HR1_1 := Am_ hr1_1
 have HC1_1 := Am_ hc1_1
 clear hr1_1 hc1_1
 have HB := Am_ (Below.refl w.heap.size w)
 have H : (if (l0_0.length : Int) = (l1_0.length : Int) then (flagstoneref10_Same.j0 k ((l0_1.length : Int) != (l1_1.length : Int)) l0_0 l0_1 l1_0 l1_1) else (flagstoneref10_Same.j0 k true l0_0 l0_1 l1_0 l1_1)) = some r := h
 clear h
 have HC3 := Am_ H
 clear H
 go_enter Try.func15, Try.ntmps15
 go_upto_region 1 with (first | ((with_reducible refine gate_dst (N := 2) rfl ?_); (try (refine gate_guard (by rfl) ?_; dsimp only)); refine box_event ?hg (N := 2) ?hd (cs := #[.slice A0_0 l0_0.length c0_0, .slice A0_1 l0_1.length c0_1]) (t := 31) ?hr ?_; (case hd => rfl); (case hg => rfl); (case hr => go_simp; try rfl); intro gb217 hg w4 hbox hb; have n0_ := Am_ (Be_ (Pb0_ HB.out) hb); have n1_ := Am_ (hbox); have n2_ := Am_ ((by rw [hg]; exact (Bz_ (Pb0_ HB.out)) : w.heap.size ≤ gb217)); have n3_ := Am_ ((by rw [hg]; exact (Bz_ (Pb0_ HB.out)) : w.heap.size ≤ gb217)); clear HB; have HB := n0_; have BK217 := n1_; have GW217 := n2_; have GE217 := n3_; clear n0_ n1_ n2_ n3_; clear hb hbox hg) | ((with_reducible refine gate_dst (N := 3) rfl ?_); (try (refine gate_guard (by rfl) ?_; dsimp only)); refine box_event ?hg (N := 3) ?hd (cs := #[.slice A1_0 l1_0.length c1_0, .slice A1_1 l1_1.length c1_1]) (t := 31) ?hr ?_; (case hd => rfl); (case hg => rfl); (case hr => go_simp; try rfl); intro gb218 hg w5 hbox hb; have n0_ := Am_ (Bb_ (g := gb217) (o := .cells #[.slice A0_0 l0_0.length c0_0, .slice A0_1 l0_1.length c0_1] 31 (0, 0)) (Pk_ BK217.out) hb); have n1_ := Am_ (Be_ (Pb1_ HB.out GE217.out) hb); have n2_ := Am_ (hbox); have n3_ := Am_ ((by rw [hg]; exact (Bz_ (Pb1_ HB.out GE217.out)) : w.heap.size ≤ gb218)); have n4_ := Am_ ((by rw [hg]; exact (Bz_ (Pb1_ HB.out GE217.out)) : w.heap.size ≤ gb218)); have n5_ := Am_ ((by rw [hg]; exact Nat.ne_of_lt (blk_lt (g := gb217) (o := .cells #[.slice A0_0 l0_0.length c0_0, .slice A0_1 l0_1.length c0_1] 31 (0, 0)) (Pk_ BK217.out)) : gb217 ≠ gb218)); have n6_ := Am_ ((by rw [hg]; exact Nat.ne_of_gt (blk_lt (g := gb217) (o := .cells #[.slice A0_0 l0_0.length c0_0, .slice A0_1 l0_1.length c0_1] 31 (0, 0)) (Pk_ BK217.out)) : gb218 ≠ gb217)); clear BK217; clear HB; have BK217 := n0_; have HB := n1_; have BK218 := n2_; have GW218 := n3_; have GE218 := n4_; have NB217_218 := n5_; have NB218_217 := n6_; clear n0_ n1_ n2_ n3_ n4_ n5_ n6_; clear hb hbox hg))
 repeat (go_quiet (first | ((with_reducible refine gate_dst (N := 2) rfl ?_); (try (refine gate_guard (by rfl) ?_; dsimp only)); refine box_event ?hg (N := 2) ?hd (cs := #[.slice A0_0 l0_0.length c0_0, .slice A0_1 l0_1.length c0_1]) (t := 31) ?hr ?_; (case hd => rfl); (case hg => rfl); (case hr => go_simp; try rfl); intro gb217 hg w4 hbox hb; have n0_ := Am_ (Be_ (Pb0_ HB.out) hb); have n1_ := Am_ (hbox); have n2_ := Am_ ((by rw [hg]; exact (Bz_ (Pb0_ HB.out)) : w.heap.size ≤ gb217)); have n3_ := Am_ ((by rw [hg]; exact (Bz_ (Pb0_ HB.out)) : w.heap.size ≤ gb217)); clear HB; have HB := n0_; have BK217 := n1_; have GW217 := n2_; have GE217 := n3_; clear n0_ n1_ n2_ n3_; clear hb hbox hg) | ((with_reducible refine gate_dst (N := 3) rfl ?_); (try (refine gate_guard (by rfl) ?_; dsimp only)); refine box_event ?hg (N := 3) ?hd (cs := #[.slice A1_0 l1_0.length c1_0, .slice A1_1 l1_1.length c1_1]) (t := 31) ?hr ?_; (case hd => rfl); (case hg => rfl); (case hr => go_simp; try rfl); intro gb218 hg w5 hbox hb; have n0_ := Am_ (Bb_ (g := gb217) (o := .cells #[.slice A0_0 l0_0.length c0_0, .slice A0_1 l0_1.length c0_1] 31 (0, 0)) (Pk_ BK217.out) hb); have n1_ := Am_ (Be_ (Pb1_ HB.out GE217.out) hb); have n2_ := Am_ (hbox); have n3_ := Am_ ((by rw [hg]; exact (Bz_ (Pb1_ HB.out GE217.out)) : w.heap.size ≤ gb218)); have n4_ := Am_ ((by rw [hg]; exact (Bz_ (Pb1_ HB.out GE217.out)) : w.heap.size ≤ gb218)); have n5_ := Am_ ((by rw [hg]; exact Nat.ne_of_lt (blk_lt (g := gb217) (o := .cells #[.slice A0_0 l0_0.length c0_0, .slice A0_1 l0_1.length c0_1] 31 (0, 0)) (Pk_ BK217.out)) : gb217 ≠ gb218)); have n6_ := Am_ ((by rw [hg]; exact Nat.ne_of_gt (blk_lt (g := gb217) (o := .cells #[.slice A0_0 l0_0.length c0_0, .slice A0_1 l0_1.length c0_1] 31 (0, 0)) (Pk_ BK217.out)) : gb218 ≠ gb217)); clear BK217; clear HB; have BK217 := n0_; have HB := n1_; have BK218 := n2_; have GW218 := n3_; have GE218 := n4_; have NB217_218 := n5_; have NB218_217 := n6_; clear n0_ n1_ n2_ n3_ n4_ n5_ n6_; clear hb hbox hg)); go_upto_region 1 with (first | ((with_reducible refine gate_dst (N := 2) rfl ?_); (try (refine gate_guard (by rfl) ?_; dsimp only)); refine box_event ?hg (N := 2) ?hd (cs := #[.slice A0_0 l0_0.length c0_0, .slice A0_1 l0_1.length c0_1]) (t := 31) ?hr ?_; (case hd => rfl); (case hg => rfl); (case hr => go_simp; try rfl); intro gb217 hg w4 hbox hb; have n0_ := Am_ (Be_ (Pb0_ HB.out) hb); have n1_ := Am_ (hbox); have n2_ := Am_ ((by rw [hg]; exact (Bz_ (Pb0_ HB.out)) : w.heap.size ≤ gb217)); have n3_ := Am_ ((by rw [hg]; exact (Bz_ (Pb0_ HB.out)) : w.heap.size ≤ gb217)); clear HB; have HB := n0_; have BK217 := n1_; have GW217 := n2_; have GE217 := n3_; clear n0_ n1_ n2_ n3_; clear hb hbox hg) | ((with_reducible refine gate_dst (N := 3) rfl ?_); (try (refine gate_guard (by rfl) ?_; dsimp only)); refine box_event ?hg (N := 3) ?hd (cs := #[.slice A1_0 l1_0.length c1_0, .slice A1_1 l1_1.length c1_1]) (t := 31) ?hr ?_; (case hd => rfl); (case hg => rfl); (case hr => go_simp; try rfl); intro gb218 hg w5 hbox hb; have n0_ := Am_ (Bb_ (g := gb217) (o := .cells #[.slice A0_0 l0_0.length c0_0, .slice A0_1 l0_1.length c0_1] 31 (0, 0)) (Pk_ BK217.out) hb); have n1_ := Am_ (Be_ (Pb1_ HB.out GE217.out) hb); have n2_ := Am_ (hbox); have n3_ := Am_ ((by rw [hg]; exact (Bz_ (Pb1_ HB.out GE217.out)) : w.heap.size ≤ gb218)); have n4_ := Am_ ((by rw [hg]; exact (Bz_ (Pb1_ HB.out GE217.out)) : w.heap.size ≤ gb218)); have n5_ := Am_ ((by rw [hg]; exact Nat.ne_of_lt (blk_lt (g := gb217) (o := .cells #[.slice A0_0 l0_0.length c0_0, .slice A0_1 l0_1.length c0_1] 31 (0, 0)) (Pk_ BK217.out)) : gb217 ≠ gb218)); have n6_ := Am_ ((by rw [hg]; exact Nat.ne_of_gt (blk_lt (g := gb217) (o := .cells #[.slice A0_0 l0_0.length c0_0, .slice A0_1 l0_1.length c0_1] 31 (0, 0)) (Pk_ BK217.out)) : gb218 ≠ gb217)); clear BK217; clear HB; have BK217 := n0_; have HB := n1_; have BK218 := n2_; have GW218 := n3_; have GE218 := n4_; have NB217_218 := n5_; have NB218_217 := n6_; clear n0_ n1_ n2_ n3_ n4_ n5_ n6_; clear hb hbox hg)))
 (try simp only [Act.put, La_, Lb_, Lc_])
 go_cut [23] (fun v23 wc => ∃ (kq : Nat) (x23_2 : Bool), v23 = .bool x23_2 ∧ Aside0 (flagstoneref10_Same.j0 kq x23_2 l0_0 l0_1 l1_0 l1_1 = some r) ∧ Aside0 (kq ≤ k) ∧ Aside0 (wc.heap[gb217]? = some (.cells #[(.slice A0_0 l0_0.length c0_0), (.slice A0_1 l0_1.length c0_1)] 31 (0, 0))) ∧ Aside0 (wc.heap[gb218]? = some (.cells #[(.slice A1_0 l1_0.length c1_0), (.slice A1_1 l1_1.length c1_1)] 31 (0, 0))) ∧ Aside0 (Below w.heap.size w wc))
 case first =>
  have H := HC3.out
  clear HC3
  by_cases c6 : (l0_0.length : Int) = (l1_0.length : Int)
  ·rw [if_pos c6] at H
   have c6b0 : ((l0_0.length : Int) == (l1_0.length : Int)) = true := beq_iff_eq.mpr c6
   have c6b1 : ((l0_0.length : Int) != (l1_0.length : Int)) = false := bne_eq_false_iff_eq.mpr c6
   have c6b2 : (l0_0.length == l1_0.length) = true := by first | simpa using c6 | (simp at c6 ⊢; omega)
   clear c6
   (first | rw [c6b0] | (simp only [i64_w, i32_w]; rw [c6b0]) | skip)
   have H' := Am_ H
   clear H
   have hnb7 := NB217_218.out
   have hnc7 := NB218_217.out
   obtain ⟨hcz8_0, hcz8_1, hfz8_0, hfz8_1⟩ := Ce2_ BK217.out
   obtain ⟨hcz9_0, hcz9_1, hfz9_0, hfz9_1⟩ := Ce2_ BK218.out
   go_wp2
   repeat (go_quiet (fail); try go_wp2)
   go_meet
   case rel => exact ⟨_, (((l0_1.length : Int) != (l1_1.length : Int))), (by first | rfl | (simp; done) | (simp [*]; done)), H', ⟨by first | omega | exact Nat.le_refl _⟩, ⟨by (with_reducible repeat (first | refine Bn_ ?_ _ | refine Bd_ ?_ | refine Ba_ ?_ _)); exact BK217.out⟩, ⟨by (with_reducible repeat (first | refine Bn_ ?_ _ | refine Bd_ ?_ | refine Ba_ ?_ _)); exact BK218.out⟩, ⟨by repeat (first | (with_reducible first | exact HB.out | apply Pa_ | apply Pn_ | apply Pd_ | refine Bs_ ?_ GE217.out | refine Bs_ ?_ GE218.out) | exact HB.out)⟩⟩
  ·rw [if_neg c6] at H
   have c6b0 : ((l0_0.length : Int) == (l1_0.length : Int)) = false := beq_eq_false_iff_ne.mpr c6
   have c6b1 : ((l0_0.length : Int) != (l1_0.length : Int)) = true := bne_iff_ne.mpr c6
   have c6b2 : (l0_0.length == l1_0.length) = false := by first | simpa using c6 | (simp at c6 ⊢; omega)
   (first | rw [c6b0] | (simp only [i64_w, i32_w]; rw [c6b0]) | skip)
   have H' := Am_ H
   clear H
   have hnb10 := NB217_218.out
   have hnc10 := NB218_217.out
   obtain ⟨hcz11_0, hcz11_1, hfz11_0, hfz11_1⟩ := Ce2_ BK217.out
   obtain ⟨hcz12_0, hcz12_1, hfz12_0, hfz12_1⟩ := Ce2_ BK218.out
   go_wp2
   repeat (go_quiet (fail); try go_wp2)
   go_meet
   case rel => exact ⟨_, (true), (by first | rfl | (simp; done) | (simp [*]; done)), H', ⟨by first | omega | exact Nat.le_refl _⟩, ⟨by (with_reducible repeat (first | refine Bn_ ?_ _ | refine Bd_ ?_ | refine Ba_ ?_ _)); exact BK217.out⟩, ⟨by (with_reducible repeat (first | refine Bn_ ?_ _ | refine Bd_ ?_ | refine Ba_ ?_ _)); exact BK218.out⟩, ⟨by repeat (first | (with_reducible first | exact HB.out | apply Pa_ | apply Pn_ | apply Pd_ | refine Bs_ ?_ GE217.out | refine Bs_ ?_ GE218.out) | exact HB.out)⟩⟩
 case rest =>
  clear HC3
  try clear c1
  try clear p2
  try clear c6
  try clear c6b0
  try clear c6b1
  try clear c6b2
  try clear c7
  try clear c10
  try clear hcz11_0
  try clear hcz11_1
  try clear hcz12_0
  try clear hcz12_1
  try clear hcz8_0
  try clear hcz8_1
  try clear hcz9_0
  try clear hcz9_1
  try clear hfz11_0
  try clear hfz11_1
  try clear hfz12_0
  try clear hfz12_1
  try clear hfz8_0
  try clear hfz8_1
  try clear hfz9_0
  try clear hfz9_1
  obtain ⟨kq, x23_2, rfl, HA, HJ2, BK217, BK218, HB⟩ := hcut
  cases kq with
  | zero => exact absurd HA.out (by simp [flagstoneref10_Same.j0])
  | succ kj2 =>
   have H := HA.out
   clear HA
   simp only [flagstoneref10_Same.j0] at H
   by_cases c13 : x23_2 = true
   ·subst c13
    have H1 : (some false) = some r := by rw [if_pos rfl] at H; exact H
    clear H
    have H := H1
    clear H1
    obtain rfl := Option.some.inj H
    go_wp2
    repeat (go_quiet (fail); try go_wp2)
    go_ret
    exact ⟨by first | rfl | (simp [errW_none, errW_some] <;> rfl) | (simp [*, errW_none, errW_some] <;> rfl), by repeat (first | (with_reducible first | exact HB.out | apply Pa_ | apply Pn_ | apply Pd_ | refine Bs_ ?_ GE217.out | refine Bs_ ?_ GE218.out) | exact HB.out)⟩
   ·replace c13 := Bool.eq_false_iff.mpr c13
    subst c13
    have H1 : (flagstoneref10_Same.l0 kj2 0 l0_0 l0_1 l1_0 l1_1) = some r := by rw [if_neg (show ¬ (false = true) by decide)] at H; exact H
    clear H
    have H := H1
    clear H1
    have H' := Am_ H
    clear H
    go_wp2
    repeat (go_quiet (fail); try go_wp2)
    go_loopg [5] kj2 (fun kq v5 w' => ∃ (x5_2 : Int), v5 = .int .i64 x5_2 ∧ Aside0 (flagstoneref10_Same.l0 kq x5_2 l0_0 l0_1 l1_0 l1_1 = some r) ∧ Aside0 (kq ≤ kj2) ∧ Aside0 (w'.heap[gb217]? = some (.cells #[(.slice A0_0 l0_0.length c0_0), (.slice A0_1 l0_1.length c0_1)] 31 (0, 0))) ∧ Aside0 (w'.heap[gb218]? = some (.cells #[(.slice A1_0 l1_0.length c1_0), (.slice A1_1 l1_1.length c1_1)] 31 (0, 0))) ∧ Aside0 (Below w.heap.size w w'))
    case atStart => exact ⟨(0), (by first | rfl | (simp; done) | (simp [*]; done)), H', ⟨Nat.le_refl _⟩, ⟨by (with_reducible repeat (first | refine Bn_ ?_ _ | refine Bd_ ?_ | refine Ba_ ?_ _)); exact BK217.out⟩, ⟨by (with_reducible repeat (first | refine Bn_ ?_ _ | refine Bd_ ?_ | refine Ba_ ?_ _)); exact BK218.out⟩, ⟨by repeat (first | (with_reducible first | exact HB.out | apply Pa_ | apply Pn_ | apply Pd_ | refine Bs_ ?_ GE217.out | refine Bs_ ?_ GE218.out) | exact HB.out)⟩⟩
    case round =>
     clear H'
     try clear c1
     try clear p2
     try clear c6
     try clear c6b0
     try clear c6b1
     try clear c6b2
     try clear c7
     try clear c10
     try clear c13
     try clear hcz11_0
     try clear hcz11_1
     try clear hcz12_0
     try clear hcz12_1
     try clear hcz8_0
     try clear hcz8_1
     try clear hcz9_0
     try clear hcz9_1
     try clear hfz11_0
     try clear hfz11_1
     try clear hfz12_0
     try clear hfz12_1
     try clear hfz8_0
     try clear hfz8_1
     try clear hfz9_0
     try clear hfz9_1
     try clear p2
     obtain ⟨x5_2, rfl, HA, HK2, BK217, BK218, HB⟩ := hrel
     cases gk with
     | zero => exact absurd HA.out (by simp [flagstoneref10_Same.l0])
     | succ k2 =>
      have H := HA.out
      clear HA
      simp only [flagstoneref10_Same.l0] at H
      by_cases c14 : x5_2 < (l0_0.length : Int)
      ·rw [if_pos c14] at H
       have c14b0 : decide (x5_2 < (l0_0.length : Int)) = true := Dt_ c14
       clear c14
       by_cases c15 : 0 ≤ x5_2
       ·rw [if_pos c15] at H
        have c15b0 : decide (0 ≤ x5_2) = true := Dt_ c15
        clear c15
        by_cases c16 : x5_2 < (l1_0.length : Int)
        ·rw [if_pos c16] at H
         have c16b0 : decide (x5_2 < (l1_0.length : Int)) = true := Dt_ c16
         clear c16
         by_cases c17 : (!(((rd_T54 l0_0 x5_2).f0) == ((rd_T54 l1_0 x5_2).f0)) || (!(((rd_T54 l0_0 x5_2).f1) == ((rd_T54 l1_0 x5_2).f1)) || (!(((rd_T54 l0_0 x5_2).f2) == ((rd_T54 l1_0 x5_2).f2)) || (!(((rd_T54 l0_0 x5_2).f3) == ((rd_T54 l1_0 x5_2).f3)) || (!(((rd_T54 l0_0 x5_2).f4) == ((rd_T54 l1_0 x5_2).f4)) || (!(((rd_T54 l0_0 x5_2).f5) == ((rd_T54 l1_0 x5_2).f5)))))))) = true
         ·rw [if_pos c17] at H
          have c17b0 : (!(((rd_T54 l0_0 x5_2).f0) == ((rd_T54 l1_0 x5_2).f0)) || (!(((rd_T54 l0_0 x5_2).f1) == ((rd_T54 l1_0 x5_2).f1)) || (!(((rd_T54 l0_0 x5_2).f2) == ((rd_T54 l1_0 x5_2).f2)) || (!(((rd_T54 l0_0 x5_2).f3) == ((rd_T54 l1_0 x5_2).f3)) || (!(((rd_T54 l0_0 x5_2).f4) == ((rd_T54 l1_0 x5_2).f4)) || (!(((rd_T54 l0_0 x5_2).f5) == ((rd_T54 l1_0 x5_2).f5)))))))) = true := c17
          clear c17
          obtain rfl := Option.some.inj H
          have hnb18 := NB217_218.out
          have hnc18 := NB218_217.out
          obtain ⟨hcz19_0, hcz19_1, hfz19_0, hfz19_1⟩ := Ce2_ BK217.out
          have p219 : 0 ≤ (x5_2 : Int) := Ot_ (by first | (with_reducible assumption) | assumption)
          have q219 : x5_2 < (l0_0.length : Int) := Ot_ (by first | (with_reducible assumption) | assumption)
          obtain ⟨ad219, e219, hx219_0, hx219_1, hx219_2, hx219_3, hx219_4, hx219_5⟩ := at_T54 HR0_0.out x5_2 p219 q219
          cases e219
          replace hx219_0 := (HB.out.cell (Bl_ w _ hx219_0)).trans hx219_0
          replace hx219_1 := (HB.out.cell (Bl_ w _ hx219_1)).trans hx219_1
          replace hx219_2 := (HB.out.cell (Bl_ w _ hx219_2)).trans hx219_2
          replace hx219_3 := (HB.out.cell (Bl_ w _ hx219_3)).trans hx219_3
          replace hx219_4 := (HB.out.cell (Bl_ w _ hx219_4)).trans hx219_4
          replace hx219_5 := (HB.out.cell (Bl_ w _ hx219_5)).trans hx219_5
          replace p219 := eq_true p219
          replace q219 := eq_true q219
          obtain ⟨hcz20_0, hcz20_1, hfz20_0, hfz20_1⟩ := Ce2_ BK218.out
          have p220 : 0 ≤ (x5_2 : Int) := Ot_ (by first | (with_reducible assumption) | assumption)
          have q220 : x5_2 < (l1_0.length : Int) := Ot_ (by first | (with_reducible assumption) | assumption)
          obtain ⟨ad220, e220, hx220_0, hx220_1, hx220_2, hx220_3, hx220_4, hx220_5⟩ := at_T54 HR1_0.out x5_2 p220 q220
          cases e220
          replace hx220_0 := (HB.out.cell (Bl_ w _ hx220_0)).trans hx220_0
          replace hx220_1 := (HB.out.cell (Bl_ w _ hx220_1)).trans hx220_1
          replace hx220_2 := (HB.out.cell (Bl_ w _ hx220_2)).trans hx220_2
          replace hx220_3 := (HB.out.cell (Bl_ w _ hx220_3)).trans hx220_3
          replace hx220_4 := (HB.out.cell (Bl_ w _ hx220_4)).trans hx220_4
          replace hx220_5 := (HB.out.cell (Bl_ w _ hx220_5)).trans hx220_5
          replace p220 := eq_true p220
          replace q220 := eq_true q220
          go_wp2
          repeat (go_quiet (fail); try go_wp2)
          go_ret
          exact ⟨by first | rfl | (simp [errW_none, errW_some] <;> rfl) | (simp [*, errW_none, errW_some] <;> rfl), by repeat (first | (with_reducible first | exact HB.out | apply Pa_ | apply Pn_ | apply Pd_ | refine Bs_ ?_ GE217.out | refine Bs_ ?_ GE218.out) | exact HB.out)⟩
         ·rw [if_neg c17] at H
          have c17b0 : (!(((rd_T54 l0_0 x5_2).f0) == ((rd_T54 l1_0 x5_2).f0)) || (!(((rd_T54 l0_0 x5_2).f1) == ((rd_T54 l1_0 x5_2).f1)) || (!(((rd_T54 l0_0 x5_2).f2) == ((rd_T54 l1_0 x5_2).f2)) || (!(((rd_T54 l0_0 x5_2).f3) == ((rd_T54 l1_0 x5_2).f3)) || (!(((rd_T54 l0_0 x5_2).f4) == ((rd_T54 l1_0 x5_2).f4)) || (!(((rd_T54 l0_0 x5_2).f5) == ((rd_T54 l1_0 x5_2).f5)))))))) = false := by simpa using c17
          clear c17
          have H' := Am_ H
          clear H
          have hnb21 := NB217_218.out
          have hnc21 := NB218_217.out
          obtain ⟨hcz22_0, hcz22_1, hfz22_0, hfz22_1⟩ := Ce2_ BK217.out
          have p219 : 0 ≤ (x5_2 : Int) := Ot_ (by first | (with_reducible assumption) | assumption)
          have q219 : x5_2 < (l0_0.length : Int) := Ot_ (by first | (with_reducible assumption) | assumption)
          obtain ⟨ad219, e219, hx219_0, hx219_1, hx219_2, hx219_3, hx219_4, hx219_5⟩ := at_T54 HR0_0.out x5_2 p219 q219
          cases e219
          replace hx219_0 := (HB.out.cell (Bl_ w _ hx219_0)).trans hx219_0
          replace hx219_1 := (HB.out.cell (Bl_ w _ hx219_1)).trans hx219_1
          replace hx219_2 := (HB.out.cell (Bl_ w _ hx219_2)).trans hx219_2
          replace hx219_3 := (HB.out.cell (Bl_ w _ hx219_3)).trans hx219_3
          replace hx219_4 := (HB.out.cell (Bl_ w _ hx219_4)).trans hx219_4
          replace hx219_5 := (HB.out.cell (Bl_ w _ hx219_5)).trans hx219_5
          replace p219 := eq_true p219
          replace q219 := eq_true q219
          obtain ⟨hcz23_0, hcz23_1, hfz23_0, hfz23_1⟩ := Ce2_ BK218.out
          have p220 : 0 ≤ (x5_2 : Int) := Ot_ (by first | (with_reducible assumption) | assumption)
          have q220 : x5_2 < (l1_0.length : Int) := Ot_ (by first | (with_reducible assumption) | assumption)
          obtain ⟨ad220, e220, hx220_0, hx220_1, hx220_2, hx220_3, hx220_4, hx220_5⟩ := at_T54 HR1_0.out x5_2 p220 q220
          cases e220
          replace hx220_0 := (HB.out.cell (Bl_ w _ hx220_0)).trans hx220_0
          replace hx220_1 := (HB.out.cell (Bl_ w _ hx220_1)).trans hx220_1
          replace hx220_2 := (HB.out.cell (Bl_ w _ hx220_2)).trans hx220_2
          replace hx220_3 := (HB.out.cell (Bl_ w _ hx220_3)).trans hx220_3
          replace hx220_4 := (HB.out.cell (Bl_ w _ hx220_4)).trans hx220_4
          replace hx220_5 := (HB.out.cell (Bl_ w _ hx220_5)).trans hx220_5
          replace p220 := eq_true p220
          replace q220 := eq_true q220
          go_wp2
          repeat (go_quiet (fail); try go_wp2)
          go_roundg k2
          case measure => have := HJ2.out; have := HK2.out; omega
          case rel => exact ⟨(wrap64 (x5_2 + 1)), (by first | rfl | (simp; done) | (simp [*]; done)), H', ⟨by have := HJ2.out; have := HK2.out; omega⟩, ⟨by (with_reducible repeat (first | refine Bn_ ?_ _ | refine Bd_ ?_ | refine Ba_ ?_ _)); exact BK217.out⟩, ⟨by (with_reducible repeat (first | refine Bn_ ?_ _ | refine Bd_ ?_ | refine Ba_ ?_ _)); exact BK218.out⟩, ⟨by repeat (first | (with_reducible first | exact HB.out | apply Pa_ | apply Pn_ | apply Pd_ | refine Bs_ ?_ GE217.out | refine Bs_ ?_ GE218.out) | exact HB.out)⟩⟩
        ·rw [if_neg c16] at H
         exact absurd H (by simp)
       ·rw [if_neg c15] at H
        exact absurd H (by simp)
      ·rw [if_neg c14] at H
       have c14b0 : decide (x5_2 < (l0_0.length : Int)) = false := Df_ c14
       clear c14
       have H' := Am_ H
       clear H
       have hnb24 := NB217_218.out
       have hnc24 := NB218_217.out
       obtain ⟨hcz25_0, hcz25_1, hfz25_0, hfz25_1⟩ := Ce2_ BK217.out
       go_wp2
       repeat (go_quiet (fail); try go_wp2)
       go_loopg [6] k2 (fun kq v6 w' => ∃ (x6_3 : Int), v6 = .int .i64 x6_3 ∧ Aside0 (flagstoneref10_Same.l1 kq x6_3 l0_0 l0_1 l1_0 l1_1 = some r) ∧ Aside0 (kq ≤ k2) ∧ Aside0 (w'.heap[gb217]? = some (.cells #[(.slice A0_0 l0_0.length c0_0), (.slice A0_1 l0_1.length c0_1)] 31 (0, 0))) ∧ Aside0 (w'.heap[gb218]? = some (.cells #[(.slice A1_0 l1_0.length c1_0), (.slice A1_1 l1_1.length c1_1)] 31 (0, 0))) ∧ Aside0 (Below w.heap.size w w'))
       case atStart => exact ⟨(0), (by first | rfl | (simp; done) | (simp [*]; done)), H', ⟨Nat.le_refl _⟩, ⟨by (with_reducible repeat (first | refine Bn_ ?_ _ | refine Bd_ ?_ | refine Ba_ ?_ _)); exact BK217.out⟩, ⟨by (with_reducible repeat (first | refine Bn_ ?_ _ | refine Bd_ ?_ | refine Ba_ ?_ _)); exact BK218.out⟩, ⟨by repeat (first | (with_reducible first | exact HB.out | apply Pa_ | apply Pn_ | apply Pd_ | refine Bs_ ?_ GE217.out | refine Bs_ ?_ GE218.out) | exact HB.out)⟩⟩
       case round =>
        clear H'
        try clear c1
        try clear c2
        try clear p2
        try clear q2
        try clear hx2
        try clear c6
        try clear c6b0
        try clear c6b1
        try clear c6b2
        try clear p6
        try clear c7
        try clear c10
        try clear c13
        try clear c14
        try clear c14b0
        try clear c15
        try clear c15b0
        try clear c16
        try clear c16b0
        try clear c17
        try clear c17b0
        try clear c18
        try clear c21
        try clear p21
        try clear q21
        try clear hx21
        try clear p22
        try clear q22
        try clear hx22
        try clear c24
        try clear hcz11_0
        try clear hcz11_1
        try clear hcz12_0
        try clear hcz12_1
        try clear hcz19_0
        try clear hcz19_1
        try clear hcz20_0
        try clear hcz20_1
        try clear hcz22_0
        try clear hcz22_1
        try clear hcz23_0
        try clear hcz23_1
        try clear hcz25_0
        try clear hcz25_1
        try clear hcz8_0
        try clear hcz8_1
        try clear hcz9_0
        try clear hcz9_1
        try clear hfz11_0
        try clear hfz11_1
        try clear hfz12_0
        try clear hfz12_1
        try clear hfz19_0
        try clear hfz19_1
        try clear hfz20_0
        try clear hfz20_1
        try clear hfz22_0
        try clear hfz22_1
        try clear hfz23_0
        try clear hfz23_1
        try clear hfz25_0
        try clear hfz25_1
        try clear hfz8_0
        try clear hfz8_1
        try clear hfz9_0
        try clear hfz9_1
        try clear hx219_0
        try clear hx219_1
        try clear hx219_2
        try clear hx219_3
        try clear hx219_4
        try clear hx219_5
        try clear hx220_0
        try clear hx220_1
        try clear hx220_2
        try clear hx220_3
        try clear hx220_4
        try clear hx220_5
        try clear p2
        try clear p219
        try clear p220
        try clear q219
        try clear q220
        obtain ⟨x6_3, rfl, HA, HK3, BK217, BK218, HB⟩ := hrel
        cases gk with
        | zero => exact absurd HA.out (by simp [flagstoneref10_Same.l1])
        | succ k3 =>
         have H := HA.out
         clear HA
         simp only [flagstoneref10_Same.l1] at H
         by_cases c26 : x6_3 < (l0_1.length : Int)
         ·rw [if_pos c26] at H
          have c26b0 : decide (x6_3 < (l0_1.length : Int)) = true := Dt_ c26
          clear c26
          by_cases c27 : 0 ≤ x6_3
          ·rw [if_pos c27] at H
           have c27b0 : decide (0 ≤ x6_3) = true := Dt_ c27
           clear c27
           by_cases c28 : x6_3 < (l1_1.length : Int)
           ·rw [if_pos c28] at H
            have c28b0 : decide (x6_3 < (l1_1.length : Int)) = true := Dt_ c28
            clear c28
            by_cases c29 : ((rd_L1 l0_1 x6_3).length : Int) = ((rd_L1 l1_1 x6_3).length : Int)
            ·rw [if_pos c29] at H
             have c29b0 : (((rd_L1 l0_1 x6_3).length : Int) == ((rd_L1 l1_1 x6_3).length : Int)) = true := beq_iff_eq.mpr c29
             have c29b1 : (((rd_L1 l0_1 x6_3).length : Int) != ((rd_L1 l1_1 x6_3).length : Int)) = false := bne_eq_false_iff_eq.mpr c29
             have c29b2 : ((rd_L1 l0_1 x6_3).length == (rd_L1 l1_1 x6_3).length) = true := by first | simpa using c29 | (simp at c29 ⊢; omega)
             clear c29
             have H' := Am_ H
             clear H
             have hnb30 := NB217_218.out
             have hnc30 := NB218_217.out
             obtain ⟨hcz31_0, hcz31_1, hfz31_0, hfz31_1⟩ := Ce2_ BK217.out
             have p221 : 0 ≤ (x6_3 : Int) := Ot_ (by first | (with_reducible assumption) | assumption)
             have q221 : x6_3 < (l0_1.length : Int) := Ot_ (by first | (with_reducible assumption) | assumption)
             obtain ⟨ad221, A221_0, c221_0, e221, hx221_0, hl221_0, hi221_0⟩ := at_L1 HR0_1.out x6_3 p221 q221
             cases e221
             replace hx221_0 := (HB.out.cell (Bl_ w _ hx221_0)).trans hx221_0
             have HR221_0 := Am_ hi221_0
             have HC221_0 := Am_ hl221_0
             clear hi221_0 hl221_0
             replace p221 := eq_true p221
             replace q221 := eq_true q221
             obtain ⟨hcz32_0, hcz32_1, hfz32_0, hfz32_1⟩ := Ce2_ BK218.out
             have p222 : 0 ≤ (x6_3 : Int) := Ot_ (by first | (with_reducible assumption) | assumption)
             have q222 : x6_3 < (l1_1.length : Int) := Ot_ (by first | (with_reducible assumption) | assumption)
             obtain ⟨ad222, A222_0, c222_0, e222, hx222_0, hl222_0, hi222_0⟩ := at_L1 HR1_1.out x6_3 p222 q222
             cases e222
             replace hx222_0 := (HB.out.cell (Bl_ w _ hx222_0)).trans hx222_0
             have HR222_0 := Am_ hi222_0
             have HC222_0 := Am_ hl222_0
             clear hi222_0 hl222_0
             replace p222 := eq_true p222
             replace q222 := eq_true q222
             go_wp2
             repeat (go_quiet (fail); try go_wp2)
             go_loopg [7] k3 (fun kq v7 w' => ∃ (x7_4 : Int), v7 = .int .i64 x7_4 ∧ Aside0 (flagstoneref10_Same.l2 kq x6_3 x7_4 l0_0 l0_1 l1_0 l1_1 = some r) ∧ Aside0 (kq ≤ k3) ∧ Aside0 (w'.heap[gb217]? = some (.cells #[(.slice A0_0 l0_0.length c0_0), (.slice (some ad221) l0_1.length c0_1)] 31 (0, 0))) ∧ Aside0 (w'.heap[gb218]? = some (.cells #[(.slice A1_0 l1_0.length c1_0), (.slice (some ad222) l1_1.length c1_1)] 31 (0, 0))) ∧ Aside0 (Below w.heap.size w w'))
             case atStart => exact ⟨(0), (by first | rfl | (simp; done) | (simp [*]; done)), H', ⟨Nat.le_refl _⟩, ⟨by (with_reducible repeat (first | refine Bn_ ?_ _ | refine Bd_ ?_ | refine Ba_ ?_ _)); exact BK217.out⟩, ⟨by (with_reducible repeat (first | refine Bn_ ?_ _ | refine Bd_ ?_ | refine Ba_ ?_ _)); exact BK218.out⟩, ⟨by repeat (first | (with_reducible first | exact HB.out | apply Pa_ | apply Pn_ | apply Pd_ | refine Bs_ ?_ GE217.out | refine Bs_ ?_ GE218.out) | exact HB.out)⟩⟩
             case round =>
              clear H'
              try clear c1
              try clear c2
              try clear p2
              try clear q2
              try clear hx2
              try clear c3
              try clear c6
              try clear c6b0
              try clear c6b1
              try clear c6b2
              try clear p6
              try clear c7
              try clear c10
              try clear c13
              try clear c14
              try clear c14b0
              try clear c15
              try clear c15b0
              try clear c16
              try clear c16b0
              try clear c17
              try clear c17b0
              try clear c18
              try clear c21
              try clear p21
              try clear q21
              try clear hx21
              try clear c22
              try clear p22
              try clear q22
              try clear hx22
              try clear c24
              try clear c26
              try clear c26b0
              try clear c27
              try clear c27b0
              try clear c28
              try clear c28b0
              try clear c29
              try clear c29b0
              try clear c29b1
              try clear c29b2
              try clear c30
              try clear hcz11_0
              try clear hcz11_1
              try clear hcz12_0
              try clear hcz12_1
              try clear hcz19_0
              try clear hcz19_1
              try clear hcz20_0
              try clear hcz20_1
              try clear hcz22_0
              try clear hcz22_1
              try clear hcz23_0
              try clear hcz23_1
              try clear hcz25_0
              try clear hcz25_1
              try clear hcz31_0
              try clear hcz31_1
              try clear hcz32_0
              try clear hcz32_1
              try clear hcz8_0
              try clear hcz8_1
              try clear hcz9_0
              try clear hcz9_1
              try clear hfz11_0
              try clear hfz11_1
              try clear hfz12_0
              try clear hfz12_1
              try clear hfz19_0
              try clear hfz19_1
              try clear hfz20_0
              try clear hfz20_1
              try clear hfz22_0
              try clear hfz22_1
              try clear hfz23_0
              try clear hfz23_1
              try clear hfz25_0
              try clear hfz25_1
              try clear hfz31_0
              try clear hfz31_1
              try clear hfz32_0
              try clear hfz32_1
              try clear hfz8_0
              try clear hfz8_1
              try clear hfz9_0
              try clear hfz9_1
              try clear hx219_0
              try clear hx219_1
              try clear hx219_2
              try clear hx219_3
              try clear hx219_4
              try clear hx219_5
              try clear hx220_0
              try clear hx220_1
              try clear hx220_2
              try clear hx220_3
              try clear hx220_4
              try clear hx220_5
              try clear hx221_0
              try clear hx222_0
              try clear p2
              try clear p21
              try clear p219
              try clear p22
              try clear p220
              try clear p221
              try clear p222
              try clear p6
              try clear q2
              try clear q21
              try clear q219
              try clear q22
              try clear q220
              try clear q221
              try clear q222
              obtain ⟨x7_4, rfl, HA, HK4, BK217, BK218, HB⟩ := hrel
              cases gk with
              | zero => exact absurd HA.out (by simp [flagstoneref10_Same.l2])
              | succ k4 =>
               have H := HA.out
               clear HA
               simp only [flagstoneref10_Same.l2] at H
               by_cases c33 : 0 ≤ x6_3
               ·rw [if_pos c33] at H
                have c33b0 : decide (0 ≤ x6_3) = true := Dt_ c33
                clear c33
                by_cases c34 : x6_3 < (l0_1.length : Int)
                ·rw [if_pos c34] at H
                 have c34b0 : decide (x6_3 < (l0_1.length : Int)) = true := Dt_ c34
                 clear c34
                 by_cases c35 : x7_4 < ((rd_L1 l0_1 x6_3).length : Int)
                 ·rw [if_pos c35] at H
                  have c35b0 : decide (x7_4 < ((rd_L1 l0_1 x6_3).length : Int)) = true := Dt_ c35
                  clear c35
                  by_cases c36 : 0 ≤ x7_4
                  ·rw [if_pos c36] at H
                   have c36b0 : decide (0 ≤ x7_4) = true := Dt_ c36
                   clear c36
                   by_cases c37 : x6_3 < (l1_1.length : Int)
                   ·rw [if_pos c37] at H
                    have c37b0 : decide (x6_3 < (l1_1.length : Int)) = true := Dt_ c37
                    clear c37
                    by_cases c38 : x7_4 < ((rd_L1 l1_1 x6_3).length : Int)
                    ·rw [if_pos c38] at H
                     have c38b0 : decide (x7_4 < ((rd_L1 l1_1 x6_3).length : Int)) = true := Dt_ c38
                     clear c38
                     by_cases c39 : (rd (rd_L1 l0_1 x6_3) x7_4) = (rd (rd_L1 l1_1 x6_3) x7_4)
                     ·rw [if_pos c39] at H
                      have c39b0 : ((rd (rd_L1 l0_1 x6_3) x7_4) == (rd (rd_L1 l1_1 x6_3) x7_4)) = true := beq_iff_eq.mpr c39
                      have c39b1 : ((rd (rd_L1 l0_1 x6_3) x7_4) != (rd (rd_L1 l1_1 x6_3) x7_4)) = false := bne_eq_false_iff_eq.mpr c39
                      clear c39
                      have H' := Am_ H
                      clear H
                      have hnb40 := NB217_218.out
                      have hnc40 := NB218_217.out
                      obtain ⟨hcz41_0, hcz41_1, hfz41_0, hfz41_1⟩ := Ce2_ BK217.out
                      have p223 : 0 ≤ (x6_3 : Int) := Ot_ (by first | (with_reducible assumption) | assumption)
                      have q223 : x6_3 < (l0_1.length : Int) := Ot_ (by first | (with_reducible assumption) | assumption)
                      obtain ⟨ad223, A223_0, c223_0, e223, hx223_0, hl223_0, hi223_0⟩ := at_L1 HR0_1.out x6_3 p223 q223
                      obtain rfl : ad221 = ad223 := (by injection e223)
                      replace hx223_0 := (HB.out.cell (Bl_ w _ hx223_0)).trans hx223_0
                      have HR223_0 := Am_ hi223_0
                      have HC223_0 := Am_ hl223_0
                      clear hi223_0 hl223_0
                      replace p223 := eq_true p223
                      replace q223 := eq_true q223
                      have p224 : 0 ≤ (x6_3 : Int) := Ot_ (by first | (with_reducible assumption) | assumption)
                      have q224 : x6_3 < (l0_1.length : Int) := Ot_ (by first | (with_reducible assumption) | assumption)
                      obtain ⟨ad224, A224_0, c224_0, e224, hx224_0, hl224_0, hi224_0⟩ := at_L1 HR0_1.out x6_3 p224 q224
                      obtain rfl : ad221 = ad224 := (by injection e224)
                      replace hx224_0 := (HB.out.cell (Bl_ w _ hx224_0)).trans hx224_0
                      have HR224_0 := Am_ hi224_0
                      have HC224_0 := Am_ hl224_0
                      clear hi224_0 hl224_0
                      replace p224 := eq_true p224
                      replace q224 := eq_true q224
                      have ea_ := Option.some.inj (hx223_0.symm.trans hx224_0)
                      injection ea_ with ea_ en_ ec_
                      subst ea_
                      subst ec_
                      clear en_
                      have p225 : 0 ≤ (x7_4 : Int) := Ot_ (by first | (with_reducible assumption) | assumption)
                      have q225 : x7_4 < ((rd_L1 l0_1 x6_3).length : Int) := Ot_ (by first | (with_reducible assumption) | assumption)
                      obtain ⟨ad225, e225, hx225_0⟩ := Kd.at_int HR224_0.out x7_4 p225 q225
                      cases e225
                      replace hx225_0 := (HB.out.cell (Bl_ w _ hx225_0)).trans hx225_0
                      replace p225 := eq_true p225
                      replace q225 := eq_true q225
                      obtain ⟨hcz42_0, hcz42_1, hfz42_0, hfz42_1⟩ := Ce2_ BK218.out
                      have p226 : 0 ≤ (x6_3 : Int) := Ot_ (by first | (with_reducible assumption) | assumption)
                      have q226 : x6_3 < (l1_1.length : Int) := Ot_ (by first | (with_reducible assumption) | assumption)
                      obtain ⟨ad226, A226_0, c226_0, e226, hx226_0, hl226_0, hi226_0⟩ := at_L1 HR1_1.out x6_3 p226 q226
                      obtain rfl : ad222 = ad226 := (by injection e226)
                      replace hx226_0 := (HB.out.cell (Bl_ w _ hx226_0)).trans hx226_0
                      have HR226_0 := Am_ hi226_0
                      have HC226_0 := Am_ hl226_0
                      clear hi226_0 hl226_0
                      replace p226 := eq_true p226
                      replace q226 := eq_true q226
                      have p227 : 0 ≤ (x7_4 : Int) := Ot_ (by first | (with_reducible assumption) | assumption)
                      have q227 : x7_4 < ((rd_L1 l1_1 x6_3).length : Int) := Ot_ (by first | (with_reducible assumption) | assumption)
                      obtain ⟨ad227, e227, hx227_0⟩ := Kd.at_int HR226_0.out x7_4 p227 q227
                      cases e227
                      replace hx227_0 := (HB.out.cell (Bl_ w _ hx227_0)).trans hx227_0
                      replace p227 := eq_true p227
                      replace q227 := eq_true q227
                      go_wp2
                      repeat (go_quiet (fail); try go_wp2)
                      go_roundg k4
                      case measure => have := HJ2.out; have := HK2.out; have := HK3.out; have := HK4.out; omega
                      case rel => exact ⟨(wrap64 (x7_4 + 1)), (by first | rfl | (simp; done) | (simp [*]; done)), H', ⟨by have := HJ2.out; have := HK2.out; have := HK3.out; have := HK4.out; omega⟩, ⟨by (with_reducible repeat (first | refine Bn_ ?_ _ | refine Bd_ ?_ | refine Ba_ ?_ _)); exact BK217.out⟩, ⟨by (with_reducible repeat (first | refine Bn_ ?_ _ | refine Bd_ ?_ | refine Ba_ ?_ _)); exact BK218.out⟩, ⟨by repeat (first | (with_reducible first | exact HB.out | apply Pa_ | apply Pn_ | apply Pd_ | refine Bs_ ?_ GE217.out | refine Bs_ ?_ GE218.out) | exact HB.out)⟩⟩
                     ·rw [if_neg c39] at H
                      have c39b0 : ((rd (rd_L1 l0_1 x6_3) x7_4) == (rd (rd_L1 l1_1 x6_3) x7_4)) = false := beq_eq_false_iff_ne.mpr c39
                      have c39b1 : ((rd (rd_L1 l0_1 x6_3) x7_4) != (rd (rd_L1 l1_1 x6_3) x7_4)) = true := bne_iff_ne.mpr c39
                      obtain rfl := Option.some.inj H
                      have hnb43 := NB217_218.out
                      have hnc43 := NB218_217.out
                      obtain ⟨hcz44_0, hcz44_1, hfz44_0, hfz44_1⟩ := Ce2_ BK217.out
                      have p223 : 0 ≤ (x6_3 : Int) := Ot_ (by first | (with_reducible assumption) | assumption)
                      have q223 : x6_3 < (l0_1.length : Int) := Ot_ (by first | (with_reducible assumption) | assumption)
                      obtain ⟨ad223, A223_0, c223_0, e223, hx223_0, hl223_0, hi223_0⟩ := at_L1 HR0_1.out x6_3 p223 q223
                      obtain rfl : ad221 = ad223 := (by injection e223)
                      replace hx223_0 := (HB.out.cell (Bl_ w _ hx223_0)).trans hx223_0
                      have HR223_0 := Am_ hi223_0
                      have HC223_0 := Am_ hl223_0
                      clear hi223_0 hl223_0
                      replace p223 := eq_true p223
                      replace q223 := eq_true q223
                      have p224 : 0 ≤ (x6_3 : Int) := Ot_ (by first | (with_reducible assumption) | assumption)
                      have q224 : x6_3 < (l0_1.length : Int) := Ot_ (by first | (with_reducible assumption) | assumption)
                      obtain ⟨ad224, A224_0, c224_0, e224, hx224_0, hl224_0, hi224_0⟩ := at_L1 HR0_1.out x6_3 p224 q224
                      obtain rfl : ad221 = ad224 := (by injection e224)
                      replace hx224_0 := (HB.out.cell (Bl_ w _ hx224_0)).trans hx224_0
                      have HR224_0 := Am_ hi224_0
                      have HC224_0 := Am_ hl224_0
                      clear hi224_0 hl224_0
                      replace p224 := eq_true p224
                      replace q224 := eq_true q224
                      have ea_ := Option.some.inj (hx223_0.symm.trans hx224_0)
                      injection ea_ with ea_ en_ ec_
                      subst ea_
                      subst ec_
                      clear en_
                      have p225 : 0 ≤ (x7_4 : Int) := Ot_ (by first | (with_reducible assumption) | assumption)
                      have q225 : x7_4 < ((rd_L1 l0_1 x6_3).length : Int) := Ot_ (by first | (with_reducible assumption) | assumption)
                      obtain ⟨ad225, e225, hx225_0⟩ := Kd.at_int HR224_0.out x7_4 p225 q225
                      cases e225
                      replace hx225_0 := (HB.out.cell (Bl_ w _ hx225_0)).trans hx225_0
                      replace p225 := eq_true p225
                      replace q225 := eq_true q225
                      obtain ⟨hcz45_0, hcz45_1, hfz45_0, hfz45_1⟩ := Ce2_ BK218.out
                      have p226 : 0 ≤ (x6_3 : Int) := Ot_ (by first | (with_reducible assumption) | assumption)
                      have q226 : x6_3 < (l1_1.length : Int) := Ot_ (by first | (with_reducible assumption) | assumption)
                      obtain ⟨ad226, A226_0, c226_0, e226, hx226_0, hl226_0, hi226_0⟩ := at_L1 HR1_1.out x6_3 p226 q226
                      obtain rfl : ad222 = ad226 := (by injection e226)
                      replace hx226_0 := (HB.out.cell (Bl_ w _ hx226_0)).trans hx226_0
                      have HR226_0 := Am_ hi226_0
                      have HC226_0 := Am_ hl226_0
                      clear hi226_0 hl226_0
                      replace p226 := eq_true p226
                      replace q226 := eq_true q226
                      have p227 : 0 ≤ (x7_4 : Int) := Ot_ (by first | (with_reducible assumption) | assumption)
                      have q227 : x7_4 < ((rd_L1 l1_1 x6_3).length : Int) := Ot_ (by first | (with_reducible assumption) | assumption)
                      obtain ⟨ad227, e227, hx227_0⟩ := Kd.at_int HR226_0.out x7_4 p227 q227
                      cases e227
                      replace hx227_0 := (HB.out.cell (Bl_ w _ hx227_0)).trans hx227_0
                      replace p227 := eq_true p227
                      replace q227 := eq_true q227
                      go_wp2
                      repeat (go_quiet (fail); try go_wp2)
                      go_ret
                      exact ⟨by first | rfl | (simp [errW_none, errW_some] <;> rfl) | (simp [*, errW_none, errW_some] <;> rfl), by repeat (first | (with_reducible first | exact HB.out | apply Pa_ | apply Pn_ | apply Pd_ | refine Bs_ ?_ GE217.out | refine Bs_ ?_ GE218.out) | exact HB.out)⟩
                    ·rw [if_neg c38] at H
                     exact absurd H (by simp)
                   ·rw [if_neg c37] at H
                    exact absurd H (by simp)
                  ·rw [if_neg c36] at H
                   exact absurd H (by simp)
                 ·rw [if_neg c35] at H
                  have c35b0 : decide (x7_4 < ((rd_L1 l0_1 x6_3).length : Int)) = false := Df_ c35
                  clear c35
                  have H' := Am_ H
                  clear H
                  have hnb46 := NB217_218.out
                  have hnc46 := NB218_217.out
                  obtain ⟨hcz47_0, hcz47_1, hfz47_0, hfz47_1⟩ := Ce2_ BK217.out
                  have p223 : 0 ≤ (x6_3 : Int) := Ot_ (by first | (with_reducible assumption) | assumption)
                  have q223 : x6_3 < (l0_1.length : Int) := Ot_ (by first | (with_reducible assumption) | assumption)
                  obtain ⟨ad223, A223_0, c223_0, e223, hx223_0, hl223_0, hi223_0⟩ := at_L1 HR0_1.out x6_3 p223 q223
                  obtain rfl : ad221 = ad223 := (by injection e223)
                  replace hx223_0 := (HB.out.cell (Bl_ w _ hx223_0)).trans hx223_0
                  have HR223_0 := Am_ hi223_0
                  have HC223_0 := Am_ hl223_0
                  clear hi223_0 hl223_0
                  replace p223 := eq_true p223
                  replace q223 := eq_true q223
                  go_wp2
                  repeat (go_quiet (fail); try go_wp2)
                  go_roundg k4
                  case measure => have := HJ2.out; have := HK2.out; have := HK3.out; have := HK4.out; omega
                  case rel => exact ⟨(wrap64 (x6_3 + 1)), (by first | rfl | (simp; done) | (simp [*]; done)), H', ⟨by have := HJ2.out; have := HK2.out; have := HK3.out; have := HK4.out; omega⟩, ⟨by (with_reducible repeat (first | refine Bn_ ?_ _ | refine Bd_ ?_ | refine Ba_ ?_ _)); exact BK217.out⟩, ⟨by (with_reducible repeat (first | refine Bn_ ?_ _ | refine Bd_ ?_ | refine Ba_ ?_ _)); exact BK218.out⟩, ⟨by repeat (first | (with_reducible first | exact HB.out | apply Pa_ | apply Pn_ | apply Pd_ | refine Bs_ ?_ GE217.out | refine Bs_ ?_ GE218.out) | exact HB.out)⟩⟩
                ·rw [if_neg c34] at H
                 exact absurd H (by simp)
               ·rw [if_neg c33] at H
                exact absurd H (by simp)
            ·rw [if_neg c29] at H
             have c29b0 : (((rd_L1 l0_1 x6_3).length : Int) == ((rd_L1 l1_1 x6_3).length : Int)) = false := beq_eq_false_iff_ne.mpr c29
             have c29b1 : (((rd_L1 l0_1 x6_3).length : Int) != ((rd_L1 l1_1 x6_3).length : Int)) = true := bne_iff_ne.mpr c29
             have c29b2 : ((rd_L1 l0_1 x6_3).length == (rd_L1 l1_1 x6_3).length) = false := by first | simpa using c29 | (simp at c29 ⊢; omega)
             obtain rfl := Option.some.inj H
             have hnb48 := NB217_218.out
             have hnc48 := NB218_217.out
             obtain ⟨hcz49_0, hcz49_1, hfz49_0, hfz49_1⟩ := Ce2_ BK217.out
             have p221 : 0 ≤ (x6_3 : Int) := Ot_ (by first | (with_reducible assumption) | assumption)
             have q221 : x6_3 < (l0_1.length : Int) := Ot_ (by first | (with_reducible assumption) | assumption)
             obtain ⟨ad221, A221_0, c221_0, e221, hx221_0, hl221_0, hi221_0⟩ := at_L1 HR0_1.out x6_3 p221 q221
             cases e221
             replace hx221_0 := (HB.out.cell (Bl_ w _ hx221_0)).trans hx221_0
             have HR221_0 := Am_ hi221_0
             have HC221_0 := Am_ hl221_0
             clear hi221_0 hl221_0
             replace p221 := eq_true p221
             replace q221 := eq_true q221
             obtain ⟨hcz50_0, hcz50_1, hfz50_0, hfz50_1⟩ := Ce2_ BK218.out
             have p222 : 0 ≤ (x6_3 : Int) := Ot_ (by first | (with_reducible assumption) | assumption)
             have q222 : x6_3 < (l1_1.length : Int) := Ot_ (by first | (with_reducible assumption) | assumption)
             obtain ⟨ad222, A222_0, c222_0, e222, hx222_0, hl222_0, hi222_0⟩ := at_L1 HR1_1.out x6_3 p222 q222
             cases e222
             replace hx222_0 := (HB.out.cell (Bl_ w _ hx222_0)).trans hx222_0
             have HR222_0 := Am_ hi222_0
             have HC222_0 := Am_ hl222_0
             clear hi222_0 hl222_0
             replace p222 := eq_true p222
             replace q222 := eq_true q222
             go_wp2
             repeat (go_quiet (fail); try go_wp2)
             go_ret
             exact ⟨by first | rfl | (simp [errW_none, errW_some] <;> rfl) | (simp [*, errW_none, errW_some] <;> rfl), by repeat (first | (with_reducible first | exact HB.out | apply Pa_ | apply Pn_ | apply Pd_ | refine Bs_ ?_ GE217.out | refine Bs_ ?_ GE218.out) | exact HB.out)⟩
           ·rw [if_neg c28] at H
            exact absurd H (by simp)
          ·rw [if_neg c27] at H
           exact absurd H (by simp)
         ·rw [if_neg c26] at H
          have c26b0 : decide (x6_3 < (l0_1.length : Int)) = false := Df_ c26
          clear c26
          obtain rfl := Option.some.inj H
          have hnb51 := NB217_218.out
          have hnc51 := NB218_217.out
          obtain ⟨hcz52_0, hcz52_1, hfz52_0, hfz52_1⟩ := Ce2_ BK217.out
          go_wp2
          repeat (go_quiet (fail); try go_wp2)
          go_ret
          exact ⟨by first | rfl | (simp [errW_none, errW_some] <;> rfl) | (simp [*, errW_none, errW_some] <;> rfl), by repeat (first | (with_reducible first | exact HB.out | apply Pa_ | apply Pn_ | apply Pd_ | refine Bs_ ?_ GE217.out | refine Bs_ ?_ GE218.out) | exact HB.out)⟩

end Go.Proofs.Ytkecfdljodiifaa.P
