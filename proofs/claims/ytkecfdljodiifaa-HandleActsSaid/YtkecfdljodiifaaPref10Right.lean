-- Printed by a program of this session (inject.py) over the kit's print, with functions that were proved by hand in their places.
import Derived.Test.YtkecfdljodiifaaPK
import Derived.Test.YtkecfdljodiifaaPEq54
namespace Go.Proofs.Ytkecfdljodiifaa.P
open Go.RowKit Go.Proofs.YtkecfdljodiifaaW.PrintWords Go.Proofs.YtkecfdljodiifaaW.PrintLast Go.Proofs.YtkecfdljodiifaaW.PrintMore
attribute [local go_sem] max2_int min2_int max_two min_two max_three min_three max_four min_four   -- for this text's walks alone
set_option linter.unusedVariables false
set_option linter.unusedSimpArgs false

attribute [local go_sem high] eqA54
/-! ### flagstoneref10_Right: function 13 -/
mutual
def flagstoneref10_Right.l0 : Nat → List Int → Int → List (S54) → List (List Int) → Option (Bool)
 | 0, _, _, _, _ => none
 | k + 1, x3, x4, x231000, x231001 => if x4 < (x231000.length : Int) then (if x3.length < 17592186044416 then (flagstoneref10_Right.l0 k (x3 ++ [0]) (wrap64 (x4 + 1)) x231000 x231001) else (none)) else (flagstoneref10_Right.l1 k x3 0 x231000 x231001)
def flagstoneref10_Right.l1 : Nat → List Int → Int → List (S54) → List (List Int) → Option (Bool)
 | 0, _, _, _, _ => none
 | k + 1, x3, x5, x231000, x231001 => if x5 < (x231001.length : Int) then (if 0 ≤ x5 then (if ((rd_L1 x231001 x5).length : Int) = 8 then (flagstoneref10_Right.l2 k x3 x5 0 x231000 x231001) else (some false)) else (none)) else (flagstoneref10_Right.l3 k x3 0 x231000 x231001)
def flagstoneref10_Right.l2 : Nat → List Int → Int → Int → List (S54) → List (List Int) → Option (Bool)
 | 0, _, _, _, _, _ => none
 | k + 1, x3, x5, x6, x231000, x231001 => if x6 < 8 then (if 0 ≤ x5 then (if x5 < (x231001.length : Int) then (if 0 ≤ x6 then (if x6 < ((rd_L1 x231001 x5).length : Int) then (if (rd (rd_L1 x231001 x5) x6) < (-1) then (flagstoneref10_Right.j3 k x3 x5 x6 (rd (rd_L1 x231001 x5) x6) true x231000 x231001) else (flagstoneref10_Right.j3 k x3 x5 x6 (rd (rd_L1 x231001 x5) x6) (decide ((rd (rd_L1 x231001 x5) x6) ≥ (x231000.length : Int))) x231000 x231001)) else (none)) else (none)) else (none)) else (none)) else (flagstoneref10_Right.l1 k x3 (wrap64 (x5 + 1)) x231000 x231001)
def flagstoneref10_Right.j3 : Nat → List Int → Int → Int → Int → Bool → List (S54) → List (List Int) → Option (Bool)
 | 0, _, _, _, _, _, _, _ => none
 | k + 1, x3, x5, x6, x7, x54, x231000, x231001 => if x54 = true then (some false) else (if x7 ≥ 0 then (if 0 ≤ x7 then (if x7 < (x3.length : Int) then (flagstoneref10_Right.l2 k (x3.set (x7 : Int).toNat (wrap64 ((rd x3 x7) + 1))) x5 (wrap64 (x6 + 1)) x231000 x231001) else (none)) else (none)) else (flagstoneref10_Right.l2 k x3 x5 (wrap64 (x6 + 1)) x231000 x231001))
def flagstoneref10_Right.l3 : Nat → List Int → Int → List (S54) → List (List Int) → Option (Bool)
 | 0, _, _, _, _ => none
 | k + 1, x3, x8, x231000, x231001 => if x8 < (x231000.length : Int) then (if 0 ≤ x8 then (if x8 < (x3.length : Int) then (if ((rd_T54 x231000 x8).f4) = (rd x3 x8) then (if (rd x3 x8) = 0 then (if (!(((rd_T54 x231000 x8).f0) == 0) || (!(((rd_T54 x231000 x8).f1) == 0) || (((rd_T54 x231000 x8).f2) || (((rd_T54 x231000 x8).f3) || (!(((rd_T54 x231000 x8).f4) == 0) || (!(((rd_T54 x231000 x8).f5) == 0))))))) = true then (some false) else (flagstoneref10_Right.l3 k x3 (wrap64 (x8 + 1)) x231000 x231001)) else (flagstoneref10_Right.l3 k x3 (wrap64 (x8 + 1)) x231000 x231001)) else (some false)) else (none)) else (none)) else (some true)
end
def flagstoneref10_Right.f (k : Nat) (l0_0 : List (S54)) (l0_1 : List (List Int)) : Option (Bool) := flagstoneref10_Right.l0 k (([] : List Int)) 0 l0_0 l0_1
theorem flagstoneref10_Right.mono_l : ∀ k, (∀ y0 y1 y2 y3, LeO (flagstoneref10_Right.l0 k y0 y1 y2 y3) (flagstoneref10_Right.l0 (k + 1) y0 y1 y2 y3)) ∧ (∀ y0 y1 y2 y3, LeO (flagstoneref10_Right.l1 k y0 y1 y2 y3) (flagstoneref10_Right.l1 (k + 1) y0 y1 y2 y3)) ∧ (∀ y0 y1 y2 y3 y4, LeO (flagstoneref10_Right.l2 k y0 y1 y2 y3 y4) (flagstoneref10_Right.l2 (k + 1) y0 y1 y2 y3 y4)) ∧ (∀ y0 y1 y2 y3 y4 y5 y6, LeO (flagstoneref10_Right.j3 k y0 y1 y2 y3 y4 y5 y6) (flagstoneref10_Right.j3 (k + 1) y0 y1 y2 y3 y4 y5 y6)) ∧ (∀ y0 y1 y2 y3, LeO (flagstoneref10_Right.l3 k y0 y1 y2 y3) (flagstoneref10_Right.l3 (k + 1) y0 y1 y2 y3))
 | 0 => ⟨fun _ _ _ _ r h => by simp [flagstoneref10_Right.l0] at h, fun _ _ _ _ r h => by simp [flagstoneref10_Right.l1] at h, fun _ _ _ _ _ r h => by simp [flagstoneref10_Right.l2] at h, fun _ _ _ _ _ _ _ r h => by simp [flagstoneref10_Right.j3] at h, fun _ _ _ _ r h => by simp [flagstoneref10_Right.l3] at h⟩
 | k + 1 => by
  obtain ⟨ih0, ih1, ih2, ih3, ih4⟩ := flagstoneref10_Right.mono_l k
  refine ⟨?_, ?_, ?_, ?_, ?_⟩
  ·intro y0 y1 y2 y3
   unfold flagstoneref10_Right.l0
   repeat' first
   | (with_reducible exact ih0 _ _ _ _)
   | (with_reducible exact ih1 _ _ _ _)
   | (with_reducible exact ih2 _ _ _ _ _)
   | (with_reducible exact ih3 _ _ _ _ _ _ _)
   | (with_reducible exact ih4 _ _ _ _)
   | (with_reducible exact LeO.refl _)
   | (with_reducible exact LeO.none _)
   | (with_reducible refine LeO.ite ?_ ?_)
   | (with_reducible refine LeO.bind ?_ (fun _ => ?_))
   | exact ih0 _ _ _ _
   | exact ih1 _ _ _ _
   | exact ih2 _ _ _ _ _
   | exact ih3 _ _ _ _ _ _ _
   | exact ih4 _ _ _ _
   | exact LeO.none _
   | refine LeO.ite ?_ ?_
   | refine LeO.bind ?_ (fun _ => ?_)
  ·intro y0 y1 y2 y3
   unfold flagstoneref10_Right.l1
   repeat' first
   | (with_reducible exact ih0 _ _ _ _)
   | (with_reducible exact ih1 _ _ _ _)
   | (with_reducible exact ih2 _ _ _ _ _)
   | (with_reducible exact ih3 _ _ _ _ _ _ _)
   | (with_reducible exact ih4 _ _ _ _)
   | (with_reducible exact LeO.refl _)
   | (with_reducible exact LeO.none _)
   | (with_reducible refine LeO.ite ?_ ?_)
   | (with_reducible refine LeO.bind ?_ (fun _ => ?_))
   | exact ih0 _ _ _ _
   | exact ih1 _ _ _ _
   | exact ih2 _ _ _ _ _
   | exact ih3 _ _ _ _ _ _ _
   | exact ih4 _ _ _ _
   | exact LeO.none _
   | refine LeO.ite ?_ ?_
   | refine LeO.bind ?_ (fun _ => ?_)
  ·intro y0 y1 y2 y3 y4
   unfold flagstoneref10_Right.l2
   repeat' first
   | (with_reducible exact ih0 _ _ _ _)
   | (with_reducible exact ih1 _ _ _ _)
   | (with_reducible exact ih2 _ _ _ _ _)
   | (with_reducible exact ih3 _ _ _ _ _ _ _)
   | (with_reducible exact ih4 _ _ _ _)
   | (with_reducible exact LeO.refl _)
   | (with_reducible exact LeO.none _)
   | (with_reducible refine LeO.ite ?_ ?_)
   | (with_reducible refine LeO.bind ?_ (fun _ => ?_))
   | exact ih0 _ _ _ _
   | exact ih1 _ _ _ _
   | exact ih2 _ _ _ _ _
   | exact ih3 _ _ _ _ _ _ _
   | exact ih4 _ _ _ _
   | exact LeO.none _
   | refine LeO.ite ?_ ?_
   | refine LeO.bind ?_ (fun _ => ?_)
  ·intro y0 y1 y2 y3 y4 y5 y6
   unfold flagstoneref10_Right.j3
   repeat' first
   | (with_reducible exact ih0 _ _ _ _)
   | (with_reducible exact ih1 _ _ _ _)
   | (with_reducible exact ih2 _ _ _ _ _)
   | (with_reducible exact ih3 _ _ _ _ _ _ _)
   | (with_reducible exact ih4 _ _ _ _)
   | (with_reducible exact LeO.refl _)
   | (with_reducible exact LeO.none _)
   | (with_reducible refine LeO.ite ?_ ?_)
   | (with_reducible refine LeO.bind ?_ (fun _ => ?_))
   | exact ih0 _ _ _ _
   | exact ih1 _ _ _ _
   | exact ih2 _ _ _ _ _
   | exact ih3 _ _ _ _ _ _ _
   | exact ih4 _ _ _ _
   | exact LeO.none _
   | refine LeO.ite ?_ ?_
   | refine LeO.bind ?_ (fun _ => ?_)
  ·intro y0 y1 y2 y3
   unfold flagstoneref10_Right.l3
   repeat' first
   | (with_reducible exact ih0 _ _ _ _)
   | (with_reducible exact ih1 _ _ _ _)
   | (with_reducible exact ih2 _ _ _ _ _)
   | (with_reducible exact ih3 _ _ _ _ _ _ _)
   | (with_reducible exact ih4 _ _ _ _)
   | (with_reducible exact LeO.refl _)
   | (with_reducible exact LeO.none _)
   | (with_reducible refine LeO.ite ?_ ?_)
   | (with_reducible refine LeO.bind ?_ (fun _ => ?_))
   | exact ih0 _ _ _ _
   | exact ih1 _ _ _ _
   | exact ih2 _ _ _ _ _
   | exact ih3 _ _ _ _ _ _ _
   | exact ih4 _ _ _ _
   | exact LeO.none _
   | refine LeO.ite ?_ ?_
   | refine LeO.bind ?_ (fun _ => ?_)
theorem flagstoneref10_Right.mono : ∀ a0 a1 k, LeO (flagstoneref10_Right.f k a0 a1) (flagstoneref10_Right.f (k + 1) a0 a1) := by
 intro a0 a1 k
 obtain ⟨ih0, ih1, ih2, ih3, ih4⟩ := flagstoneref10_Right.mono_l k
 unfold flagstoneref10_Right.f
 repeat' first
   | (with_reducible exact ih0 _ _ _ _)
   | (with_reducible exact ih1 _ _ _ _)
   | (with_reducible exact ih2 _ _ _ _ _)
   | (with_reducible exact ih3 _ _ _ _ _ _ _)
   | (with_reducible exact ih4 _ _ _ _)
   | (with_reducible exact LeO.refl _)
   | (with_reducible exact LeO.none _)
   | (with_reducible refine LeO.ite ?_ ?_)
   | (with_reducible refine LeO.bind ?_ (fun _ => ?_))
   | exact ih0 _ _ _ _
   | exact ih1 _ _ _ _
   | exact ih2 _ _ _ _ _
   | exact ih3 _ _ _ _ _ _ _
   | exact ih4 _ _ _ _
   | exact LeO.none _
   | refine LeO.ite ?_ ?_
   | refine LeO.bind ?_ (fun _ => ?_)
set_option maxHeartbeats 8000000 in
set_option maxRecDepth 100000 in
theorem flagstoneref10_Right.calls (k : Nat) (A0_0 : Option Addr) (c0_0 : Nat) (l0_0 : List (S54)) (A0_1 : Option Addr) (c0_1 : Nat) (l0_1 : List (List Int)) (r : Bool) (w : World) (hr0_0 : Kd.C k54 w A0_0 l0_0.length l0_0) (hc0_0 : l0_0.length ≤ c0_0) (hr0_1 : Kd.C (Kd.slice 3 (Kd.int .i64)) w A0_1 l0_1.length l0_1) (hc0_1 : l0_1.length ≤ c0_1) (h : flagstoneref10_Right.f k l0_0 l0_1 = some r) :
  Calls Try.prog 13 #[.agg #[.slice A0_0 l0_0.length c0_0, .slice A0_1 l0_1.length c0_1]] w fun e w' => e = .returned (.bool r) ∧ Below w.heap.size w w' := by
 have hu31 := Try.underlying31
 have hu54 := Try.underlying54
 have HR0_0 := Am_ hr0_0
 have HC0_0 := Am_ hc0_0
 clear hr0_0 hc0_0
 have HR0_1 := Am_ hr0_1
 have HC0_1 := Am_ hc0_1
 clear hr0_1 hc0_1
 have HB := Am_ (Below.refl w.heap.size w)
 have H : (flagstoneref10_Right.l0 k (([] : List Int)) 0 l0_0 l0_1) = some r := h
 clear h
 obtain ⟨y231, hy231⟩ : ∃ y_ : List Int, y_ = (([] : List Int)) := ⟨_, rfl⟩
 replace H : (flagstoneref10_Right.l0 k y231 0 l0_0 l0_1) = some r := by first | (rw [hy231]; with_reducible exact H) | (have H2_ := (Option.bind_some _ _).symm.trans H; rw [hy231]; with_reducible exact H2_) | (have H2_ := (Option.bind_some _ _).symm.trans H; with_reducible exact H2_) | with_reducible exact H | (rw [hy231]; exact H) | exact H
 have Ny231 := Am_ hy231
 clear hy231
 have H' := Am_ H
 clear H
 go_enter Try.func13, Try.ntmps13
 go_wp2_with (first | ((with_reducible refine gate_dst (N := 1) rfl ?_); (try (refine gate_guard (by rfl) ?_; dsimp only)); refine box_event ?hg (N := 1) ?hd (cs := #[.slice A0_0 l0_0.length c0_0, .slice A0_1 l0_1.length c0_1]) (t := 31) ?hr ?_; (case hd => rfl); (case hg => rfl); (case hr => go_simp; try rfl); intro gb230 hg w2 hbox hb; have n0_ := Am_ (Be_ (Pb0_ HB.out) hb); have n1_ := Am_ (hbox); have n2_ := Am_ ((by rw [hg]; exact (Bz_ (Pb0_ HB.out)) : w.heap.size ≤ gb230)); have n3_ := Am_ ((by rw [hg]; exact (Bz_ (Pb0_ HB.out)) : w.heap.size ≤ gb230)); clear HB; have HB := n0_; have BK230 := n1_; have GW230 := n2_; have GE230 := n3_; clear n0_ n1_ n2_ n3_; clear hb hbox hg) | ((with_reducible refine gate_dst (N := 9) rfl ?_); (try (refine gate_guard (by rfl) ?_; dsimp only)); refine Kd.R_lit (Kd.int .i64) _ 3 ?hg (N := 9) ?hd (xs := ([] : List Int)) (inner := []) (ok := fun _ => True) (okp := fun _ => True) ?hr ?hp (fun _ hk => hk) trivial (Below.refl _ _) (Nat.le_refl _) (by simp) ?_; (case hd => rfl); (case hg => rfl); (case hr => go_simp; try rfl); (case hp => exact (Reps.none _ _)); intro v232 w3 ho4 hb hg_ hnew_; clear hg_ hnew_; (first | rw [← Ny231.out] at ho4 | (simp only [Int.reduceToNat] at ho4; rw [← Ny231.out] at ho4)); have n0_ := Am_ (Kd.R_lower ho4 (Bz_ (Pb1_ HB.out GE230.out))); have n1_ := Am_ (Bb_ (g := gb230) (o := .cells #[.slice A0_0 l0_0.length c0_0, .slice A0_1 l0_1.length c0_1] 31 (0, 0)) (Pk_ BK230.out) hb); have n2_ := Am_ (Be_ (Pb1_ HB.out GE230.out) hb); clear BK230; clear HB; have HO233 := n0_; have BK230 := n1_; have HB := n2_; clear n0_ n1_ n2_; clear hb ho4))
 repeat (go_quiet (first | ((with_reducible refine gate_dst (N := 1) rfl ?_); (try (refine gate_guard (by rfl) ?_; dsimp only)); refine box_event ?hg (N := 1) ?hd (cs := #[.slice A0_0 l0_0.length c0_0, .slice A0_1 l0_1.length c0_1]) (t := 31) ?hr ?_; (case hd => rfl); (case hg => rfl); (case hr => go_simp; try rfl); intro gb230 hg w2 hbox hb; have n0_ := Am_ (Be_ (Pb0_ HB.out) hb); have n1_ := Am_ (hbox); have n2_ := Am_ ((by rw [hg]; exact (Bz_ (Pb0_ HB.out)) : w.heap.size ≤ gb230)); have n3_ := Am_ ((by rw [hg]; exact (Bz_ (Pb0_ HB.out)) : w.heap.size ≤ gb230)); clear HB; have HB := n0_; have BK230 := n1_; have GW230 := n2_; have GE230 := n3_; clear n0_ n1_ n2_ n3_; clear hb hbox hg) | ((with_reducible refine gate_dst (N := 9) rfl ?_); (try (refine gate_guard (by rfl) ?_; dsimp only)); refine Kd.R_lit (Kd.int .i64) _ 3 ?hg (N := 9) ?hd (xs := ([] : List Int)) (inner := []) (ok := fun _ => True) (okp := fun _ => True) ?hr ?hp (fun _ hk => hk) trivial (Below.refl _ _) (Nat.le_refl _) (by simp) ?_; (case hd => rfl); (case hg => rfl); (case hr => go_simp; try rfl); (case hp => exact (Reps.none _ _)); intro v232 w3 ho4 hb hg_ hnew_; clear hg_ hnew_; (first | rw [← Ny231.out] at ho4 | (simp only [Int.reduceToNat] at ho4; rw [← Ny231.out] at ho4)); have n0_ := Am_ (Kd.R_lower ho4 (Bz_ (Pb1_ HB.out GE230.out))); have n1_ := Am_ (Bb_ (g := gb230) (o := .cells #[.slice A0_0 l0_0.length c0_0, .slice A0_1 l0_1.length c0_1] 31 (0, 0)) (Pk_ BK230.out) hb); have n2_ := Am_ (Be_ (Pb1_ HB.out GE230.out) hb); clear BK230; clear HB; have HO233 := n0_; have BK230 := n1_; have HB := n2_; clear n0_ n1_ n2_; clear hb ho4)); try go_wp2_with (first | ((with_reducible refine gate_dst (N := 1) rfl ?_); (try (refine gate_guard (by rfl) ?_; dsimp only)); refine box_event ?hg (N := 1) ?hd (cs := #[.slice A0_0 l0_0.length c0_0, .slice A0_1 l0_1.length c0_1]) (t := 31) ?hr ?_; (case hd => rfl); (case hg => rfl); (case hr => go_simp; try rfl); intro gb230 hg w2 hbox hb; have n0_ := Am_ (Be_ (Pb0_ HB.out) hb); have n1_ := Am_ (hbox); have n2_ := Am_ ((by rw [hg]; exact (Bz_ (Pb0_ HB.out)) : w.heap.size ≤ gb230)); have n3_ := Am_ ((by rw [hg]; exact (Bz_ (Pb0_ HB.out)) : w.heap.size ≤ gb230)); clear HB; have HB := n0_; have BK230 := n1_; have GW230 := n2_; have GE230 := n3_; clear n0_ n1_ n2_ n3_; clear hb hbox hg) | ((with_reducible refine gate_dst (N := 9) rfl ?_); (try (refine gate_guard (by rfl) ?_; dsimp only)); refine Kd.R_lit (Kd.int .i64) _ 3 ?hg (N := 9) ?hd (xs := ([] : List Int)) (inner := []) (ok := fun _ => True) (okp := fun _ => True) ?hr ?hp (fun _ hk => hk) trivial (Below.refl _ _) (Nat.le_refl _) (by simp) ?_; (case hd => rfl); (case hg => rfl); (case hr => go_simp; try rfl); (case hp => exact (Reps.none _ _)); intro v232 w3 ho4 hb hg_ hnew_; clear hg_ hnew_; (first | rw [← Ny231.out] at ho4 | (simp only [Int.reduceToNat] at ho4; rw [← Ny231.out] at ho4)); have n0_ := Am_ (Kd.R_lower ho4 (Bz_ (Pb1_ HB.out GE230.out))); have n1_ := Am_ (Bb_ (g := gb230) (o := .cells #[.slice A0_0 l0_0.length c0_0, .slice A0_1 l0_1.length c0_1] 31 (0, 0)) (Pk_ BK230.out) hb); have n2_ := Am_ (Be_ (Pb1_ HB.out GE230.out) hb); clear BK230; clear HB; have HO233 := n0_; have BK230 := n1_; have HB := n2_; clear n0_ n1_ n2_; clear hb ho4)))
 go_loopg [3, 4] k (fun kq v3 v4 w' => ∃ (x3_1 : List Int) (x4_1 : Int), v4 = .int .i64 x4_1 ∧ Aside0 (flagstoneref10_Right.l0 kq x3_1 x4_1 l0_0 l0_1 = some r) ∧ Aside0 (kq ≤ k) ∧ Aside0 (Kd.R (Kd.int .i64) 3 w' w.heap.size (fun _ => True) v3 x3_1) ∧ Aside0 (w'.heap[gb230]? = some (.cells #[(.slice A0_0 l0_0.length c0_0), (.slice A0_1 l0_1.length c0_1)] 31 (0, 0))) ∧ Aside0 (Below w.heap.size w w'))
 case atStart => exact ⟨(y231), (0), (by first | rfl | (simp; done) | (simp [*]; done)), H', ⟨Nat.le_refl _⟩, ⟨by (with_reducible repeat (first | apply Ra_ | apply Rn_ | apply Rd_)); exact HO233.out⟩, ⟨by (with_reducible repeat (first | refine Bn_ ?_ _ | refine Bd_ ?_ | refine Ba_ ?_ _)); exact BK230.out⟩, ⟨by repeat (first | (with_reducible first | exact HB.out | apply Pa_ | apply Pn_ | apply Pd_ | refine Bs_ ?_ GE230.out) | exact HB.out)⟩⟩
 case round =>
  clear H'
  try clear c1
  try clear p2
  obtain ⟨x3_1, x4_1, rfl, HA, HK1, HO_3, BK230, HB⟩ := hrel
  cases gk with
  | zero => exact absurd HA.out (by simp [flagstoneref10_Right.l0])
  | succ k1 =>
   have H := HA.out
   clear HA
   simp only [flagstoneref10_Right.l0] at H
   by_cases c5 : x4_1 < (l0_0.length : Int)
   ·rw [if_pos c5] at H
    have c5b0 : decide (x4_1 < (l0_0.length : Int)) = true := Dt_ c5
    clear c5
    by_cases c6 : x3_1.length < 17592186044416
    ·rw [if_pos c6] at H
     have LMc6 := Am_ c6
     clear c6
     obtain ⟨y234, hy234⟩ : ∃ y_ : List Int, y_ = (x3_1 ++ [0]) := ⟨_, rfl⟩
     replace H : (flagstoneref10_Right.l0 k1 y234 (wrap64 (x4_1 + 1)) l0_0 l0_1) = some r := by first | (rw [hy234]; with_reducible exact H) | (have H2_ := (Option.bind_some _ _).symm.trans H; rw [hy234]; with_reducible exact H2_) | (have H2_ := (Option.bind_some _ _).symm.trans H; with_reducible exact H2_) | with_reducible exact H | (rw [hy234]; exact H) | exact H
     have Ny234 := Am_ hy234
     clear hy234
     have H' := Am_ H
     clear H
     obtain ⟨hcz7_0, hcz7_1, hfz7_0, hfz7_1⟩ := Ce2_ BK230.out
     go_wp2_with (first | ((with_reducible refine gate_builtin (b := .append) (xs := #[.tmp 17, .tmp 18]) rfl ?_); (try (refine gate_guard (by rfl) ?_; dsimp only)); at_builtin; refine Kd.R_append (Kd.int .i64) (w0 := w) w.heap.size rfl (.tmp 17) (.tmp 18) 64 3 (.int .i64 0) 8 rfl Try.underlying64 info3 rfl (by decide) (by omega) u3 x3_1 0 [.int .i64 0] (fun _ => True) (fun _ => False) rfl rfl ?aP (fun _ hk => hk.elim) ?aF ?aO ?aB ?aS ?aL ?_; (case aP => exact rfl); (case aB => exact (Pb1_ HB.out GE230.out)); (case aF => exact (fun _ _ => trivial)); (case aO => exact (Px_ HO_3.out)); (case aS => exact (Bz_ (Pb1_ HB.out GE230.out))); (case aL => have := LMc6.out; omega); intro v235 w8 ho hb hg hat; rw [← Ny234.out] at ho; have n0_ := Am_ (Bg_ (g := gb230) (o := .cells #[.slice A0_0 l0_0.length c0_0, .slice A0_1 l0_1.length c0_1] 31 (0, 0)) (Pk_ BK230.out) hg (Kd.R_ne HO_3.out BK230.out (by decide))); have n1_ := Am_ (hb); have n2_ := Am_ (ho); clear BK230; clear HB; clear HO_3; have BK230 := n0_; have HB := n1_; have HO236 := n2_; clear n0_ n1_ n2_; clear ho hb hg hat))
     repeat (go_quiet (first | ((with_reducible refine gate_builtin (b := .append) (xs := #[.tmp 17, .tmp 18]) rfl ?_); (try (refine gate_guard (by rfl) ?_; dsimp only)); at_builtin; refine Kd.R_append (Kd.int .i64) (w0 := w) w.heap.size rfl (.tmp 17) (.tmp 18) 64 3 (.int .i64 0) 8 rfl Try.underlying64 info3 rfl (by decide) (by omega) u3 x3_1 0 [.int .i64 0] (fun _ => True) (fun _ => False) rfl rfl ?aP (fun _ hk => hk.elim) ?aF ?aO ?aB ?aS ?aL ?_; (case aP => exact rfl); (case aB => exact (Pb1_ HB.out GE230.out)); (case aF => exact (fun _ _ => trivial)); (case aO => exact (Px_ HO_3.out)); (case aS => exact (Bz_ (Pb1_ HB.out GE230.out))); (case aL => have := LMc6.out; omega); intro v235 w8 ho hb hg hat; rw [← Ny234.out] at ho; have n0_ := Am_ (Bg_ (g := gb230) (o := .cells #[.slice A0_0 l0_0.length c0_0, .slice A0_1 l0_1.length c0_1] 31 (0, 0)) (Pk_ BK230.out) hg (Kd.R_ne HO_3.out BK230.out (by decide))); have n1_ := Am_ (hb); have n2_ := Am_ (ho); clear BK230; clear HB; clear HO_3; have BK230 := n0_; have HB := n1_; have HO236 := n2_; clear n0_ n1_ n2_; clear ho hb hg hat)); try go_wp2_with (first | ((with_reducible refine gate_builtin (b := .append) (xs := #[.tmp 17, .tmp 18]) rfl ?_); (try (refine gate_guard (by rfl) ?_; dsimp only)); at_builtin; refine Kd.R_append (Kd.int .i64) (w0 := w) w.heap.size rfl (.tmp 17) (.tmp 18) 64 3 (.int .i64 0) 8 rfl Try.underlying64 info3 rfl (by decide) (by omega) u3 x3_1 0 [.int .i64 0] (fun _ => True) (fun _ => False) rfl rfl ?aP (fun _ hk => hk.elim) ?aF ?aO ?aB ?aS ?aL ?_; (case aP => exact rfl); (case aB => exact (Pb1_ HB.out GE230.out)); (case aF => exact (fun _ _ => trivial)); (case aO => exact (Px_ HO_3.out)); (case aS => exact (Bz_ (Pb1_ HB.out GE230.out))); (case aL => have := LMc6.out; omega); intro v235 w8 ho hb hg hat; rw [← Ny234.out] at ho; have n0_ := Am_ (Bg_ (g := gb230) (o := .cells #[.slice A0_0 l0_0.length c0_0, .slice A0_1 l0_1.length c0_1] 31 (0, 0)) (Pk_ BK230.out) hg (Kd.R_ne HO_3.out BK230.out (by decide))); have n1_ := Am_ (hb); have n2_ := Am_ (ho); clear BK230; clear HB; clear HO_3; have BK230 := n0_; have HB := n1_; have HO236 := n2_; clear n0_ n1_ n2_; clear ho hb hg hat)))
     go_roundg k1
     case measure => have := HK1.out; omega
     case rel => exact ⟨(y234), (wrap64 (x4_1 + 1)), (by first | rfl | (simp; done) | (simp [*]; done)), H', ⟨by have := HK1.out; omega⟩, ⟨by (with_reducible repeat (first | apply Ra_ | apply Rn_ | apply Rd_)); exact HO236.out⟩, ⟨by (with_reducible repeat (first | refine Bn_ ?_ _ | refine Bd_ ?_ | refine Ba_ ?_ _)); exact BK230.out⟩, ⟨by repeat (first | (with_reducible first | exact HB.out | apply Pa_ | apply Pn_ | apply Pd_ | refine Bs_ ?_ GE230.out) | exact HB.out)⟩⟩
    ·rw [if_neg c6] at H
     exact absurd H (by simp)
   ·rw [if_neg c5] at H
    have c5b0 : decide (x4_1 < (l0_0.length : Int)) = false := Df_ c5
    clear c5
    have H' := Am_ H
    clear H
    obtain ⟨hcz9_0, hcz9_1, hfz9_0, hfz9_1⟩ := Ce2_ BK230.out
    go_wp2
    repeat (go_quiet (fail); try go_wp2)
    go_loopg [5] k1 (fun kq v5 w' => ∃ (x3_2 : List Int) (x5_2 : Int), v5 = .int .i64 x5_2 ∧ Aside0 (flagstoneref10_Right.l1 kq x3_2 x5_2 l0_0 l0_1 = some r) ∧ Aside0 (kq ≤ k1) ∧ Aside0 (Kd.R (Kd.int .i64) 3 w' w.heap.size (fun _ => True) u3 x3_2) ∧ Aside0 (w'.heap[gb230]? = some (.cells #[(.slice A0_0 l0_0.length c0_0), (.slice A0_1 l0_1.length c0_1)] 31 (0, 0))) ∧ Aside0 (Below w.heap.size w w'))
    case atStart => exact ⟨(x3_1), (0), (by first | rfl | (simp; done) | (simp [*]; done)), H', ⟨Nat.le_refl _⟩, ⟨by (with_reducible repeat (first | apply Ra_ | apply Rn_ | apply Rd_)); exact HO_3.out⟩, ⟨by (with_reducible repeat (first | refine Bn_ ?_ _ | refine Bd_ ?_ | refine Ba_ ?_ _)); exact BK230.out⟩, ⟨by repeat (first | (with_reducible first | exact HB.out | apply Pa_ | apply Pn_ | apply Pd_ | refine Bs_ ?_ GE230.out) | exact HB.out)⟩⟩
    case round =>
     clear H'
     try clear c1
     try clear p2
     try clear c5
     try clear c5b0
     try clear c6
     try clear p6
     try clear hcz7_0
     try clear hcz7_1
     try clear hcz9_0
     try clear hcz9_1
     try clear hfz7_0
     try clear hfz7_1
     try clear hfz9_0
     try clear hfz9_1
     try clear p2
     obtain ⟨x3_2, x5_2, rfl, HA, HK2, HO_3, BK230, HB⟩ := hrel
     cases gk with
     | zero => exact absurd HA.out (by simp [flagstoneref10_Right.l1])
     | succ k2 =>
      have H := HA.out
      clear HA
      simp only [flagstoneref10_Right.l1] at H
      by_cases c10 : x5_2 < (l0_1.length : Int)
      ·rw [if_pos c10] at H
       have c10b0 : decide (x5_2 < (l0_1.length : Int)) = true := Dt_ c10
       clear c10
       by_cases c11 : 0 ≤ x5_2
       ·rw [if_pos c11] at H
        have c11b0 : decide (0 ≤ x5_2) = true := Dt_ c11
        clear c11
        by_cases c12 : ((rd_L1 l0_1 x5_2).length : Int) = 8
        ·rw [if_pos c12] at H
         have c12b0 : (((rd_L1 l0_1 x5_2).length : Int) == 8) = true := beq_iff_eq.mpr c12
         have c12b1 : (((rd_L1 l0_1 x5_2).length : Int) != 8) = false := bne_eq_false_iff_eq.mpr c12
         clear c12
         have H' := Am_ H
         clear H
         obtain ⟨hcz13_0, hcz13_1, hfz13_0, hfz13_1⟩ := Ce2_ BK230.out
         have p237 : 0 ≤ (x5_2 : Int) := Ot_ (by first | (with_reducible assumption) | assumption)
         have q237 : x5_2 < (l0_1.length : Int) := Ot_ (by first | (with_reducible assumption) | assumption)
         obtain ⟨ad237, A237_0, c237_0, e237, hx237_0, hl237_0, hi237_0⟩ := at_L1 HR0_1.out x5_2 p237 q237
         cases e237
         replace hx237_0 := (HB.out.cell (Bl_ w _ hx237_0)).trans hx237_0
         have HR237_0 := Am_ hi237_0
         have HC237_0 := Am_ hl237_0
         clear hi237_0 hl237_0
         replace p237 := eq_true p237
         replace q237 := eq_true q237
         go_wp2
         repeat (go_quiet (fail); try go_wp2)
         go_loopg [6] k2 (fun kq v6 w' => ∃ (x3_3 : List Int) (x6_3 : Int), v6 = .int .i64 x6_3 ∧ Aside0 (flagstoneref10_Right.l2 kq x3_3 x5_2 x6_3 l0_0 l0_1 = some r) ∧ Aside0 (kq ≤ k2) ∧ Aside0 (Kd.R (Kd.int .i64) 3 w' w.heap.size (fun _ => True) u3 x3_3) ∧ Aside0 (w'.heap[gb230]? = some (.cells #[(.slice A0_0 l0_0.length c0_0), (.slice (some ad237) l0_1.length c0_1)] 31 (0, 0))) ∧ Aside0 (Below w.heap.size w w'))
         case atStart => exact ⟨(x3_2), (0), (by first | rfl | (simp; done) | (simp [*]; done)), H', ⟨Nat.le_refl _⟩, ⟨by (with_reducible repeat (first | apply Ra_ | apply Rn_ | apply Rd_)); exact HO_3.out⟩, ⟨by (with_reducible repeat (first | refine Bn_ ?_ _ | refine Bd_ ?_ | refine Ba_ ?_ _)); exact BK230.out⟩, ⟨by repeat (first | (with_reducible first | exact HB.out | apply Pa_ | apply Pn_ | apply Pd_ | refine Bs_ ?_ GE230.out) | exact HB.out)⟩⟩
         case round =>
          clear H'
          try clear c1
          try clear c2
          try clear p2
          try clear q2
          try clear hx2
          try clear c5
          try clear c5b0
          try clear c6
          try clear p6
          try clear c10
          try clear c10b0
          try clear c11
          try clear c11b0
          try clear c12
          try clear c12b0
          try clear c12b1
          try clear c13
          try clear hcz13_0
          try clear hcz13_1
          try clear hcz7_0
          try clear hcz7_1
          try clear hcz9_0
          try clear hcz9_1
          try clear hfz13_0
          try clear hfz13_1
          try clear hfz7_0
          try clear hfz7_1
          try clear hfz9_0
          try clear hfz9_1
          try clear hx237_0
          try clear p2
          try clear p237
          try clear p6
          try clear q237
          obtain ⟨x3_3, x6_3, rfl, HA, HK3, HO_3, BK230, HB⟩ := hrel
          cases gk with
          | zero => exact absurd HA.out (by simp [flagstoneref10_Right.l2])
          | succ k3 =>
           have H := HA.out
           clear HA
           simp only [flagstoneref10_Right.l2] at H
           by_cases c14 : x6_3 < 8
           ·rw [if_pos c14] at H
            have c14b0 : decide (x6_3 < 8) = true := Dt_ c14
            clear c14
            by_cases c15 : 0 ≤ x5_2
            ·rw [if_pos c15] at H
             have c15b0 : decide (0 ≤ x5_2) = true := Dt_ c15
             clear c15
             by_cases c16 : x5_2 < (l0_1.length : Int)
             ·rw [if_pos c16] at H
              have c16b0 : decide (x5_2 < (l0_1.length : Int)) = true := Dt_ c16
              clear c16
              by_cases c17 : 0 ≤ x6_3
              ·rw [if_pos c17] at H
               have c17b0 : decide (0 ≤ x6_3) = true := Dt_ c17
               clear c17
               by_cases c18 : x6_3 < ((rd_L1 l0_1 x5_2).length : Int)
               ·rw [if_pos c18] at H
                have c18b0 : decide (x6_3 < ((rd_L1 l0_1 x5_2).length : Int)) = true := Dt_ c18
                clear c18
                have HC19 := Am_ H
                clear H
                obtain ⟨hcz20_0, hcz20_1, hfz20_0, hfz20_1⟩ := Ce2_ BK230.out
                have p238 : 0 ≤ (x5_2 : Int) := Ot_ (by first | (with_reducible assumption) | assumption)
                have q238 : x5_2 < (l0_1.length : Int) := Ot_ (by first | (with_reducible assumption) | assumption)
                obtain ⟨ad238, A238_0, c238_0, e238, hx238_0, hl238_0, hi238_0⟩ := at_L1 HR0_1.out x5_2 p238 q238
                obtain rfl : ad237 = ad238 := (by injection e238)
                replace hx238_0 := (HB.out.cell (Bl_ w _ hx238_0)).trans hx238_0
                have HR238_0 := Am_ hi238_0
                have HC238_0 := Am_ hl238_0
                clear hi238_0 hl238_0
                replace p238 := eq_true p238
                replace q238 := eq_true q238
                have p239 : 0 ≤ (x6_3 : Int) := Ot_ (by first | (with_reducible assumption) | assumption)
                have q239 : x6_3 < ((rd_L1 l0_1 x5_2).length : Int) := Ot_ (by first | (with_reducible assumption) | assumption)
                obtain ⟨ad239, e239, hx239_0⟩ := Kd.at_int HR238_0.out x6_3 p239 q239
                cases e239
                replace hx239_0 := (HB.out.cell (Bl_ w _ hx239_0)).trans hx239_0
                replace p239 := eq_true p239
                replace q239 := eq_true q239
                go_upto_region 15 with (fail)
                repeat (go_quiet (fail); go_upto_region 15 with (fail))
                go_cut [54] (fun v54 wc => ∃ (kq : Nat) (x54_18 : Bool), v54 = .bool x54_18 ∧ Aside0 (flagstoneref10_Right.j3 kq x3_3 x5_2 x6_3 (rd (rd_L1 l0_1 x5_2) x6_3) x54_18 l0_0 l0_1 = some r) ∧ Aside0 (kq ≤ k3) ∧ Aside0 (Kd.R (Kd.int .i64) 3 wc w.heap.size (fun _ => True) u3 x3_3) ∧ Aside0 (wc.heap[gb230]? = some (.cells #[(.slice A0_0 l0_0.length c0_0), (.slice (some ad237) l0_1.length c0_1)] 31 (0, 0))) ∧ Aside0 (Below w.heap.size w wc))
                case first =>
                 have H := HC19.out
                 clear HC19
                 by_cases c21 : (rd (rd_L1 l0_1 x5_2) x6_3) < (-1)
                 ·rw [if_pos c21] at H
                  have c21b0 : decide ((rd (rd_L1 l0_1 x5_2) x6_3) < (-1)) = true := Dt_ c21
                  clear c21
                  (first | rw [c21b0] | (simp only [i64_w, i32_w]; rw [c21b0]) | skip)
                  have H' := Am_ H
                  clear H
                  go_wp2
                  repeat (go_quiet (fail); try go_wp2)
                  go_meet
                  case rel => exact ⟨_, (true), (by first | rfl | (simp; done) | (simp [*]; done)), H', ⟨by have := HK1.out; have := HK2.out; have := HK3.out; first | omega | exact Nat.le_refl _⟩, ⟨by (with_reducible repeat (first | apply Ra_ | apply Rn_ | apply Rd_)); exact HO_3.out⟩, ⟨by (with_reducible repeat (first | refine Bn_ ?_ _ | refine Bd_ ?_ | refine Ba_ ?_ _)); exact BK230.out⟩, ⟨by repeat (first | (with_reducible first | exact HB.out | apply Pa_ | apply Pn_ | apply Pd_ | refine Bs_ ?_ GE230.out) | exact HB.out)⟩⟩
                 ·rw [if_neg c21] at H
                  have c21b0 : decide ((rd (rd_L1 l0_1 x5_2) x6_3) < (-1)) = false := Df_ c21
                  clear c21
                  (first | rw [c21b0] | (simp only [i64_w, i32_w]; rw [c21b0]) | skip)
                  have H' := Am_ H
                  clear H
                  obtain ⟨hcz22_0, hcz22_1, hfz22_0, hfz22_1⟩ := Ce2_ BK230.out
                  go_wp2
                  repeat (go_quiet (fail); try go_wp2)
                  go_meet
                  case rel => exact ⟨_, (decide ((rd (rd_L1 l0_1 x5_2) x6_3) ≥ (l0_0.length : Int))), (by first | rfl | (simp; done) | (simp [*]; done)), H', ⟨by have := HK1.out; have := HK2.out; have := HK3.out; first | omega | exact Nat.le_refl _⟩, ⟨by (with_reducible repeat (first | apply Ra_ | apply Rn_ | apply Rd_)); exact HO_3.out⟩, ⟨by (with_reducible repeat (first | refine Bn_ ?_ _ | refine Bd_ ?_ | refine Ba_ ?_ _)); exact BK230.out⟩, ⟨by repeat (first | (with_reducible first | exact HB.out | apply Pa_ | apply Pn_ | apply Pd_ | refine Bs_ ?_ GE230.out) | exact HB.out)⟩⟩
                case rest =>
                 clear HC19
                 try clear c1
                 try clear c2
                 try clear p2
                 try clear q2
                 try clear hx2
                 try clear c5
                 try clear c5b0
                 try clear c6
                 try clear p6
                 try clear c10
                 try clear c10b0
                 try clear c11
                 try clear c11b0
                 try clear c12
                 try clear c12b0
                 try clear c12b1
                 try clear c13
                 try clear c14
                 try clear c14b0
                 try clear c15
                 try clear c15b0
                 try clear c16
                 try clear c16b0
                 try clear c17
                 try clear c17b0
                 try clear c18
                 try clear c18b0
                 try clear c21
                 try clear c21b0
                 try clear hcz13_0
                 try clear hcz13_1
                 try clear hcz20_0
                 try clear hcz20_1
                 try clear hcz22_0
                 try clear hcz22_1
                 try clear hcz7_0
                 try clear hcz7_1
                 try clear hcz9_0
                 try clear hcz9_1
                 try clear hfz13_0
                 try clear hfz13_1
                 try clear hfz20_0
                 try clear hfz20_1
                 try clear hfz22_0
                 try clear hfz22_1
                 try clear hfz7_0
                 try clear hfz7_1
                 try clear hfz9_0
                 try clear hfz9_1
                 try clear hx237_0
                 try clear hx238_0
                 try clear hx239_0
                 try clear p2
                 try clear p237
                 try clear p238
                 try clear p239
                 try clear p6
                 try clear q2
                 try clear q237
                 try clear q238
                 try clear q239
                 obtain ⟨kq, x54_18, rfl, HA, HJ18, HO_3, BK230, HB⟩ := hcut
                 cases kq with
                 | zero => exact absurd HA.out (by simp [flagstoneref10_Right.j3])
                 | succ kj18 =>
                  have H := HA.out
                  clear HA
                  simp only [flagstoneref10_Right.j3] at H
                  by_cases c23 : x54_18 = true
                  ·subst c23
                   have H1 : (some false) = some r := by rw [if_pos rfl] at H; exact H
                   clear H
                   have H := H1
                   clear H1
                   obtain rfl := Option.some.inj H
                   go_wp2
                   repeat (go_quiet (fail); try go_wp2)
                   go_ret
                   exact ⟨by first | rfl | (simp [errW_none, errW_some] <;> rfl) | (simp [*, errW_none, errW_some] <;> rfl), by repeat (first | (with_reducible first | exact HB.out | apply Pa_ | apply Pn_ | apply Pd_ | refine Bs_ ?_ GE230.out) | exact HB.out)⟩
                  ·replace c23 := Bool.eq_false_iff.mpr c23
                   subst c23
                   have H1 : (if (rd (rd_L1 l0_1 x5_2) x6_3) ≥ 0 then (if 0 ≤ (rd (rd_L1 l0_1 x5_2) x6_3) then (if (rd (rd_L1 l0_1 x5_2) x6_3) < (x3_3.length : Int) then (flagstoneref10_Right.l2 kj18 (x3_3.set ((rd (rd_L1 l0_1 x5_2) x6_3) : Int).toNat (wrap64 ((rd x3_3 (rd (rd_L1 l0_1 x5_2) x6_3)) + 1))) x5_2 (wrap64 (x6_3 + 1)) l0_0 l0_1) else (none)) else (none)) else (flagstoneref10_Right.l2 kj18 x3_3 x5_2 (wrap64 (x6_3 + 1)) l0_0 l0_1)) = some r := by rw [if_neg (show ¬ (false = true) by decide)] at H; exact H
                   clear H
                   have H := H1
                   clear H1
                   by_cases c24 : (rd (rd_L1 l0_1 x5_2) x6_3) ≥ 0
                   ·rw [if_pos c24] at H
                    have c24b0 : decide (0 ≤ (rd (rd_L1 l0_1 x5_2) x6_3)) = true := Dt_ c24
                    clear c24
                    by_cases c25 : 0 ≤ (rd (rd_L1 l0_1 x5_2) x6_3)
                    ·rw [if_pos c25] at H
                     have c25b0 : decide (0 ≤ (rd (rd_L1 l0_1 x5_2) x6_3)) = true := Dt_ c25
                     clear c25
                     by_cases c26 : (rd (rd_L1 l0_1 x5_2) x6_3) < (x3_3.length : Int)
                     ·rw [if_pos c26] at H
                      have c26b0 : decide ((rd (rd_L1 l0_1 x5_2) x6_3) < (x3_3.length : Int)) = true := Dt_ c26
                      clear c26
                      obtain ⟨y241, hy241⟩ : ∃ y_ : List Int, y_ = (x3_3.set ((rd (rd_L1 l0_1 x5_2) x6_3) : Int).toNat (wrap64 ((rd x3_3 (rd (rd_L1 l0_1 x5_2) x6_3)) + 1))) := ⟨_, rfl⟩
                      replace H : (flagstoneref10_Right.l2 kj18 y241 x5_2 (wrap64 (x6_3 + 1)) l0_0 l0_1) = some r := by first | (rw [hy241]; with_reducible exact H) | (have H2_ := (Option.bind_some _ _).symm.trans H; rw [hy241]; with_reducible exact H2_) | (have H2_ := (Option.bind_some _ _).symm.trans H; with_reducible exact H2_) | with_reducible exact H | (rw [hy241]; exact H) | exact H
                      have Ny241 := Am_ hy241
                      clear hy241
                      have H' := Am_ H
                      clear H
                      obtain ⟨Ao28, co28, eo28⟩ := Kd.R_slice HO_3.out
                      subst eo28
                      have p240 : 0 ≤ ((rd (rd_L1 l0_1 x5_2) x6_3) : Int) := Ot_ (by first | (with_reducible assumption) | assumption)
                      have q240 : (rd (rd_L1 l0_1 x5_2) x6_3) < (x3_3.length : Int) := Ot_ (by first | (with_reducible assumption) | assumption)
                      obtain ⟨ad240, e240, hx240_0⟩ := Kd.at_int (Kd.R_reads' HO_3.out).2.2 (rd (rd_L1 l0_1 x5_2) x6_3) p240 q240
                      cases e240
                      replace p240 := eq_true p240
                      replace q240 := eq_true q240
                      have p27 : 0 ≤ ((rd (rd_L1 l0_1 x5_2) x6_3) : Int) := Ot_ (by first | (with_reducible assumption) | assumption)
                      have q27 : ((rd (rd_L1 l0_1 x5_2) x6_3) : Int) < ((x3_3.length : Int) : Int) := Ot_ (by first | (with_reducible assumption) | assumption)
                      obtain ⟨go27, co27, eo27, gb27, gl27, cl27, HG27⟩ := Kd.R_form HO_3.out (by omega)
                      (first | cases eo27 | (injection eo27 with ea_ en_ ec_; (first | subst ea_ | (injection ea_ with ea_; subst ea_)); subst ec_; clear en_))
                      have GB27 := Am_ gb27
                      have GG27 := Am_ HG27
                      clear gb27 gl27 HG27
                      (first | simp only [add_plain] at hx240_0 | skip)
                      obtain ⟨hx27_0, hf27_0⟩ := Kd.R_celln 0 HO_3.out ((rd (rd_L1 l0_1 x5_2) x6_3) : Int) p27 q27
                      replace p27 := eq_true p27
                      replace q27 := eq_true q27
                      have HP29 := Kd.R_putg HO_3.out ((rd (rd_L1 l0_1 x5_2) x6_3) : Int) (wrap64 ((rd x3_3 (rd (rd_L1 l0_1 x5_2) x6_3)) + 1))
                      go_wp2_with (first | ((with_reducible refine gate_store (t := 3) (p := 62) rfl ?_); (try (rw [drewN_self wc]; generalize hq_ : World.drewN wc _ = wc; have n0_ := Am_ (Kd.R_at hq_ HO_3.out); have n1_ := Am_ (blk_at hq_ BK230.out); have n2_ := Am_ (below_at hq_ HB.out); clear hq_ HO_3 BK230 HB; have HO_3 := n0_; have BK230 := n1_; have HB := n2_; clear n0_ n1_ n2_; (try (have HP29 := Kd.R_putg HO_3.out ((rd (rd_L1 l0_1 x5_2) x6_3) : Int) (wrap64 ((rd x3_3 (rd (rd_L1 l0_1 x5_2) x6_3)) + 1)))))); refine store_event (t := 3) (p := 62) (v := ?vo_w30) (w1 := (wc.setCell ⟨go27, ((rd (rd_L1 l0_1 x5_2) x6_3) : Int).toNat, none⟩ (.int .i64 (wrap64 ((rd x3_3 (rd (rd_L1 l0_1 x5_2) x6_3)) + 1))))) ?hg ?ho ?hn ?hr ?_; (case ho => rfl); (case hg => rfl); (case hn => rfl); (case hr => go_simp; try rfl); intro w30 hw; have hg : wc.grownBy w30 (some go27) := (by rw [hw]; exact HP29.2); have hp_ : Kd.R (Kd.int .i64) 3 w30 w.heap.size (fun _ => True) (.slice (some ⟨go27, 0, none⟩) x3_3.length co28) y241 := (by rw [hw, Ny241.out]; exact HP29.1); clear HP29; have n0_ := Am_ (hp_); have n1_ := Am_ (Bg_ (g := gb230) (o := .cells #[.slice A0_0 l0_0.length c0_0, .slice (some ad237) l0_1.length c0_1] 31 (0, 0)) (Pk_ BK230.out) hg (Kd.R_ne HO_3.out BK230.out (by decide))); have n2_ := Am_ ((by rw [hw]; exact Bs_ (HB.out) GB27.out : Below w.heap.size w w30)); clear HO_3; clear BK230; clear HB; have HO_3 := n0_; have BK230 := n1_; have HB := n2_; clear n0_ n1_ n2_; clear hg hw hp_))
                      repeat (go_quiet (first | ((with_reducible refine gate_store (t := 3) (p := 62) rfl ?_); (try (rw [drewN_self wc]; generalize hq_ : World.drewN wc _ = wc; have n0_ := Am_ (Kd.R_at hq_ HO_3.out); have n1_ := Am_ (blk_at hq_ BK230.out); have n2_ := Am_ (below_at hq_ HB.out); clear hq_ HO_3 BK230 HB; have HO_3 := n0_; have BK230 := n1_; have HB := n2_; clear n0_ n1_ n2_; (try (have HP29 := Kd.R_putg HO_3.out ((rd (rd_L1 l0_1 x5_2) x6_3) : Int) (wrap64 ((rd x3_3 (rd (rd_L1 l0_1 x5_2) x6_3)) + 1)))))); refine store_event (t := 3) (p := 62) (v := ?vo_w30) (w1 := (wc.setCell ⟨go27, ((rd (rd_L1 l0_1 x5_2) x6_3) : Int).toNat, none⟩ (.int .i64 (wrap64 ((rd x3_3 (rd (rd_L1 l0_1 x5_2) x6_3)) + 1))))) ?hg ?ho ?hn ?hr ?_; (case ho => rfl); (case hg => rfl); (case hn => rfl); (case hr => go_simp; try rfl); intro w30 hw; have hg : wc.grownBy w30 (some go27) := (by rw [hw]; exact HP29.2); have hp_ : Kd.R (Kd.int .i64) 3 w30 w.heap.size (fun _ => True) (.slice (some ⟨go27, 0, none⟩) x3_3.length co28) y241 := (by rw [hw, Ny241.out]; exact HP29.1); clear HP29; have n0_ := Am_ (hp_); have n1_ := Am_ (Bg_ (g := gb230) (o := .cells #[.slice A0_0 l0_0.length c0_0, .slice (some ad237) l0_1.length c0_1] 31 (0, 0)) (Pk_ BK230.out) hg (Kd.R_ne HO_3.out BK230.out (by decide))); have n2_ := Am_ ((by rw [hw]; exact Bs_ (HB.out) GB27.out : Below w.heap.size w w30)); clear HO_3; clear BK230; clear HB; have HO_3 := n0_; have BK230 := n1_; have HB := n2_; clear n0_ n1_ n2_; clear hg hw hp_)); try go_wp2_with (first | ((with_reducible refine gate_store (t := 3) (p := 62) rfl ?_); (try (rw [drewN_self wc]; generalize hq_ : World.drewN wc _ = wc; have n0_ := Am_ (Kd.R_at hq_ HO_3.out); have n1_ := Am_ (blk_at hq_ BK230.out); have n2_ := Am_ (below_at hq_ HB.out); clear hq_ HO_3 BK230 HB; have HO_3 := n0_; have BK230 := n1_; have HB := n2_; clear n0_ n1_ n2_; (try (have HP29 := Kd.R_putg HO_3.out ((rd (rd_L1 l0_1 x5_2) x6_3) : Int) (wrap64 ((rd x3_3 (rd (rd_L1 l0_1 x5_2) x6_3)) + 1)))))); refine store_event (t := 3) (p := 62) (v := ?vo_w30) (w1 := (wc.setCell ⟨go27, ((rd (rd_L1 l0_1 x5_2) x6_3) : Int).toNat, none⟩ (.int .i64 (wrap64 ((rd x3_3 (rd (rd_L1 l0_1 x5_2) x6_3)) + 1))))) ?hg ?ho ?hn ?hr ?_; (case ho => rfl); (case hg => rfl); (case hn => rfl); (case hr => go_simp; try rfl); intro w30 hw; have hg : wc.grownBy w30 (some go27) := (by rw [hw]; exact HP29.2); have hp_ : Kd.R (Kd.int .i64) 3 w30 w.heap.size (fun _ => True) (.slice (some ⟨go27, 0, none⟩) x3_3.length co28) y241 := (by rw [hw, Ny241.out]; exact HP29.1); clear HP29; have n0_ := Am_ (hp_); have n1_ := Am_ (Bg_ (g := gb230) (o := .cells #[.slice A0_0 l0_0.length c0_0, .slice (some ad237) l0_1.length c0_1] 31 (0, 0)) (Pk_ BK230.out) hg (Kd.R_ne HO_3.out BK230.out (by decide))); have n2_ := Am_ ((by rw [hw]; exact Bs_ (HB.out) GB27.out : Below w.heap.size w w30)); clear HO_3; clear BK230; clear HB; have HO_3 := n0_; have BK230 := n1_; have HB := n2_; clear n0_ n1_ n2_; clear hg hw hp_)))
                      go_roundg kj18
                      case measure => have := HK1.out; have := HK2.out; have := HK3.out; have := HJ18.out; omega
                      case rel => exact ⟨(y241), (wrap64 (x6_3 + 1)), (by first | rfl | (simp; done) | (simp [*]; done)), H', ⟨by have := HK1.out; have := HK2.out; have := HK3.out; have := HJ18.out; omega⟩, ⟨by (with_reducible repeat (first | apply Ra_ | apply Rn_ | apply Rd_)); exact HO_3.out⟩, ⟨by (with_reducible repeat (first | refine Bn_ ?_ _ | refine Bd_ ?_ | refine Ba_ ?_ _)); exact BK230.out⟩, ⟨by repeat (first | (with_reducible first | exact HB.out | apply Pa_ | apply Pn_ | apply Pd_ | refine Bs_ ?_ GE230.out) | exact HB.out)⟩⟩
                     ·rw [if_neg c26] at H
                      exact absurd H (by simp)
                    ·rw [if_neg c25] at H
                     exact absurd H (by simp)
                   ·rw [if_neg c24] at H
                    have c24b0 : decide (0 ≤ (rd (rd_L1 l0_1 x5_2) x6_3)) = false := Df_ c24
                    clear c24
                    have H' := Am_ H
                    clear H
                    go_wp2
                    repeat (go_quiet (fail); try go_wp2)
                    go_roundg kj18
                    case measure => have := HK1.out; have := HK2.out; have := HK3.out; have := HJ18.out; omega
                    case rel => exact ⟨(x3_3), (wrap64 (x6_3 + 1)), (by first | rfl | (simp; done) | (simp [*]; done)), H', ⟨by have := HK1.out; have := HK2.out; have := HK3.out; have := HJ18.out; omega⟩, ⟨by (with_reducible repeat (first | apply Ra_ | apply Rn_ | apply Rd_)); exact HO_3.out⟩, ⟨by (with_reducible repeat (first | refine Bn_ ?_ _ | refine Bd_ ?_ | refine Ba_ ?_ _)); exact BK230.out⟩, ⟨by repeat (first | (with_reducible first | exact HB.out | apply Pa_ | apply Pn_ | apply Pd_ | refine Bs_ ?_ GE230.out) | exact HB.out)⟩⟩
               ·rw [if_neg c18] at H
                exact absurd H (by simp)
              ·rw [if_neg c17] at H
               exact absurd H (by simp)
             ·rw [if_neg c16] at H
              exact absurd H (by simp)
            ·rw [if_neg c15] at H
             exact absurd H (by simp)
           ·rw [if_neg c14] at H
            have c14b0 : decide (x6_3 < 8) = false := Df_ c14
            clear c14
            have H' := Am_ H
            clear H
            go_wp2
            repeat (go_quiet (fail); try go_wp2)
            go_roundg k3
            case measure => have := HK1.out; have := HK2.out; have := HK3.out; omega
            case rel => exact ⟨(x3_3), (wrap64 (x5_2 + 1)), (by first | rfl | (simp; done) | (simp [*]; done)), H', ⟨by have := HK1.out; have := HK2.out; have := HK3.out; omega⟩, ⟨by (with_reducible repeat (first | apply Ra_ | apply Rn_ | apply Rd_)); exact HO_3.out⟩, ⟨by (with_reducible repeat (first | refine Bn_ ?_ _ | refine Bd_ ?_ | refine Ba_ ?_ _)); exact BK230.out⟩, ⟨by repeat (first | (with_reducible first | exact HB.out | apply Pa_ | apply Pn_ | apply Pd_ | refine Bs_ ?_ GE230.out) | exact HB.out)⟩⟩
        ·rw [if_neg c12] at H
         have c12b0 : (((rd_L1 l0_1 x5_2).length : Int) == 8) = false := beq_eq_false_iff_ne.mpr c12
         have c12b1 : (((rd_L1 l0_1 x5_2).length : Int) != 8) = true := bne_iff_ne.mpr c12
         obtain rfl := Option.some.inj H
         obtain ⟨hcz31_0, hcz31_1, hfz31_0, hfz31_1⟩ := Ce2_ BK230.out
         have p237 : 0 ≤ (x5_2 : Int) := Ot_ (by first | (with_reducible assumption) | assumption)
         have q237 : x5_2 < (l0_1.length : Int) := Ot_ (by first | (with_reducible assumption) | assumption)
         obtain ⟨ad237, A237_0, c237_0, e237, hx237_0, hl237_0, hi237_0⟩ := at_L1 HR0_1.out x5_2 p237 q237
         cases e237
         replace hx237_0 := (HB.out.cell (Bl_ w _ hx237_0)).trans hx237_0
         have HR237_0 := Am_ hi237_0
         have HC237_0 := Am_ hl237_0
         clear hi237_0 hl237_0
         replace p237 := eq_true p237
         replace q237 := eq_true q237
         go_wp2
         repeat (go_quiet (fail); try go_wp2)
         go_ret
         exact ⟨by first | rfl | (simp [errW_none, errW_some] <;> rfl) | (simp [*, errW_none, errW_some] <;> rfl), by repeat (first | (with_reducible first | exact HB.out | apply Pa_ | apply Pn_ | apply Pd_ | refine Bs_ ?_ GE230.out) | exact HB.out)⟩
       ·rw [if_neg c11] at H
        exact absurd H (by simp)
      ·rw [if_neg c10] at H
       have c10b0 : decide (x5_2 < (l0_1.length : Int)) = false := Df_ c10
       clear c10
       have H' := Am_ H
       clear H
       obtain ⟨hcz32_0, hcz32_1, hfz32_0, hfz32_1⟩ := Ce2_ BK230.out
       go_wp2
       repeat (go_quiet (fail); try go_wp2)
       go_loopg [8] k2 (fun kq v8 w' => ∃ (x8_3 : Int), v8 = .int .i64 x8_3 ∧ Aside0 (flagstoneref10_Right.l3 kq x3_2 x8_3 l0_0 l0_1 = some r) ∧ Aside0 (kq ≤ k2) ∧ Aside0 (Kd.R (Kd.int .i64) 3 w' w.heap.size (fun _ => True) u3 x3_2) ∧ Aside0 (w'.heap[gb230]? = some (.cells #[(.slice A0_0 l0_0.length c0_0), (.slice A0_1 l0_1.length c0_1)] 31 (0, 0))) ∧ Aside0 (Below w.heap.size w w'))
       case atStart => exact ⟨(0), (by first | rfl | (simp; done) | (simp [*]; done)), H', ⟨Nat.le_refl _⟩, ⟨by (with_reducible repeat (first | apply Ra_ | apply Rn_ | apply Rd_)); exact HO_3.out⟩, ⟨by (with_reducible repeat (first | refine Bn_ ?_ _ | refine Bd_ ?_ | refine Ba_ ?_ _)); exact BK230.out⟩, ⟨by repeat (first | (with_reducible first | exact HB.out | apply Pa_ | apply Pn_ | apply Pd_ | refine Bs_ ?_ GE230.out) | exact HB.out)⟩⟩
       case round =>
        clear H'
        try clear c1
        try clear c2
        try clear p2
        try clear q2
        try clear hx2
        try clear hf2
        try clear c5
        try clear c5b0
        try clear c6
        try clear p6
        try clear c10
        try clear c10b0
        try clear c11
        try clear c11b0
        try clear c12
        try clear c12b0
        try clear c12b1
        try clear c13
        try clear c14
        try clear c14b0
        try clear c15
        try clear c15b0
        try clear c16
        try clear c16b0
        try clear c17
        try clear c17b0
        try clear c18
        try clear c18b0
        try clear c21
        try clear c21b0
        try clear c23
        try clear p23
        try clear q23
        try clear hx23
        try clear c24
        try clear c24b0
        try clear p24
        try clear q24
        try clear hx24
        try clear c25
        try clear c25b0
        try clear c26
        try clear c26b0
        try clear p27
        try clear q27
        try clear hx27
        try clear hf27
        try clear hcz13_0
        try clear hcz13_1
        try clear hcz20_0
        try clear hcz20_1
        try clear hcz22_0
        try clear hcz22_1
        try clear hcz31_0
        try clear hcz31_1
        try clear hcz32_0
        try clear hcz32_1
        try clear hcz7_0
        try clear hcz7_1
        try clear hcz9_0
        try clear hcz9_1
        try clear hfz13_0
        try clear hfz13_1
        try clear hfz20_0
        try clear hfz20_1
        try clear hfz22_0
        try clear hfz22_1
        try clear hfz31_0
        try clear hfz31_1
        try clear hfz32_0
        try clear hfz32_1
        try clear hfz7_0
        try clear hfz7_1
        try clear hfz9_0
        try clear hfz9_1
        try clear hx237_0
        try clear hx238_0
        try clear hx239_0
        try clear hx240_0
        try clear hx27_0
        try clear p2
        try clear p237
        try clear p238
        try clear p239
        try clear p240
        try clear p27
        try clear p6
        try clear q2
        try clear q237
        try clear q238
        try clear q239
        try clear q240
        try clear q27
        obtain ⟨x8_3, rfl, HA, HK3, HO_3, BK230, HB⟩ := hrel
        cases gk with
        | zero => exact absurd HA.out (by simp [flagstoneref10_Right.l3])
        | succ k3 =>
         have H := HA.out
         clear HA
         simp only [flagstoneref10_Right.l3] at H
         by_cases c33 : x8_3 < (l0_0.length : Int)
         ·rw [if_pos c33] at H
          have c33b0 : decide (x8_3 < (l0_0.length : Int)) = true := Dt_ c33
          clear c33
          by_cases c34 : 0 ≤ x8_3
          ·rw [if_pos c34] at H
           have c34b0 : decide (0 ≤ x8_3) = true := Dt_ c34
           clear c34
           by_cases c35 : x8_3 < (x3_2.length : Int)
           ·rw [if_pos c35] at H
            have c35b0 : decide (x8_3 < (x3_2.length : Int)) = true := Dt_ c35
            clear c35
            by_cases c36 : ((rd_T54 l0_0 x8_3).f4) = (rd x3_2 x8_3)
            ·rw [if_pos c36] at H
             have c36b0 : (((rd_T54 l0_0 x8_3).f4) == (rd x3_2 x8_3)) = true := beq_iff_eq.mpr c36
             have c36b1 : (((rd_T54 l0_0 x8_3).f4) != (rd x3_2 x8_3)) = false := bne_eq_false_iff_eq.mpr c36
             clear c36
             by_cases c37 : (rd x3_2 x8_3) = 0
             ·rw [if_pos c37] at H
              have c37b0 : ((rd x3_2 x8_3) == 0) = true := beq_iff_eq.mpr c37
              have c37b1 : ((rd x3_2 x8_3) != 0) = false := bne_eq_false_iff_eq.mpr c37
              clear c37
              by_cases c38 : (!(((rd_T54 l0_0 x8_3).f0) == 0) || (!(((rd_T54 l0_0 x8_3).f1) == 0) || (((rd_T54 l0_0 x8_3).f2) || (((rd_T54 l0_0 x8_3).f3) || (!(((rd_T54 l0_0 x8_3).f4) == 0) || (!(((rd_T54 l0_0 x8_3).f5) == 0))))))) = true
              ·rw [if_pos c38] at H
               have c38b0 : (!(((rd_T54 l0_0 x8_3).f0) == 0) || (!(((rd_T54 l0_0 x8_3).f1) == 0) || (((rd_T54 l0_0 x8_3).f2) || (((rd_T54 l0_0 x8_3).f3) || (!(((rd_T54 l0_0 x8_3).f4) == 0) || (!(((rd_T54 l0_0 x8_3).f5) == 0))))))) = true := c38
               clear c38
               obtain rfl := Option.some.inj H
               obtain ⟨hcz39_0, hcz39_1, hfz39_0, hfz39_1⟩ := Ce2_ BK230.out
               have p242 : 0 ≤ (x8_3 : Int) := Ot_ (by first | (with_reducible assumption) | assumption)
               have q242 : x8_3 < (l0_0.length : Int) := Ot_ (by first | (with_reducible assumption) | assumption)
               obtain ⟨ad242, e242, hx242_0, hx242_1, hx242_2, hx242_3, hx242_4, hx242_5⟩ := at_T54 HR0_0.out x8_3 p242 q242
               cases e242
               replace hx242_0 := (HB.out.cell (Bl_ w _ hx242_0)).trans hx242_0
               replace hx242_1 := (HB.out.cell (Bl_ w _ hx242_1)).trans hx242_1
               replace hx242_2 := (HB.out.cell (Bl_ w _ hx242_2)).trans hx242_2
               replace hx242_3 := (HB.out.cell (Bl_ w _ hx242_3)).trans hx242_3
               replace hx242_4 := (HB.out.cell (Bl_ w _ hx242_4)).trans hx242_4
               replace hx242_5 := (HB.out.cell (Bl_ w _ hx242_5)).trans hx242_5
               replace p242 := eq_true p242
               replace q242 := eq_true q242
               obtain ⟨Ao40, co40, eo40⟩ := Kd.R_slice HO_3.out
               subst eo40
               have p243 : 0 ≤ (x8_3 : Int) := Ot_ (by first | (with_reducible assumption) | assumption)
               have q243 : x8_3 < (x3_2.length : Int) := Ot_ (by first | (with_reducible assumption) | assumption)
               obtain ⟨ad243, e243, hx243_0⟩ := Kd.at_int (Kd.R_reads' HO_3.out).2.2 x8_3 p243 q243
               cases e243
               replace p243 := eq_true p243
               replace q243 := eq_true q243
               have p244 : 0 ≤ (x8_3 : Int) := Ot_ (by first | (with_reducible assumption) | assumption)
               have q244 : x8_3 < (x3_2.length : Int) := Ot_ (by first | (with_reducible assumption) | assumption)
               obtain ⟨ad244, e244, hx244_0⟩ := Kd.at_int (Kd.R_reads' HO_3.out).2.2 x8_3 p244 q244
               obtain rfl : ad243 = ad244 := (by injection e244)
               replace p244 := eq_true p244
               replace q244 := eq_true q244
               have p245 : 0 ≤ (x8_3 : Int) := Ot_ (by first | (with_reducible assumption) | assumption)
               have q245 : x8_3 < (l0_0.length : Int) := Ot_ (by first | (with_reducible assumption) | assumption)
               obtain ⟨ad245, e245, hx245_0, hx245_1, hx245_2, hx245_3, hx245_4, hx245_5⟩ := at_T54 HR0_0.out x8_3 p245 q245
               obtain rfl : ad242 = ad245 := (by injection e245)
               replace hx245_0 := (HB.out.cell (Bl_ w _ hx245_0)).trans hx245_0
               replace hx245_1 := (HB.out.cell (Bl_ w _ hx245_1)).trans hx245_1
               replace hx245_2 := (HB.out.cell (Bl_ w _ hx245_2)).trans hx245_2
               replace hx245_3 := (HB.out.cell (Bl_ w _ hx245_3)).trans hx245_3
               replace hx245_4 := (HB.out.cell (Bl_ w _ hx245_4)).trans hx245_4
               replace hx245_5 := (HB.out.cell (Bl_ w _ hx245_5)).trans hx245_5
               replace p245 := eq_true p245
               replace q245 := eq_true q245
               go_wp2
               repeat (go_quiet (fail); try go_wp2)
               go_ret
               exact ⟨by first | rfl | (simp [errW_none, errW_some] <;> rfl) | (simp [*, errW_none, errW_some] <;> rfl), by repeat (first | (with_reducible first | exact HB.out | apply Pa_ | apply Pn_ | apply Pd_ | refine Bs_ ?_ GE230.out) | exact HB.out)⟩
              ·rw [if_neg c38] at H
               have c38b0 : (!(((rd_T54 l0_0 x8_3).f0) == 0) || (!(((rd_T54 l0_0 x8_3).f1) == 0) || (((rd_T54 l0_0 x8_3).f2) || (((rd_T54 l0_0 x8_3).f3) || (!(((rd_T54 l0_0 x8_3).f4) == 0) || (!(((rd_T54 l0_0 x8_3).f5) == 0))))))) = false := by simpa using c38
               clear c38
               have H' := Am_ H
               clear H
               obtain ⟨hcz41_0, hcz41_1, hfz41_0, hfz41_1⟩ := Ce2_ BK230.out
               have p242 : 0 ≤ (x8_3 : Int) := Ot_ (by first | (with_reducible assumption) | assumption)
               have q242 : x8_3 < (l0_0.length : Int) := Ot_ (by first | (with_reducible assumption) | assumption)
               obtain ⟨ad242, e242, hx242_0, hx242_1, hx242_2, hx242_3, hx242_4, hx242_5⟩ := at_T54 HR0_0.out x8_3 p242 q242
               cases e242
               replace hx242_0 := (HB.out.cell (Bl_ w _ hx242_0)).trans hx242_0
               replace hx242_1 := (HB.out.cell (Bl_ w _ hx242_1)).trans hx242_1
               replace hx242_2 := (HB.out.cell (Bl_ w _ hx242_2)).trans hx242_2
               replace hx242_3 := (HB.out.cell (Bl_ w _ hx242_3)).trans hx242_3
               replace hx242_4 := (HB.out.cell (Bl_ w _ hx242_4)).trans hx242_4
               replace hx242_5 := (HB.out.cell (Bl_ w _ hx242_5)).trans hx242_5
               replace p242 := eq_true p242
               replace q242 := eq_true q242
               obtain ⟨Ao42, co42, eo42⟩ := Kd.R_slice HO_3.out
               subst eo42
               have p243 : 0 ≤ (x8_3 : Int) := Ot_ (by first | (with_reducible assumption) | assumption)
               have q243 : x8_3 < (x3_2.length : Int) := Ot_ (by first | (with_reducible assumption) | assumption)
               obtain ⟨ad243, e243, hx243_0⟩ := Kd.at_int (Kd.R_reads' HO_3.out).2.2 x8_3 p243 q243
               cases e243
               replace p243 := eq_true p243
               replace q243 := eq_true q243
               have p244 : 0 ≤ (x8_3 : Int) := Ot_ (by first | (with_reducible assumption) | assumption)
               have q244 : x8_3 < (x3_2.length : Int) := Ot_ (by first | (with_reducible assumption) | assumption)
               obtain ⟨ad244, e244, hx244_0⟩ := Kd.at_int (Kd.R_reads' HO_3.out).2.2 x8_3 p244 q244
               obtain rfl : ad243 = ad244 := (by injection e244)
               replace p244 := eq_true p244
               replace q244 := eq_true q244
               have p245 : 0 ≤ (x8_3 : Int) := Ot_ (by first | (with_reducible assumption) | assumption)
               have q245 : x8_3 < (l0_0.length : Int) := Ot_ (by first | (with_reducible assumption) | assumption)
               obtain ⟨ad245, e245, hx245_0, hx245_1, hx245_2, hx245_3, hx245_4, hx245_5⟩ := at_T54 HR0_0.out x8_3 p245 q245
               obtain rfl : ad242 = ad245 := (by injection e245)
               replace hx245_0 := (HB.out.cell (Bl_ w _ hx245_0)).trans hx245_0
               replace hx245_1 := (HB.out.cell (Bl_ w _ hx245_1)).trans hx245_1
               replace hx245_2 := (HB.out.cell (Bl_ w _ hx245_2)).trans hx245_2
               replace hx245_3 := (HB.out.cell (Bl_ w _ hx245_3)).trans hx245_3
               replace hx245_4 := (HB.out.cell (Bl_ w _ hx245_4)).trans hx245_4
               replace hx245_5 := (HB.out.cell (Bl_ w _ hx245_5)).trans hx245_5
               replace p245 := eq_true p245
               replace q245 := eq_true q245
               go_wp2
               repeat (go_quiet (fail); try go_wp2)
               go_roundg k3
               case measure => have := HK1.out; have := HK2.out; have := HK3.out; omega
               case rel => exact ⟨(wrap64 (x8_3 + 1)), (by first | rfl | (simp; done) | (simp [*]; done)), H', ⟨by have := HK1.out; have := HK2.out; have := HK3.out; omega⟩, ⟨by (with_reducible repeat (first | apply Ra_ | apply Rn_ | apply Rd_)); exact HO_3.out⟩, ⟨by (with_reducible repeat (first | refine Bn_ ?_ _ | refine Bd_ ?_ | refine Ba_ ?_ _)); exact BK230.out⟩, ⟨by repeat (first | (with_reducible first | exact HB.out | apply Pa_ | apply Pn_ | apply Pd_ | refine Bs_ ?_ GE230.out) | exact HB.out)⟩⟩
             ·rw [if_neg c37] at H
              have c37b0 : ((rd x3_2 x8_3) == 0) = false := beq_eq_false_iff_ne.mpr c37
              have c37b1 : ((rd x3_2 x8_3) != 0) = true := bne_iff_ne.mpr c37
              have H' := Am_ H
              clear H
              obtain ⟨hcz43_0, hcz43_1, hfz43_0, hfz43_1⟩ := Ce2_ BK230.out
              have p242 : 0 ≤ (x8_3 : Int) := Ot_ (by first | (with_reducible assumption) | assumption)
              have q242 : x8_3 < (l0_0.length : Int) := Ot_ (by first | (with_reducible assumption) | assumption)
              obtain ⟨ad242, e242, hx242_0, hx242_1, hx242_2, hx242_3, hx242_4, hx242_5⟩ := at_T54 HR0_0.out x8_3 p242 q242
              cases e242
              replace hx242_0 := (HB.out.cell (Bl_ w _ hx242_0)).trans hx242_0
              replace hx242_1 := (HB.out.cell (Bl_ w _ hx242_1)).trans hx242_1
              replace hx242_2 := (HB.out.cell (Bl_ w _ hx242_2)).trans hx242_2
              replace hx242_3 := (HB.out.cell (Bl_ w _ hx242_3)).trans hx242_3
              replace hx242_4 := (HB.out.cell (Bl_ w _ hx242_4)).trans hx242_4
              replace hx242_5 := (HB.out.cell (Bl_ w _ hx242_5)).trans hx242_5
              replace p242 := eq_true p242
              replace q242 := eq_true q242
              obtain ⟨Ao44, co44, eo44⟩ := Kd.R_slice HO_3.out
              subst eo44
              have p243 : 0 ≤ (x8_3 : Int) := Ot_ (by first | (with_reducible assumption) | assumption)
              have q243 : x8_3 < (x3_2.length : Int) := Ot_ (by first | (with_reducible assumption) | assumption)
              obtain ⟨ad243, e243, hx243_0⟩ := Kd.at_int (Kd.R_reads' HO_3.out).2.2 x8_3 p243 q243
              cases e243
              replace p243 := eq_true p243
              replace q243 := eq_true q243
              have p244 : 0 ≤ (x8_3 : Int) := Ot_ (by first | (with_reducible assumption) | assumption)
              have q244 : x8_3 < (x3_2.length : Int) := Ot_ (by first | (with_reducible assumption) | assumption)
              obtain ⟨ad244, e244, hx244_0⟩ := Kd.at_int (Kd.R_reads' HO_3.out).2.2 x8_3 p244 q244
              obtain rfl : ad243 = ad244 := (by injection e244)
              replace p244 := eq_true p244
              replace q244 := eq_true q244
              go_wp2
              repeat (go_quiet (fail); try go_wp2)
              go_roundg k3
              case measure => have := HK1.out; have := HK2.out; have := HK3.out; omega
              case rel => exact ⟨(wrap64 (x8_3 + 1)), (by first | rfl | (simp; done) | (simp [*]; done)), H', ⟨by have := HK1.out; have := HK2.out; have := HK3.out; omega⟩, ⟨by (with_reducible repeat (first | apply Ra_ | apply Rn_ | apply Rd_)); exact HO_3.out⟩, ⟨by (with_reducible repeat (first | refine Bn_ ?_ _ | refine Bd_ ?_ | refine Ba_ ?_ _)); exact BK230.out⟩, ⟨by repeat (first | (with_reducible first | exact HB.out | apply Pa_ | apply Pn_ | apply Pd_ | refine Bs_ ?_ GE230.out) | exact HB.out)⟩⟩
            ·rw [if_neg c36] at H
             have c36b0 : (((rd_T54 l0_0 x8_3).f4) == (rd x3_2 x8_3)) = false := beq_eq_false_iff_ne.mpr c36
             have c36b1 : (((rd_T54 l0_0 x8_3).f4) != (rd x3_2 x8_3)) = true := bne_iff_ne.mpr c36
             obtain rfl := Option.some.inj H
             obtain ⟨hcz45_0, hcz45_1, hfz45_0, hfz45_1⟩ := Ce2_ BK230.out
             have p242 : 0 ≤ (x8_3 : Int) := Ot_ (by first | (with_reducible assumption) | assumption)
             have q242 : x8_3 < (l0_0.length : Int) := Ot_ (by first | (with_reducible assumption) | assumption)
             obtain ⟨ad242, e242, hx242_0, hx242_1, hx242_2, hx242_3, hx242_4, hx242_5⟩ := at_T54 HR0_0.out x8_3 p242 q242
             cases e242
             replace hx242_0 := (HB.out.cell (Bl_ w _ hx242_0)).trans hx242_0
             replace hx242_1 := (HB.out.cell (Bl_ w _ hx242_1)).trans hx242_1
             replace hx242_2 := (HB.out.cell (Bl_ w _ hx242_2)).trans hx242_2
             replace hx242_3 := (HB.out.cell (Bl_ w _ hx242_3)).trans hx242_3
             replace hx242_4 := (HB.out.cell (Bl_ w _ hx242_4)).trans hx242_4
             replace hx242_5 := (HB.out.cell (Bl_ w _ hx242_5)).trans hx242_5
             replace p242 := eq_true p242
             replace q242 := eq_true q242
             obtain ⟨Ao46, co46, eo46⟩ := Kd.R_slice HO_3.out
             subst eo46
             have p243 : 0 ≤ (x8_3 : Int) := Ot_ (by first | (with_reducible assumption) | assumption)
             have q243 : x8_3 < (x3_2.length : Int) := Ot_ (by first | (with_reducible assumption) | assumption)
             obtain ⟨ad243, e243, hx243_0⟩ := Kd.at_int (Kd.R_reads' HO_3.out).2.2 x8_3 p243 q243
             cases e243
             replace p243 := eq_true p243
             replace q243 := eq_true q243
             go_wp2
             repeat (go_quiet (fail); try go_wp2)
             go_ret
             exact ⟨by first | rfl | (simp [errW_none, errW_some] <;> rfl) | (simp [*, errW_none, errW_some] <;> rfl), by repeat (first | (with_reducible first | exact HB.out | apply Pa_ | apply Pn_ | apply Pd_ | refine Bs_ ?_ GE230.out) | exact HB.out)⟩
           ·rw [if_neg c35] at H
            exact absurd H (by simp)
          ·rw [if_neg c34] at H
           exact absurd H (by simp)
         ·rw [if_neg c33] at H
          have c33b0 : decide (x8_3 < (l0_0.length : Int)) = false := Df_ c33
          clear c33
          obtain rfl := Option.some.inj H
          obtain ⟨hcz47_0, hcz47_1, hfz47_0, hfz47_1⟩ := Ce2_ BK230.out
          go_wp2
          repeat (go_quiet (fail); try go_wp2)
          go_ret
          exact ⟨by first | rfl | (simp [errW_none, errW_some] <;> rfl) | (simp [*, errW_none, errW_some] <;> rfl), by repeat (first | (with_reducible first | exact HB.out | apply Pa_ | apply Pn_ | apply Pd_ | refine Bs_ ?_ GE230.out) | exact HB.out)⟩

end Go.Proofs.Ytkecfdljodiifaa.P
