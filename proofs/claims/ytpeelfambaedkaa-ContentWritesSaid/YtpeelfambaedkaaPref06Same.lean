-- Printed by a program of this session (inject.py) over the kit's print, with functions that were proved by hand in their places.
import Derived.Test.YtpeelfambaedkaaPK
import Derived.Test.YtpeelfambaedkaaPref06Alike
namespace Go.Proofs.Ytpeelfambaedkaa.P
open Go.RowKit Go.Proofs.YtpeelfambaedkaaW.PrintWords Go.Proofs.YtpeelfambaedkaaW.PrintLast Go.Proofs.YtpeelfambaedkaaW.PrintMore
attribute [local go_sem] max2_int min2_int max_two min_two max_three min_three max_four min_four   -- for this text's walks alone
set_option linter.unusedVariables false
set_option linter.unusedSimpArgs false

/-! ### flagstoneref06_Same: function 20 -/
mutual
def flagstoneref06_Same.j0 : Nat → Bool → List (S53) → Int → Int → List (S53) → Int → Int → Option (Bool)
 | 0, _, _, _, _, _, _, _ => none
 | k + 1, x26, x271000, x271001, x271002, x272000, x272001, x272002 => if x26 = true then (some false) else (flagstoneref06_Same.l0 k 0 x271000 x271001 x271002 x272000 x272001 x272002)
def flagstoneref06_Same.l0 : Nat → Int → List (S53) → Int → Int → List (S53) → Int → Int → Option (Bool)
 | 0, _, _, _, _, _, _, _ => none
 | k + 1, x5, x271000, x271001, x271002, x272000, x272001, x272002 => if x5 < (x271000.length : Int) then (if 0 ≤ x5 then (if x5 < (x272000.length : Int) then ((flagstoneref06_Alike.f k ((rd_T53 x271000 x5).f0) ((rd_T53 x271000 x5).f1) ((rd_T53 x271000 x5).f2) ((rd_T53 x271000 x5).f3) ((rd_T53 x271000 x5).f4) ((rd_T53 x271000 x5).f5) ((rd_T53 x271000 x5).f6) ((rd_T53 x271000 x5).f7) ((rd_T53 x272000 x5).f0) ((rd_T53 x272000 x5).f1) ((rd_T53 x272000 x5).f2) ((rd_T53 x272000 x5).f3) ((rd_T53 x272000 x5).f4) ((rd_T53 x272000 x5).f5) ((rd_T53 x272000 x5).f6) ((rd_T53 x272000 x5).f7)).bind fun t274 => (if t274 = true then (flagstoneref06_Same.l0 k (wrap64 (x5 + 1)) x271000 x271001 x271002 x272000 x272001 x272002) else (some false))) else (none)) else (none)) else (some true)
end
def flagstoneref06_Same.f (k : Nat) (l0_0 : List (S53)) (a0_1 : Int) (a0_2 : Int) (l1_0 : List (S53)) (a1_1 : Int) (a1_2 : Int) : Option (Bool) := if a0_1 = a1_1 then (if a0_2 = a1_2 then (flagstoneref06_Same.j0 k ((l0_0.length : Int) != (l1_0.length : Int)) l0_0 a0_1 a0_2 l1_0 a1_1 a1_2) else (flagstoneref06_Same.j0 k true l0_0 a0_1 a0_2 l1_0 a1_1 a1_2)) else (flagstoneref06_Same.j0 k true l0_0 a0_1 a0_2 l1_0 a1_1 a1_2)
theorem flagstoneref06_Same.mono_l : ∀ k, (∀ y0 y1 y2 y3 y4 y5 y6, LeO (flagstoneref06_Same.j0 k y0 y1 y2 y3 y4 y5 y6) (flagstoneref06_Same.j0 (k + 1) y0 y1 y2 y3 y4 y5 y6)) ∧ (∀ y0 y1 y2 y3 y4 y5 y6, LeO (flagstoneref06_Same.l0 k y0 y1 y2 y3 y4 y5 y6) (flagstoneref06_Same.l0 (k + 1) y0 y1 y2 y3 y4 y5 y6))
 | 0 => ⟨fun _ _ _ _ _ _ _ r h => by simp [flagstoneref06_Same.j0] at h, fun _ _ _ _ _ _ _ r h => by simp [flagstoneref06_Same.l0] at h⟩
 | k + 1 => by
  obtain ⟨ih0, ih1⟩ := flagstoneref06_Same.mono_l k
  refine ⟨?_, ?_⟩
  ·intro y0 y1 y2 y3 y4 y5 y6
   unfold flagstoneref06_Same.j0
   repeat' first
   | (with_reducible exact ih0 _ _ _ _ _ _ _)
   | (with_reducible exact ih1 _ _ _ _ _ _ _)
   | (with_reducible exact flagstoneref06_Alike.mono _ _ _ _ _ _ _ _ _ _ _ _ _ _ _ _ _)
   | (with_reducible exact LeO.refl _)
   | (with_reducible exact LeO.none _)
   | (with_reducible refine LeO.ite ?_ ?_)
   | (with_reducible refine LeO.bind ?_ (fun _ => ?_))
   | exact ih0 _ _ _ _ _ _ _
   | exact ih1 _ _ _ _ _ _ _
   | exact flagstoneref06_Alike.mono _ _ _ _ _ _ _ _ _ _ _ _ _ _ _ _ _
   | exact LeO.none _
   | refine LeO.ite ?_ ?_
   | refine LeO.bind ?_ (fun _ => ?_)
  ·intro y0 y1 y2 y3 y4 y5 y6
   unfold flagstoneref06_Same.l0
   repeat' first
   | (with_reducible exact ih0 _ _ _ _ _ _ _)
   | (with_reducible exact ih1 _ _ _ _ _ _ _)
   | (with_reducible exact flagstoneref06_Alike.mono _ _ _ _ _ _ _ _ _ _ _ _ _ _ _ _ _)
   | (with_reducible exact LeO.refl _)
   | (with_reducible exact LeO.none _)
   | (with_reducible refine LeO.ite ?_ ?_)
   | (with_reducible refine LeO.bind ?_ (fun _ => ?_))
   | exact ih0 _ _ _ _ _ _ _
   | exact ih1 _ _ _ _ _ _ _
   | exact flagstoneref06_Alike.mono _ _ _ _ _ _ _ _ _ _ _ _ _ _ _ _ _
   | exact LeO.none _
   | refine LeO.ite ?_ ?_
   | refine LeO.bind ?_ (fun _ => ?_)
theorem flagstoneref06_Same.mono : ∀ a0 a1 a2 a3 a4 a5 k, LeO (flagstoneref06_Same.f k a0 a1 a2 a3 a4 a5) (flagstoneref06_Same.f (k + 1) a0 a1 a2 a3 a4 a5) := by
 intro a0 a1 a2 a3 a4 a5 k
 obtain ⟨ih0, ih1⟩ := flagstoneref06_Same.mono_l k
 unfold flagstoneref06_Same.f
 repeat' first
   | (with_reducible exact ih0 _ _ _ _ _ _ _)
   | (with_reducible exact ih1 _ _ _ _ _ _ _)
   | (with_reducible exact flagstoneref06_Alike.mono _ _ _ _ _ _ _ _ _ _ _ _ _ _ _ _ _)
   | (with_reducible exact LeO.refl _)
   | (with_reducible exact LeO.none _)
   | (with_reducible refine LeO.ite ?_ ?_)
   | (with_reducible refine LeO.bind ?_ (fun _ => ?_))
   | exact ih0 _ _ _ _ _ _ _
   | exact ih1 _ _ _ _ _ _ _
   | exact flagstoneref06_Alike.mono _ _ _ _ _ _ _ _ _ _ _ _ _ _ _ _ _
   | exact LeO.none _
   | refine LeO.ite ?_ ?_
   | refine LeO.bind ?_ (fun _ => ?_)
def flagstoneref06_Same.T6 : Bool × List (List Nat × List Nat) := (true, [([], []), ([0], [0]), ([], []), ([1, 2], [1, 2]), ([3], [3]), ([], []), ([5], [5]), ([], []), ([6, 7], [6, 7]), ([8], [8]), ([4, 9], [4, 9]), ([10], [10])])
def flagstoneref06_Same.B6 : List Nat := [0, 1, 0, 7, 15, 0, 32, 0, 224, 480, 1023, 2047]
theorem flagstoneref06_Same.tab6 : rtab .any (opsOf Try.f20 6) = flagstoneref06_Same.T6 := by kernel_rfl
theorem flagstoneref06_Same.bits6 : waitsOk flagstoneref06_Same.T6.2 flagstoneref06_Same.B6 = true := by kernel_rfl
set_option maxHeartbeats 8000000 in
set_option maxRecDepth 100000 in
theorem flagstoneref06_Same.calls (k : Nat) (A0_0 : Option Addr) (c0_0 : Nat) (l0_0 : List (S53)) (a0_1 : Int) (a0_2 : Int) (A1_0 : Option Addr) (c1_0 : Nat) (l1_0 : List (S53)) (a1_1 : Int) (a1_2 : Int) (r : Bool) (w : World) (hr0_0 : Kd.C k53 w A0_0 l0_0.length l0_0) (hc0_0 : l0_0.length ≤ c0_0) (hr1_0 : Kd.C k53 w A1_0 l1_0.length l1_0) (hc1_0 : l1_0.length ≤ c1_0) (h : flagstoneref06_Same.f k l0_0 a0_1 a0_2 l1_0 a1_1 a1_2 = some r) :
  Calls Try.prog 20 #[.agg #[.slice A0_0 l0_0.length c0_0, .int .i64 a0_1, .int .i64 a0_2], .agg #[.slice A1_0 l1_0.length c1_0, .int .i64 a1_1, .int .i64 a1_2]] w fun e w' => e = .returned (.bool r) ∧ Below w.heap.size w w' := by
 have hu33 := Try.underlying33
 have hu53 := Try.underlying53
 have HR0_0 := Am_ hr0_0
 have HC0_0 := Am_ hc0_0
 clear hr0_0 hc0_0
 have HR1_0 := Am_ hr1_0
 have HC1_0 := Am_ hc1_0
 clear hr1_0 hc1_0
 have HB := Am_ (Below.refl w.heap.size w)
 have H : (if a0_1 = a1_1 then (if a0_2 = a1_2 then (flagstoneref06_Same.j0 k ((l0_0.length : Int) != (l1_0.length : Int)) l0_0 a0_1 a0_2 l1_0 a1_1 a1_2) else (flagstoneref06_Same.j0 k true l0_0 a0_1 a0_2 l1_0 a1_1 a1_2)) else (flagstoneref06_Same.j0 k true l0_0 a0_1 a0_2 l1_0 a1_1 a1_2)) = some r := h
 clear h
 have HC3 := Am_ H
 clear H
 go_enter Try.func20, Try.ntmps20
 go_upto_region 1 with (first | ((with_reducible refine gate_dst (N := 2) rfl ?_); (try (refine gate_guard (by rfl) ?_; dsimp only)); refine box_event ?hg (N := 2) ?hd (cs := #[.slice A0_0 l0_0.length c0_0, .int .i64 a0_1, .int .i64 a0_2]) (t := 33) ?hr ?_; (case hd => rfl); (case hg => rfl); (case hr => go_simp; try rfl); intro gb270 hg w4 hbox hb; have n0_ := Am_ (Be_ (Pb0_ HB.out) hb); have n1_ := Am_ (hbox); have n2_ := Am_ ((by rw [hg]; exact (Bz_ (Pb0_ HB.out)) : w.heap.size ≤ gb270)); have n3_ := Am_ ((by rw [hg]; exact (Bz_ (Pb0_ HB.out)) : w.heap.size ≤ gb270)); clear HB; have HB := n0_; have BK270 := n1_; have GW270 := n2_; have GE270 := n3_; clear n0_ n1_ n2_ n3_; clear hb hbox hg) | ((with_reducible refine gate_dst (N := 3) rfl ?_); (try (refine gate_guard (by rfl) ?_; dsimp only)); refine box_event ?hg (N := 3) ?hd (cs := #[.slice A1_0 l1_0.length c1_0, .int .i64 a1_1, .int .i64 a1_2]) (t := 33) ?hr ?_; (case hd => rfl); (case hg => rfl); (case hr => go_simp; try rfl); intro gb271 hg w5 hbox hb; have n0_ := Am_ (Bb_ (g := gb270) (o := .cells #[.slice A0_0 l0_0.length c0_0, .int .i64 a0_1, .int .i64 a0_2] 33 (0, 0)) (Pk_ BK270.out) hb); have n1_ := Am_ (Be_ (Pb1_ HB.out GE270.out) hb); have n2_ := Am_ (hbox); have n3_ := Am_ ((by rw [hg]; exact (Bz_ (Pb1_ HB.out GE270.out)) : w.heap.size ≤ gb271)); have n4_ := Am_ ((by rw [hg]; exact (Bz_ (Pb1_ HB.out GE270.out)) : w.heap.size ≤ gb271)); have n5_ := Am_ ((by rw [hg]; exact Nat.ne_of_lt (blk_lt (g := gb270) (o := .cells #[.slice A0_0 l0_0.length c0_0, .int .i64 a0_1, .int .i64 a0_2] 33 (0, 0)) (Pk_ BK270.out)) : gb270 ≠ gb271)); have n6_ := Am_ ((by rw [hg]; exact Nat.ne_of_gt (blk_lt (g := gb270) (o := .cells #[.slice A0_0 l0_0.length c0_0, .int .i64 a0_1, .int .i64 a0_2] 33 (0, 0)) (Pk_ BK270.out)) : gb271 ≠ gb270)); clear BK270; clear HB; have BK270 := n0_; have HB := n1_; have BK271 := n2_; have GW271 := n3_; have GE271 := n4_; have NB270_271 := n5_; have NB271_270 := n6_; clear n0_ n1_ n2_ n3_ n4_ n5_ n6_; clear hb hbox hg))
 (try simp only [Act.put, La_, Lb_, Lc_])
 go_cut [26] (fun v26 wc => ∃ (kq : Nat) (x26_2 : Bool), v26 = .bool x26_2 ∧ Aside0 (flagstoneref06_Same.j0 kq x26_2 l0_0 a0_1 a0_2 l1_0 a1_1 a1_2 = some r) ∧ Aside0 (kq ≤ k) ∧ Aside0 (wc.heap[gb270]? = some (.cells #[(.slice A0_0 l0_0.length c0_0), .int .i64 a0_1, .int .i64 a0_2] 33 (0, 0))) ∧ Aside0 (wc.heap[gb271]? = some (.cells #[(.slice A1_0 l1_0.length c1_0), .int .i64 a1_1, .int .i64 a1_2] 33 (0, 0))) ∧ Aside0 (Below w.heap.size w wc))
 case first =>
  have H := HC3.out
  clear HC3
  by_cases c6 : a0_1 = a1_1
  ·rw [if_pos c6] at H
   have c6b0 : (a0_1 == a1_1) = true := beq_iff_eq.mpr c6
   have c6b1 : (a0_1 != a1_1) = false := bne_eq_false_iff_eq.mpr c6
   clear c6
   (first | rw [c6b0] | (simp only [i64_w, i32_w]; rw [c6b0]) | skip)
   by_cases c7 : a0_2 = a1_2
   ·rw [if_pos c7] at H
    have c7b0 : (a0_2 == a1_2) = true := beq_iff_eq.mpr c7
    have c7b1 : (a0_2 != a1_2) = false := bne_eq_false_iff_eq.mpr c7
    clear c7
    have H' := Am_ H
    clear H
    have hnb8 := NB270_271.out
    have hnc8 := NB271_270.out
    obtain ⟨hcz9_0, hcz9_1, hcz9_2, hfz9_0, hfz9_1, hfz9_2⟩ := Ce3_ BK270.out
    obtain ⟨hcz10_0, hcz10_1, hcz10_2, hfz10_0, hfz10_1, hfz10_2⟩ := Ce3_ BK271.out
    go_wp2
    go_meet
    case rel => exact ⟨_, (((l0_0.length : Int) != (l1_0.length : Int))), (by first | rfl | (simp; done) | (simp [*]; done)), H', ⟨by first | omega | exact Nat.le_refl _⟩, ⟨by (with_reducible repeat (first | refine Bn_ ?_ _ | refine Bd_ ?_ | refine Ba_ ?_ _)); exact BK270.out⟩, ⟨by (with_reducible repeat (first | refine Bn_ ?_ _ | refine Bd_ ?_ | refine Ba_ ?_ _)); exact BK271.out⟩, ⟨by repeat (first | (with_reducible first | exact HB.out | apply Pa_ | apply Pn_ | apply Pd_ | refine Bs_ ?_ GE270.out | refine Bs_ ?_ GE271.out) | exact HB.out)⟩⟩
   ·rw [if_neg c7] at H
    have c7b0 : (a0_2 == a1_2) = false := beq_eq_false_iff_ne.mpr c7
    have c7b1 : (a0_2 != a1_2) = true := bne_iff_ne.mpr c7
    have H' := Am_ H
    clear H
    have hnb11 := NB270_271.out
    have hnc11 := NB271_270.out
    obtain ⟨hcz12_0, hcz12_1, hcz12_2, hfz12_0, hfz12_1, hfz12_2⟩ := Ce3_ BK270.out
    obtain ⟨hcz13_0, hcz13_1, hcz13_2, hfz13_0, hfz13_1, hfz13_2⟩ := Ce3_ BK271.out
    go_wp2
    go_meet
    case rel => exact ⟨_, (true), (by first | rfl | (simp; done) | (simp [*]; done)), H', ⟨by first | omega | exact Nat.le_refl _⟩, ⟨by (with_reducible repeat (first | refine Bn_ ?_ _ | refine Bd_ ?_ | refine Ba_ ?_ _)); exact BK270.out⟩, ⟨by (with_reducible repeat (first | refine Bn_ ?_ _ | refine Bd_ ?_ | refine Ba_ ?_ _)); exact BK271.out⟩, ⟨by repeat (first | (with_reducible first | exact HB.out | apply Pa_ | apply Pn_ | apply Pd_ | refine Bs_ ?_ GE270.out | refine Bs_ ?_ GE271.out) | exact HB.out)⟩⟩
  ·rw [if_neg c6] at H
   have c6b0 : (a0_1 == a1_1) = false := beq_eq_false_iff_ne.mpr c6
   have c6b1 : (a0_1 != a1_1) = true := bne_iff_ne.mpr c6
   (first | rw [c6b0] | (simp only [i64_w, i32_w]; rw [c6b0]) | skip)
   have H' := Am_ H
   clear H
   have hnb14 := NB270_271.out
   have hnc14 := NB271_270.out
   obtain ⟨hcz15_0, hcz15_1, hcz15_2, hfz15_0, hfz15_1, hfz15_2⟩ := Ce3_ BK270.out
   obtain ⟨hcz16_0, hcz16_1, hcz16_2, hfz16_0, hfz16_1, hfz16_2⟩ := Ce3_ BK271.out
   go_wp2
   go_meet
   case rel => exact ⟨_, (true), (by first | rfl | (simp; done) | (simp [*]; done)), H', ⟨by first | omega | exact Nat.le_refl _⟩, ⟨by (with_reducible repeat (first | refine Bn_ ?_ _ | refine Bd_ ?_ | refine Ba_ ?_ _)); exact BK270.out⟩, ⟨by (with_reducible repeat (first | refine Bn_ ?_ _ | refine Bd_ ?_ | refine Ba_ ?_ _)); exact BK271.out⟩, ⟨by repeat (first | (with_reducible first | exact HB.out | apply Pa_ | apply Pn_ | apply Pd_ | refine Bs_ ?_ GE270.out | refine Bs_ ?_ GE271.out) | exact HB.out)⟩⟩
 case rest =>
  clear HC3
  try clear c1
  try clear c2
  try clear p2
  try clear c6
  try clear c6b0
  try clear c6b1
  try clear c7
  try clear c7b0
  try clear c7b1
  try clear c8
  try clear c11
  try clear c14
  try clear hcz10_0
  try clear hcz10_1
  try clear hcz10_2
  try clear hcz12_0
  try clear hcz12_1
  try clear hcz12_2
  try clear hcz13_0
  try clear hcz13_1
  try clear hcz13_2
  try clear hcz15_0
  try clear hcz15_1
  try clear hcz15_2
  try clear hcz16_0
  try clear hcz16_1
  try clear hcz16_2
  try clear hcz9_0
  try clear hcz9_1
  try clear hcz9_2
  try clear hfz10_0
  try clear hfz10_1
  try clear hfz10_2
  try clear hfz12_0
  try clear hfz12_1
  try clear hfz12_2
  try clear hfz13_0
  try clear hfz13_1
  try clear hfz13_2
  try clear hfz15_0
  try clear hfz15_1
  try clear hfz15_2
  try clear hfz16_0
  try clear hfz16_1
  try clear hfz16_2
  try clear hfz9_0
  try clear hfz9_1
  try clear hfz9_2
  obtain ⟨kq, x26_2, rfl, HA, HJ2, BK270, BK271, HB⟩ := hcut
  cases kq with
  | zero => exact absurd HA.out (by simp [flagstoneref06_Same.j0])
  | succ kj2 =>
   have H := HA.out
   clear HA
   simp only [flagstoneref06_Same.j0] at H
   by_cases c17 : x26_2 = true
   ·subst c17
    have H1 : (some false) = some r := by rw [if_pos rfl] at H; exact H
    clear H
    have H := H1
    clear H1
    obtain rfl := Option.some.inj H
    go_wp2
    go_ret
    exact ⟨by first | rfl | (simp [errW_none, errW_some] <;> rfl) | (simp [*, errW_none, errW_some] <;> rfl), by repeat (first | (with_reducible first | exact HB.out | apply Pa_ | apply Pn_ | apply Pd_ | refine Bs_ ?_ GE270.out | refine Bs_ ?_ GE271.out) | exact HB.out)⟩
   ·replace c17 := Bool.eq_false_iff.mpr c17
    subst c17
    have H1 : (flagstoneref06_Same.l0 kj2 0 l0_0 a0_1 a0_2 l1_0 a1_1 a1_2) = some r := by rw [if_neg (show ¬ (false = true) by decide)] at H; exact H
    clear H
    have H := H1
    clear H1
    have H' := Am_ H
    clear H
    go_wp2
    go_loopg [5] kj2 (fun kq v5 w' => ∃ (x5_2 : Int), v5 = .int .i64 x5_2 ∧ Aside0 (flagstoneref06_Same.l0 kq x5_2 l0_0 a0_1 a0_2 l1_0 a1_1 a1_2 = some r) ∧ Aside0 (kq ≤ kj2) ∧ Aside0 (w'.heap[gb270]? = some (.cells #[(.slice A0_0 l0_0.length c0_0), .int .i64 a0_1, .int .i64 a0_2] 33 (0, 0))) ∧ Aside0 (w'.heap[gb271]? = some (.cells #[(.slice A1_0 l1_0.length c1_0), .int .i64 a1_1, .int .i64 a1_2] 33 (0, 0))) ∧ Aside0 (Below w.heap.size w w'))
    case atStart => exact ⟨(0), (by first | rfl | (simp; done) | (simp [*]; done)), H', ⟨Nat.le_refl _⟩, ⟨by (with_reducible repeat (first | refine Bn_ ?_ _ | refine Bd_ ?_ | refine Ba_ ?_ _)); exact BK270.out⟩, ⟨by (with_reducible repeat (first | refine Bn_ ?_ _ | refine Bd_ ?_ | refine Ba_ ?_ _)); exact BK271.out⟩, ⟨by repeat (first | (with_reducible first | exact HB.out | apply Pa_ | apply Pn_ | apply Pd_ | refine Bs_ ?_ GE270.out | refine Bs_ ?_ GE271.out) | exact HB.out)⟩⟩
    case round =>
     clear H'
     try clear c1
     try clear c2
     try clear p2
     try clear c6
     try clear c6b0
     try clear c6b1
     try clear c7
     try clear c7b0
     try clear c7b1
     try clear c8
     try clear c11
     try clear c14
     try clear c17
     try clear hcz10_0
     try clear hcz10_1
     try clear hcz10_2
     try clear hcz12_0
     try clear hcz12_1
     try clear hcz12_2
     try clear hcz13_0
     try clear hcz13_1
     try clear hcz13_2
     try clear hcz15_0
     try clear hcz15_1
     try clear hcz15_2
     try clear hcz16_0
     try clear hcz16_1
     try clear hcz16_2
     try clear hcz9_0
     try clear hcz9_1
     try clear hcz9_2
     try clear hfz10_0
     try clear hfz10_1
     try clear hfz10_2
     try clear hfz12_0
     try clear hfz12_1
     try clear hfz12_2
     try clear hfz13_0
     try clear hfz13_1
     try clear hfz13_2
     try clear hfz15_0
     try clear hfz15_1
     try clear hfz15_2
     try clear hfz16_0
     try clear hfz16_1
     try clear hfz16_2
     try clear hfz9_0
     try clear hfz9_1
     try clear hfz9_2
     try clear p2
     obtain ⟨x5_2, rfl, HA, HK2, BK270, BK271, HB⟩ := hrel
     cases gk with
     | zero => exact absurd HA.out (by simp [flagstoneref06_Same.l0])
     | succ k2 =>
      have H := HA.out
      clear HA
      simp only [flagstoneref06_Same.l0] at H
      by_cases c18 : x5_2 < (l0_0.length : Int)
      ·rw [if_pos c18] at H
       have c18b0 : decide (x5_2 < (l0_0.length : Int)) = true := Dt_ c18
       clear c18
       by_cases c19 : 0 ≤ x5_2
       ·rw [if_pos c19] at H
        have c19b0 : decide (0 ≤ x5_2) = true := Dt_ c19
        clear c19
        by_cases c20 : x5_2 < (l1_0.length : Int)
        ·rw [if_pos c20] at H
         have c20b0 : decide (x5_2 < (l1_0.length : Int)) = true := Dt_ c20
         clear c20
         replace H := Option.bind_eq_some_iff.mp H
         obtain ⟨t274, A210, H⟩ := H
         replace H : (if t274 = true then (flagstoneref06_Same.l0 k2 (wrap64 (x5_2 + 1)) l0_0 a0_1 a0_2 l1_0 a1_1 a1_2) else (some false)) = some r := H
         have A21 := Am_ A210
         clear A210
         by_cases c22 : t274 = true
         ·subst c22
          have H1 : (flagstoneref06_Same.l0 k2 (wrap64 (x5_2 + 1)) l0_0 a0_1 a0_2 l1_0 a1_1 a1_2) = some r := by rw [if_pos rfl] at H; exact H
          clear H
          have H := H1
          clear H1
          have H' := Am_ H
          clear H
          have hnb23 := NB270_271.out
          have hnc23 := NB271_270.out
          obtain ⟨hcz24_0, hcz24_1, hcz24_2, hfz24_0, hfz24_1, hfz24_2⟩ := Ce3_ BK270.out
          try go_wp2
          have n0_ := Am_ (Bd_ BK270.out)
          have n1_ := Am_ (Bd_ BK271.out)
          have n2_ := Am_ (Pd_ HB.out)
          clear BK270
          clear BK271
          clear HB
          have BK270 := n0_
          have BK271 := n1_
          have HB := n2_
          clear n0_ n1_ n2_
          have p272 : 0 ≤ (x5_2 : Int) := Ot_ (by first | (with_reducible assumption) | assumption)
          have q272 : x5_2 < (l0_0.length : Int) := Ot_ (by first | (with_reducible assumption) | assumption)
          obtain ⟨ad272, A272_7, c272_7, e272, hx272_0, hx272_1, hx272_2, hx272_3, hx272_4, hx272_5, hx272_6, hx272_7, hl272_7, hi272_7⟩ := at_T53 HR0_0.out x5_2 p272 q272
          have hw272_7 := hx272_7
          have hw272_6 := hx272_6
          have hw272_5 := hx272_5
          have hw272_4 := hx272_4
          have hw272_3 := hx272_3
          have hw272_2 := hx272_2
          have hw272_1 := hx272_1
          have hw272_0 := hx272_0
          cases e272
          replace hx272_0 := (HB.out.cell (Bl_ w _ hx272_0)).trans hx272_0
          replace hx272_1 := (HB.out.cell (Bl_ w _ hx272_1)).trans hx272_1
          replace hx272_2 := (HB.out.cell (Bl_ w _ hx272_2)).trans hx272_2
          replace hx272_3 := (HB.out.cell (Bl_ w _ hx272_3)).trans hx272_3
          replace hx272_4 := (HB.out.cell (Bl_ w _ hx272_4)).trans hx272_4
          replace hx272_5 := (HB.out.cell (Bl_ w _ hx272_5)).trans hx272_5
          replace hx272_6 := (HB.out.cell (Bl_ w _ hx272_6)).trans hx272_6
          replace hx272_7 := (HB.out.cell (Bl_ w _ hx272_7)).trans hx272_7
          have HR272_7 := Am_ hi272_7
          have HC272_7 := Am_ hl272_7
          clear hi272_7 hl272_7
          replace p272 := eq_true p272
          replace q272 := eq_true q272
          have p273 : 0 ≤ (x5_2 : Int) := Ot_ (by first | (with_reducible assumption) | assumption)
          have q273 : x5_2 < (l1_0.length : Int) := Ot_ (by first | (with_reducible assumption) | assumption)
          obtain ⟨ad273, A273_7, c273_7, e273, hx273_0, hx273_1, hx273_2, hx273_3, hx273_4, hx273_5, hx273_6, hx273_7, hl273_7, hi273_7⟩ := at_T53 HR1_0.out x5_2 p273 q273
          have hw273_7 := hx273_7
          have hw273_6 := hx273_6
          have hw273_5 := hx273_5
          have hw273_4 := hx273_4
          have hw273_3 := hx273_3
          have hw273_2 := hx273_2
          have hw273_1 := hx273_1
          have hw273_0 := hx273_0
          cases e273
          replace hx273_0 := (HB.out.cell (Bl_ w _ hx273_0)).trans hx273_0
          replace hx273_1 := (HB.out.cell (Bl_ w _ hx273_1)).trans hx273_1
          replace hx273_2 := (HB.out.cell (Bl_ w _ hx273_2)).trans hx273_2
          replace hx273_3 := (HB.out.cell (Bl_ w _ hx273_3)).trans hx273_3
          replace hx273_4 := (HB.out.cell (Bl_ w _ hx273_4)).trans hx273_4
          replace hx273_5 := (HB.out.cell (Bl_ w _ hx273_5)).trans hx273_5
          replace hx273_6 := (HB.out.cell (Bl_ w _ hx273_6)).trans hx273_6
          replace hx273_7 := (HB.out.cell (Bl_ w _ hx273_7)).trans hx273_7
          have HR273_7 := Am_ hi273_7
          have HC273_7 := Am_ hl273_7
          clear hi273_7 hl273_7
          replace p273 := eq_true p273
          replace q273 := eq_true q273
          refine start_ (n := 12) (S := fun w' => w'.cell? ⟨gb270, 0, none⟩ = some (.slice (some ad272) l0_0.length c0_0) ∧ w'.cell? ⟨gb270, 1, none⟩ = some (.int .i64 a0_1) ∧ w'.cell? ⟨gb270, 2, none⟩ = some (.int .i64 a0_2) ∧ w'.cell? ⟨gb271, 0, none⟩ = some (.slice (some ad273) l1_0.length c1_0) ∧ w'.cell? ⟨gb271, 1, none⟩ = some (.int .i64 a1_1) ∧ w'.cell? ⟨gb271, 2, none⟩ = some (.int .i64 a1_2) ∧ w'.cell? (ad272.add ((x5_2).toNat * 8)) = some (.int .i64 ((rd_T53 l0_0 x5_2).f0)) ∧ w'.cell? ⟨(ad272.add ((x5_2).toNat * 8)).block, (ad272.add ((x5_2).toNat * 8)).off + 1, none⟩ = some (.int .i64 ((rd_T53 l0_0 x5_2).f1)) ∧ w'.cell? ⟨(ad272.add ((x5_2).toNat * 8)).block, (ad272.add ((x5_2).toNat * 8)).off + 2, none⟩ = some (.int .i64 ((rd_T53 l0_0 x5_2).f2)) ∧ w'.cell? ⟨(ad272.add ((x5_2).toNat * 8)).block, (ad272.add ((x5_2).toNat * 8)).off + 3, none⟩ = some (.int .i64 ((rd_T53 l0_0 x5_2).f3)) ∧ w'.cell? ⟨(ad272.add ((x5_2).toNat * 8)).block, (ad272.add ((x5_2).toNat * 8)).off + 4, none⟩ = some (.int .i64 ((rd_T53 l0_0 x5_2).f4)) ∧ w'.cell? ⟨(ad272.add ((x5_2).toNat * 8)).block, (ad272.add ((x5_2).toNat * 8)).off + 5, none⟩ = some (.int .i64 ((rd_T53 l0_0 x5_2).f5)) ∧ w'.cell? ⟨(ad272.add ((x5_2).toNat * 8)).block, (ad272.add ((x5_2).toNat * 8)).off + 6, none⟩ = some (.string ((rd_T53 l0_0 x5_2).f6)) ∧ w'.cell? ⟨(ad272.add ((x5_2).toNat * 8)).block, (ad272.add ((x5_2).toNat * 8)).off + 7, none⟩ = some (.slice A272_7 ((rd_T53 l0_0 x5_2).f7).length c272_7) ∧ w'.cell? (ad273.add ((x5_2).toNat * 8)) = some (.int .i64 ((rd_T53 l1_0 x5_2).f0)) ∧ w'.cell? ⟨(ad273.add ((x5_2).toNat * 8)).block, (ad273.add ((x5_2).toNat * 8)).off + 1, none⟩ = some (.int .i64 ((rd_T53 l1_0 x5_2).f1)) ∧ w'.cell? ⟨(ad273.add ((x5_2).toNat * 8)).block, (ad273.add ((x5_2).toNat * 8)).off + 2, none⟩ = some (.int .i64 ((rd_T53 l1_0 x5_2).f2)) ∧ w'.cell? ⟨(ad273.add ((x5_2).toNat * 8)).block, (ad273.add ((x5_2).toNat * 8)).off + 3, none⟩ = some (.int .i64 ((rd_T53 l1_0 x5_2).f3)) ∧ w'.cell? ⟨(ad273.add ((x5_2).toNat * 8)).block, (ad273.add ((x5_2).toNat * 8)).off + 4, none⟩ = some (.int .i64 ((rd_T53 l1_0 x5_2).f4)) ∧ w'.cell? ⟨(ad273.add ((x5_2).toNat * 8)).block, (ad273.add ((x5_2).toNat * 8)).off + 5, none⟩ = some (.int .i64 ((rd_T53 l1_0 x5_2).f5)) ∧ w'.cell? ⟨(ad273.add ((x5_2).toNat * 8)).block, (ad273.add ((x5_2).toNat * 8)).off + 6, none⟩ = some (.string ((rd_T53 l1_0 x5_2).f6)) ∧ w'.cell? ⟨(ad273.add ((x5_2).toNat * 8)).block, (ad273.add ((x5_2).toNat * 8)).off + 7, none⟩ = some (.slice A273_7 ((rd_T53 l1_0 x5_2).f7).length c273_7)) (ds := []) #[f_,f_,f_,f_,f_,f_,f_,f_,f_,f_,f_,f_] (by kernel_rfl) rfl rfl ⟨(Bc_ BK270.out 0).trans rfl, (Bc_ BK270.out 1).trans rfl, (Bc_ BK270.out 2).trans rfl, (Bc_ BK271.out 0).trans rfl, (Bc_ BK271.out 1).trans rfl, (Bc_ BK271.out 2).trans rfl, ((HB.out.cell (Bl_ w _ hw272_0)).trans hw272_0), ((HB.out.cell (Bl_ w _ hw272_1)).trans hw272_1), ((HB.out.cell (Bl_ w _ hw272_2)).trans hw272_2), ((HB.out.cell (Bl_ w _ hw272_3)).trans hw272_3), ((HB.out.cell (Bl_ w _ hw272_4)).trans hw272_4), ((HB.out.cell (Bl_ w _ hw272_5)).trans hw272_5), ((HB.out.cell (Bl_ w _ hw272_6)).trans hw272_6), ((HB.out.cell (Bl_ w _ hw272_7)).trans hw272_7), ((HB.out.cell (Bl_ w _ hw273_0)).trans hw273_0), ((HB.out.cell (Bl_ w _ hw273_1)).trans hw273_1), ((HB.out.cell (Bl_ w _ hw273_2)).trans hw273_2), ((HB.out.cell (Bl_ w _ hw273_3)).trans hw273_3), ((HB.out.cell (Bl_ w _ hw273_4)).trans hw273_4), ((HB.out.cell (Bl_ w _ hw273_5)).trans hw273_5), ((HB.out.cell (Bl_ w _ hw273_6)).trans hw273_6), ((HB.out.cell (Bl_ w _ hw273_7)).trans hw273_7)⟩ (fun hHeld => ?_); refine with_tabW flagstoneref06_Same.tab6 flagstoneref06_Same.bits6 (fun HT_ HW_ => ?_)
          generalize wr.drew = w25 at BK270 BK271 HB HR272_7 HR273_7 hx272_0 hx272_1 hx272_2 hx272_3 hx272_4 hx272_5 hx272_6 hx272_7 hx273_0 hx273_1 hx273_2 hx273_3 hx273_4 hx273_5 hx273_6 hx273_7 hHeld ⊢
          refine pure_ (i := 0) (N := some 34) (v := ?_) (a' := ?_) #[t_,f_,f_,f_,f_,f_,f_,f_,f_,f_,f_,f_] rfl rfl (any_of HT_.out (by kernel_rfl)) (fun _ _ _ h => h) (Or.inl ⟨by rfl, ?_⟩) ?_ ?_
          rotate_left
          ·intro w'
           go_simp
           with_reducible rfl
          rotate_left
          ·simp only [Act.put, La_, Lb_, Lc_, i64_w, i32_w]
           rfl
          refine pure_ (i := 2) (N := some 36) (v := ?_) (a' := ?_) #[t_,f_,t_,f_,f_,f_,f_,f_,f_,f_,f_,f_] rfl rfl (any_of HT_.out (by kernel_rfl)) (fun _ _ _ h => h) (Or.inl ⟨by rfl, ?_⟩) ?_ ?_
          rotate_left
          ·intro w'
           go_simp
           with_reducible rfl
          rotate_left
          ·simp only [Act.put, La_, Lb_, Lc_, i64_w, i32_w]
           rfl
          refine pure_ (i := 5) (N := some 39) (v := ?_) (a' := ?_) #[t_,f_,t_,f_,f_,t_,f_,f_,f_,f_,f_,f_] rfl rfl (any_of HT_.out (by kernel_rfl)) (fun _ _ _ h => h) (Or.inl ⟨by rfl, ?_⟩) ?_ ?_
          rotate_left
          ·intro w'
           go_simp
           with_reducible rfl
          rotate_left
          ·simp only [Act.put, La_, Lb_, Lc_, i64_w, i32_w]
           rfl
          refine pure_ (i := 7) (N := some 41) (v := ?_) (a' := ?_) #[t_,f_,t_,f_,f_,t_,f_,t_,f_,f_,f_,f_] rfl rfl (any_of HT_.out (by kernel_rfl)) (fun _ _ _ h => h) (Or.inl ⟨by rfl, ?_⟩) ?_ ?_
          rotate_left
          ·intro w'
           go_simp
           with_reducible rfl
          rotate_left
          ·simp only [Act.put, La_, Lb_, Lc_, i64_w, i32_w]
           rfl
          refine take_ (i := 1) (N := some 35) (v := ?_) (a' := ?_) #[t_,t_,t_,f_,f_,t_,f_,t_,f_,f_,f_,f_] rfl rfl (take_ofW HT_.out HW_.out (by kernel_rfl)) (fun _ _ _ h => h) (Or.inl ⟨by rfl, ?_⟩) hHeld ?_ ?_
          rotate_left
          ·rintro w' ⟨s0, s1, s2, s3, s4, s5, s6, s7, s8, s9, s10, s11, s12, s13, s14, s15, s16, s17, s18, s19, s20, s21⟩
           go_simp
           with_reducible rfl
          rotate_left
          ·simp only [Act.put, La_, Lb_, Lc_, i64_w, i32_w]
           rfl
          refine pure_ (i := 3) (N := some 37) (v := ?_) (a' := ?_) #[t_,t_,t_,t_,f_,t_,f_,t_,f_,f_,f_,f_] rfl rfl (any_of HT_.out (by kernel_rfl)) (fun _ _ _ h => h) (Or.inl ⟨by rfl, ?_⟩) ?_ ?_
          rotate_left
          ·intro w'
           go_simp
           with_reducible rfl
          rotate_left
          ·simp only [Act.put, La_, Lb_, Lc_, i64_w, i32_w]
           rfl
          refine take_ (i := 4) (N := some 38) (v := ?_) (a' := ?_) #[t_,t_,t_,t_,t_,t_,f_,t_,f_,f_,f_,f_] rfl rfl (take_ofW HT_.out HW_.out (by kernel_rfl)) (fun _ _ _ h => h) (Or.inl ⟨by rfl, ?_⟩) hHeld ?_ ?_
          rotate_left
          ·rintro w' ⟨s0, s1, s2, s3, s4, s5, s6, s7, s8, s9, s10, s11, s12, s13, s14, s15, s16, s17, s18, s19, s20, s21⟩
           go_simp
           with_reducible rfl
          rotate_left
          ·simp only [Act.put, La_, Lb_, Lc_, i64_w, i32_w]
           rfl
          refine take_ (i := 6) (N := some 40) (v := ?_) (a' := ?_) #[t_,t_,t_,t_,t_,t_,t_,t_,f_,f_,f_,f_] rfl rfl (take_ofW HT_.out HW_.out (by kernel_rfl)) (fun _ _ _ h => h) (Or.inl ⟨by rfl, ?_⟩) hHeld ?_ ?_
          rotate_left
          ·rintro w' ⟨s0, s1, s2, s3, s4, s5, s6, s7, s8, s9, s10, s11, s12, s13, s14, s15, s16, s17, s18, s19, s20, s21⟩
           go_simp
           with_reducible rfl
          rotate_left
          ·simp only [Act.put, La_, Lb_, Lc_, i64_w, i32_w]
           rfl
          refine pure_ (i := 8) (N := some 42) (v := ?_) (a' := ?_) #[t_,t_,t_,t_,t_,t_,t_,t_,t_,f_,f_,f_] rfl rfl (any_of HT_.out (by kernel_rfl)) (fun _ _ _ h => h) (Or.inl ⟨by rfl, ?_⟩) ?_ ?_
          rotate_left
          ·intro w'
           go_simp
           with_reducible rfl
          rotate_left
          ·simp only [Act.put, La_, Lb_, Lc_, i64_w, i32_w]
           rfl
          refine take_ (i := 9) (N := some 43) (v := ?_) (a' := ?_) #[t_,t_,t_,t_,t_,t_,t_,t_,t_,t_,f_,f_] rfl rfl (take_ofW HT_.out HW_.out (by kernel_rfl)) (fun _ _ _ h => h) (Or.inl ⟨by rfl, ?_⟩) hHeld ?_ ?_
          rotate_left
          ·rintro w' ⟨s0, s1, s2, s3, s4, s5, s6, s7, s8, s9, s10, s11, s12, s13, s14, s15, s16, s17, s18, s19, s20, s21⟩
           go_simp
           with_reducible rfl
          rotate_left
          ·simp only [Act.put, La_, Lb_, Lc_, i64_w, i32_w]
           rfl
          refine one_ (i := 10) (N := some 44) #[t_,t_,t_,t_,t_,t_,t_,t_,t_,t_,t_,f_] rfl rfl (one_of HT_.out (by kernel_rfl)) (by decide) (fun K hK => ?_)
          refine goes_ Try.func32 (by kernel_rfl) rfl #[.agg #[.int .i64 ((rd_T53 l0_0 x5_2).f0), .int .i64 ((rd_T53 l0_0 x5_2).f1), .int .i64 ((rd_T53 l0_0 x5_2).f2), .int .i64 ((rd_T53 l0_0 x5_2).f3), .int .i64 ((rd_T53 l0_0 x5_2).f4), .int .i64 ((rd_T53 l0_0 x5_2).f5), .string ((rd_T53 l0_0 x5_2).f6), .slice A272_7 ((rd_T53 l0_0 x5_2).f7).length c272_7], .agg #[.int .i64 ((rd_T53 l1_0 x5_2).f0), .int .i64 ((rd_T53 l1_0 x5_2).f1), .int .i64 ((rd_T53 l1_0 x5_2).f2), .int .i64 ((rd_T53 l1_0 x5_2).f3), .int .i64 ((rd_T53 l1_0 x5_2).f4), .int .i64 ((rd_T53 l1_0 x5_2).f5), .string ((rd_T53 l1_0 x5_2).f6), .slice A273_7 ((rd_T53 l1_0 x5_2).f7).length c273_7]] (by rfl) rfl rfl (by (try simp only [List.map_toArray, List.map_cons, List.map_nil]); first | done | rfl | (simp only [List.length_drop, List.length_take]; rfl)) ?_
          with_reducible refine (flagstoneref06_Alike.calls k2 ((rd_T53 l0_0 x5_2).f0) ((rd_T53 l0_0 x5_2).f1) ((rd_T53 l0_0 x5_2).f2) ((rd_T53 l0_0 x5_2).f3) ((rd_T53 l0_0 x5_2).f4) ((rd_T53 l0_0 x5_2).f5) ((rd_T53 l0_0 x5_2).f6) _ _ ((rd_T53 l0_0 x5_2).f7) ((rd_T53 l1_0 x5_2).f0) ((rd_T53 l1_0 x5_2).f1) ((rd_T53 l1_0 x5_2).f2) ((rd_T53 l1_0 x5_2).f3) ((rd_T53 l1_0 x5_2).f4) ((rd_T53 l1_0 x5_2).f5) ((rd_T53 l1_0 x5_2).f6) _ _ ((rd_T53 l1_0 x5_2).f7) true _ ?side1 ?side2 ?side3 ?side4 A21.out).mono ?_
          (case side1 => repeat (first | exact (Kd.C_below HR272_7.out HB.out) | (with_reducible refine Kd.C_alloc ?_ _) | (with_reducible refine Kd.C_drewN ?_ _) | (with_reducible refine Kd.C_drew ?_)))
          (case side2 => exact HC272_7.out)
          (case side3 => repeat (first | exact (Kd.C_below HR273_7.out HB.out) | (with_reducible refine Kd.C_alloc ?_ _) | (with_reducible refine Kd.C_drewN ?_ _) | (with_reducible refine Kd.C_drew ?_)))
          (case side4 => exact HC273_7.out)
          rintro e w26 ⟨rfl, hb⟩
          refine ⟨_, rfl, ?_⟩
          have n0_ := Am_ (Bb_ (g := gb270) (o := .cells #[.slice (some ad272) l0_0.length c0_0, .int .i64 a0_1, .int .i64 a0_2] 33 (0, 0)) (Pk_ BK270.out) hb)
          have n1_ := Am_ (Bb_ (g := gb271) (o := .cells #[.slice (some ad273) l1_0.length c1_0, .int .i64 a1_1, .int .i64 a1_2] 33 (0, 0)) (Pk_ BK271.out) hb)
          have n2_ := Am_ (Be_ (Pb2_ HB.out GE270.out GE271.out) hb)
          clear BK270
          clear BK271
          clear HB
          have BK270 := n0_
          have BK271 := n1_
          have HB := n2_
          clear n0_ n1_ n2_
          (try clear hb)
          (try clear hb2)
          (try clear hk)
          (try clear hi)
          refine hK.out _ _ ⟨(Bc_ BK270.out 0).trans rfl, (Bc_ BK270.out 1).trans rfl, (Bc_ BK270.out 2).trans rfl, (Bc_ BK271.out 0).trans rfl, (Bc_ BK271.out 1).trans rfl, (Bc_ BK271.out 2).trans rfl, ((HB.out.cell (Bl_ w _ hw272_0)).trans hw272_0), ((HB.out.cell (Bl_ w _ hw272_1)).trans hw272_1), ((HB.out.cell (Bl_ w _ hw272_2)).trans hw272_2), ((HB.out.cell (Bl_ w _ hw272_3)).trans hw272_3), ((HB.out.cell (Bl_ w _ hw272_4)).trans hw272_4), ((HB.out.cell (Bl_ w _ hw272_5)).trans hw272_5), ((HB.out.cell (Bl_ w _ hw272_6)).trans hw272_6), ((HB.out.cell (Bl_ w _ hw272_7)).trans hw272_7), ((HB.out.cell (Bl_ w _ hw273_0)).trans hw273_0), ((HB.out.cell (Bl_ w _ hw273_1)).trans hw273_1), ((HB.out.cell (Bl_ w _ hw273_2)).trans hw273_2), ((HB.out.cell (Bl_ w _ hw273_3)).trans hw273_3), ((HB.out.cell (Bl_ w _ hw273_4)).trans hw273_4), ((HB.out.cell (Bl_ w _ hw273_5)).trans hw273_5), ((HB.out.cell (Bl_ w _ hw273_6)).trans hw273_6), ((HB.out.cell (Bl_ w _ hw273_7)).trans hw273_7)⟩ (fun hHeld => ?_)
          clear hK K
          refine norm_ (a' := ?_) ?_ ?_
          rotate_left
          ·show Act.put _ (some 44) _ = _
           simp only [Act.put, La_, Lb_, Lc_, i64_w, i32_w]
           rfl
          refine pure_ (i := 11) (N := some 45) (v := ?_) (a' := ?_) #[t_,t_,t_,t_,t_,t_,t_,t_,t_,t_,t_,t_] rfl rfl (any_of HT_.out (by kernel_rfl)) (fun _ _ _ h => h) (Or.inl ⟨by rfl, ?_⟩) ?_ ?_
          rotate_left
          ·intro w'
           go_simp
           with_reducible rfl
          rotate_left
          ·simp only [Act.put, La_, Lb_, Lc_, i64_w, i32_w]
           rfl
          refine done_ (done_of HT_.out (by kernel_rfl)) ?_
          try go_wp2
          go_roundg k2
          case measure => have := HJ2.out; have := HK2.out; omega
          case rel => exact ⟨(wrap64 (x5_2 + 1)), (by first | rfl | (simp; done) | (simp [*]; done)), H', ⟨by have := HJ2.out; have := HK2.out; omega⟩, ⟨by (with_reducible repeat (first | refine Bn_ ?_ _ | refine Bd_ ?_ | refine Ba_ ?_ _)); exact BK270.out⟩, ⟨by (with_reducible repeat (first | refine Bn_ ?_ _ | refine Bd_ ?_ | refine Ba_ ?_ _)); exact BK271.out⟩, ⟨by repeat (first | (with_reducible first | exact HB.out | apply Pa_ | apply Pn_ | apply Pd_ | refine Bs_ ?_ GE270.out | refine Bs_ ?_ GE271.out) | exact HB.out)⟩⟩
         ·replace c22 := Bool.eq_false_iff.mpr c22
          subst c22
          have H1 : (some false) = some r := by rw [if_neg (show ¬ (false = true) by decide)] at H; exact H
          clear H
          have H := H1
          clear H1
          obtain rfl := Option.some.inj H
          have hnb27 := NB270_271.out
          have hnc27 := NB271_270.out
          obtain ⟨hcz28_0, hcz28_1, hcz28_2, hfz28_0, hfz28_1, hfz28_2⟩ := Ce3_ BK270.out
          try go_wp2
          have n0_ := Am_ (Bd_ BK270.out)
          have n1_ := Am_ (Bd_ BK271.out)
          have n2_ := Am_ (Pd_ HB.out)
          clear BK270
          clear BK271
          clear HB
          have BK270 := n0_
          have BK271 := n1_
          have HB := n2_
          clear n0_ n1_ n2_
          have p272 : 0 ≤ (x5_2 : Int) := Ot_ (by first | (with_reducible assumption) | assumption)
          have q272 : x5_2 < (l0_0.length : Int) := Ot_ (by first | (with_reducible assumption) | assumption)
          obtain ⟨ad272, A272_7, c272_7, e272, hx272_0, hx272_1, hx272_2, hx272_3, hx272_4, hx272_5, hx272_6, hx272_7, hl272_7, hi272_7⟩ := at_T53 HR0_0.out x5_2 p272 q272
          have hw272_7 := hx272_7
          have hw272_6 := hx272_6
          have hw272_5 := hx272_5
          have hw272_4 := hx272_4
          have hw272_3 := hx272_3
          have hw272_2 := hx272_2
          have hw272_1 := hx272_1
          have hw272_0 := hx272_0
          cases e272
          replace hx272_0 := (HB.out.cell (Bl_ w _ hx272_0)).trans hx272_0
          replace hx272_1 := (HB.out.cell (Bl_ w _ hx272_1)).trans hx272_1
          replace hx272_2 := (HB.out.cell (Bl_ w _ hx272_2)).trans hx272_2
          replace hx272_3 := (HB.out.cell (Bl_ w _ hx272_3)).trans hx272_3
          replace hx272_4 := (HB.out.cell (Bl_ w _ hx272_4)).trans hx272_4
          replace hx272_5 := (HB.out.cell (Bl_ w _ hx272_5)).trans hx272_5
          replace hx272_6 := (HB.out.cell (Bl_ w _ hx272_6)).trans hx272_6
          replace hx272_7 := (HB.out.cell (Bl_ w _ hx272_7)).trans hx272_7
          have HR272_7 := Am_ hi272_7
          have HC272_7 := Am_ hl272_7
          clear hi272_7 hl272_7
          replace p272 := eq_true p272
          replace q272 := eq_true q272
          have p273 : 0 ≤ (x5_2 : Int) := Ot_ (by first | (with_reducible assumption) | assumption)
          have q273 : x5_2 < (l1_0.length : Int) := Ot_ (by first | (with_reducible assumption) | assumption)
          obtain ⟨ad273, A273_7, c273_7, e273, hx273_0, hx273_1, hx273_2, hx273_3, hx273_4, hx273_5, hx273_6, hx273_7, hl273_7, hi273_7⟩ := at_T53 HR1_0.out x5_2 p273 q273
          have hw273_7 := hx273_7
          have hw273_6 := hx273_6
          have hw273_5 := hx273_5
          have hw273_4 := hx273_4
          have hw273_3 := hx273_3
          have hw273_2 := hx273_2
          have hw273_1 := hx273_1
          have hw273_0 := hx273_0
          cases e273
          replace hx273_0 := (HB.out.cell (Bl_ w _ hx273_0)).trans hx273_0
          replace hx273_1 := (HB.out.cell (Bl_ w _ hx273_1)).trans hx273_1
          replace hx273_2 := (HB.out.cell (Bl_ w _ hx273_2)).trans hx273_2
          replace hx273_3 := (HB.out.cell (Bl_ w _ hx273_3)).trans hx273_3
          replace hx273_4 := (HB.out.cell (Bl_ w _ hx273_4)).trans hx273_4
          replace hx273_5 := (HB.out.cell (Bl_ w _ hx273_5)).trans hx273_5
          replace hx273_6 := (HB.out.cell (Bl_ w _ hx273_6)).trans hx273_6
          replace hx273_7 := (HB.out.cell (Bl_ w _ hx273_7)).trans hx273_7
          have HR273_7 := Am_ hi273_7
          have HC273_7 := Am_ hl273_7
          clear hi273_7 hl273_7
          replace p273 := eq_true p273
          replace q273 := eq_true q273
          refine start_ (n := 12) (S := fun w' => w'.cell? ⟨gb270, 0, none⟩ = some (.slice (some ad272) l0_0.length c0_0) ∧ w'.cell? ⟨gb270, 1, none⟩ = some (.int .i64 a0_1) ∧ w'.cell? ⟨gb270, 2, none⟩ = some (.int .i64 a0_2) ∧ w'.cell? ⟨gb271, 0, none⟩ = some (.slice (some ad273) l1_0.length c1_0) ∧ w'.cell? ⟨gb271, 1, none⟩ = some (.int .i64 a1_1) ∧ w'.cell? ⟨gb271, 2, none⟩ = some (.int .i64 a1_2) ∧ w'.cell? (ad272.add ((x5_2).toNat * 8)) = some (.int .i64 ((rd_T53 l0_0 x5_2).f0)) ∧ w'.cell? ⟨(ad272.add ((x5_2).toNat * 8)).block, (ad272.add ((x5_2).toNat * 8)).off + 1, none⟩ = some (.int .i64 ((rd_T53 l0_0 x5_2).f1)) ∧ w'.cell? ⟨(ad272.add ((x5_2).toNat * 8)).block, (ad272.add ((x5_2).toNat * 8)).off + 2, none⟩ = some (.int .i64 ((rd_T53 l0_0 x5_2).f2)) ∧ w'.cell? ⟨(ad272.add ((x5_2).toNat * 8)).block, (ad272.add ((x5_2).toNat * 8)).off + 3, none⟩ = some (.int .i64 ((rd_T53 l0_0 x5_2).f3)) ∧ w'.cell? ⟨(ad272.add ((x5_2).toNat * 8)).block, (ad272.add ((x5_2).toNat * 8)).off + 4, none⟩ = some (.int .i64 ((rd_T53 l0_0 x5_2).f4)) ∧ w'.cell? ⟨(ad272.add ((x5_2).toNat * 8)).block, (ad272.add ((x5_2).toNat * 8)).off + 5, none⟩ = some (.int .i64 ((rd_T53 l0_0 x5_2).f5)) ∧ w'.cell? ⟨(ad272.add ((x5_2).toNat * 8)).block, (ad272.add ((x5_2).toNat * 8)).off + 6, none⟩ = some (.string ((rd_T53 l0_0 x5_2).f6)) ∧ w'.cell? ⟨(ad272.add ((x5_2).toNat * 8)).block, (ad272.add ((x5_2).toNat * 8)).off + 7, none⟩ = some (.slice A272_7 ((rd_T53 l0_0 x5_2).f7).length c272_7) ∧ w'.cell? (ad273.add ((x5_2).toNat * 8)) = some (.int .i64 ((rd_T53 l1_0 x5_2).f0)) ∧ w'.cell? ⟨(ad273.add ((x5_2).toNat * 8)).block, (ad273.add ((x5_2).toNat * 8)).off + 1, none⟩ = some (.int .i64 ((rd_T53 l1_0 x5_2).f1)) ∧ w'.cell? ⟨(ad273.add ((x5_2).toNat * 8)).block, (ad273.add ((x5_2).toNat * 8)).off + 2, none⟩ = some (.int .i64 ((rd_T53 l1_0 x5_2).f2)) ∧ w'.cell? ⟨(ad273.add ((x5_2).toNat * 8)).block, (ad273.add ((x5_2).toNat * 8)).off + 3, none⟩ = some (.int .i64 ((rd_T53 l1_0 x5_2).f3)) ∧ w'.cell? ⟨(ad273.add ((x5_2).toNat * 8)).block, (ad273.add ((x5_2).toNat * 8)).off + 4, none⟩ = some (.int .i64 ((rd_T53 l1_0 x5_2).f4)) ∧ w'.cell? ⟨(ad273.add ((x5_2).toNat * 8)).block, (ad273.add ((x5_2).toNat * 8)).off + 5, none⟩ = some (.int .i64 ((rd_T53 l1_0 x5_2).f5)) ∧ w'.cell? ⟨(ad273.add ((x5_2).toNat * 8)).block, (ad273.add ((x5_2).toNat * 8)).off + 6, none⟩ = some (.string ((rd_T53 l1_0 x5_2).f6)) ∧ w'.cell? ⟨(ad273.add ((x5_2).toNat * 8)).block, (ad273.add ((x5_2).toNat * 8)).off + 7, none⟩ = some (.slice A273_7 ((rd_T53 l1_0 x5_2).f7).length c273_7)) (ds := []) #[f_,f_,f_,f_,f_,f_,f_,f_,f_,f_,f_,f_] (by kernel_rfl) rfl rfl ⟨(Bc_ BK270.out 0).trans rfl, (Bc_ BK270.out 1).trans rfl, (Bc_ BK270.out 2).trans rfl, (Bc_ BK271.out 0).trans rfl, (Bc_ BK271.out 1).trans rfl, (Bc_ BK271.out 2).trans rfl, ((HB.out.cell (Bl_ w _ hw272_0)).trans hw272_0), ((HB.out.cell (Bl_ w _ hw272_1)).trans hw272_1), ((HB.out.cell (Bl_ w _ hw272_2)).trans hw272_2), ((HB.out.cell (Bl_ w _ hw272_3)).trans hw272_3), ((HB.out.cell (Bl_ w _ hw272_4)).trans hw272_4), ((HB.out.cell (Bl_ w _ hw272_5)).trans hw272_5), ((HB.out.cell (Bl_ w _ hw272_6)).trans hw272_6), ((HB.out.cell (Bl_ w _ hw272_7)).trans hw272_7), ((HB.out.cell (Bl_ w _ hw273_0)).trans hw273_0), ((HB.out.cell (Bl_ w _ hw273_1)).trans hw273_1), ((HB.out.cell (Bl_ w _ hw273_2)).trans hw273_2), ((HB.out.cell (Bl_ w _ hw273_3)).trans hw273_3), ((HB.out.cell (Bl_ w _ hw273_4)).trans hw273_4), ((HB.out.cell (Bl_ w _ hw273_5)).trans hw273_5), ((HB.out.cell (Bl_ w _ hw273_6)).trans hw273_6), ((HB.out.cell (Bl_ w _ hw273_7)).trans hw273_7)⟩ (fun hHeld => ?_); refine with_tabW flagstoneref06_Same.tab6 flagstoneref06_Same.bits6 (fun HT_ HW_ => ?_)
          generalize wr.drew = w29 at BK270 BK271 HB HR272_7 HR273_7 hx272_0 hx272_1 hx272_2 hx272_3 hx272_4 hx272_5 hx272_6 hx272_7 hx273_0 hx273_1 hx273_2 hx273_3 hx273_4 hx273_5 hx273_6 hx273_7 hHeld ⊢
          refine pure_ (i := 0) (N := some 34) (v := ?_) (a' := ?_) #[t_,f_,f_,f_,f_,f_,f_,f_,f_,f_,f_,f_] rfl rfl (any_of HT_.out (by kernel_rfl)) (fun _ _ _ h => h) (Or.inl ⟨by rfl, ?_⟩) ?_ ?_
          rotate_left
          ·intro w'
           go_simp
           with_reducible rfl
          rotate_left
          ·simp only [Act.put, La_, Lb_, Lc_, i64_w, i32_w]
           rfl
          refine pure_ (i := 2) (N := some 36) (v := ?_) (a' := ?_) #[t_,f_,t_,f_,f_,f_,f_,f_,f_,f_,f_,f_] rfl rfl (any_of HT_.out (by kernel_rfl)) (fun _ _ _ h => h) (Or.inl ⟨by rfl, ?_⟩) ?_ ?_
          rotate_left
          ·intro w'
           go_simp
           with_reducible rfl
          rotate_left
          ·simp only [Act.put, La_, Lb_, Lc_, i64_w, i32_w]
           rfl
          refine pure_ (i := 5) (N := some 39) (v := ?_) (a' := ?_) #[t_,f_,t_,f_,f_,t_,f_,f_,f_,f_,f_,f_] rfl rfl (any_of HT_.out (by kernel_rfl)) (fun _ _ _ h => h) (Or.inl ⟨by rfl, ?_⟩) ?_ ?_
          rotate_left
          ·intro w'
           go_simp
           with_reducible rfl
          rotate_left
          ·simp only [Act.put, La_, Lb_, Lc_, i64_w, i32_w]
           rfl
          refine pure_ (i := 7) (N := some 41) (v := ?_) (a' := ?_) #[t_,f_,t_,f_,f_,t_,f_,t_,f_,f_,f_,f_] rfl rfl (any_of HT_.out (by kernel_rfl)) (fun _ _ _ h => h) (Or.inl ⟨by rfl, ?_⟩) ?_ ?_
          rotate_left
          ·intro w'
           go_simp
           with_reducible rfl
          rotate_left
          ·simp only [Act.put, La_, Lb_, Lc_, i64_w, i32_w]
           rfl
          refine take_ (i := 1) (N := some 35) (v := ?_) (a' := ?_) #[t_,t_,t_,f_,f_,t_,f_,t_,f_,f_,f_,f_] rfl rfl (take_ofW HT_.out HW_.out (by kernel_rfl)) (fun _ _ _ h => h) (Or.inl ⟨by rfl, ?_⟩) hHeld ?_ ?_
          rotate_left
          ·rintro w' ⟨s0, s1, s2, s3, s4, s5, s6, s7, s8, s9, s10, s11, s12, s13, s14, s15, s16, s17, s18, s19, s20, s21⟩
           go_simp
           with_reducible rfl
          rotate_left
          ·simp only [Act.put, La_, Lb_, Lc_, i64_w, i32_w]
           rfl
          refine pure_ (i := 3) (N := some 37) (v := ?_) (a' := ?_) #[t_,t_,t_,t_,f_,t_,f_,t_,f_,f_,f_,f_] rfl rfl (any_of HT_.out (by kernel_rfl)) (fun _ _ _ h => h) (Or.inl ⟨by rfl, ?_⟩) ?_ ?_
          rotate_left
          ·intro w'
           go_simp
           with_reducible rfl
          rotate_left
          ·simp only [Act.put, La_, Lb_, Lc_, i64_w, i32_w]
           rfl
          refine take_ (i := 4) (N := some 38) (v := ?_) (a' := ?_) #[t_,t_,t_,t_,t_,t_,f_,t_,f_,f_,f_,f_] rfl rfl (take_ofW HT_.out HW_.out (by kernel_rfl)) (fun _ _ _ h => h) (Or.inl ⟨by rfl, ?_⟩) hHeld ?_ ?_
          rotate_left
          ·rintro w' ⟨s0, s1, s2, s3, s4, s5, s6, s7, s8, s9, s10, s11, s12, s13, s14, s15, s16, s17, s18, s19, s20, s21⟩
           go_simp
           with_reducible rfl
          rotate_left
          ·simp only [Act.put, La_, Lb_, Lc_, i64_w, i32_w]
           rfl
          refine take_ (i := 6) (N := some 40) (v := ?_) (a' := ?_) #[t_,t_,t_,t_,t_,t_,t_,t_,f_,f_,f_,f_] rfl rfl (take_ofW HT_.out HW_.out (by kernel_rfl)) (fun _ _ _ h => h) (Or.inl ⟨by rfl, ?_⟩) hHeld ?_ ?_
          rotate_left
          ·rintro w' ⟨s0, s1, s2, s3, s4, s5, s6, s7, s8, s9, s10, s11, s12, s13, s14, s15, s16, s17, s18, s19, s20, s21⟩
           go_simp
           with_reducible rfl
          rotate_left
          ·simp only [Act.put, La_, Lb_, Lc_, i64_w, i32_w]
           rfl
          refine pure_ (i := 8) (N := some 42) (v := ?_) (a' := ?_) #[t_,t_,t_,t_,t_,t_,t_,t_,t_,f_,f_,f_] rfl rfl (any_of HT_.out (by kernel_rfl)) (fun _ _ _ h => h) (Or.inl ⟨by rfl, ?_⟩) ?_ ?_
          rotate_left
          ·intro w'
           go_simp
           with_reducible rfl
          rotate_left
          ·simp only [Act.put, La_, Lb_, Lc_, i64_w, i32_w]
           rfl
          refine take_ (i := 9) (N := some 43) (v := ?_) (a' := ?_) #[t_,t_,t_,t_,t_,t_,t_,t_,t_,t_,f_,f_] rfl rfl (take_ofW HT_.out HW_.out (by kernel_rfl)) (fun _ _ _ h => h) (Or.inl ⟨by rfl, ?_⟩) hHeld ?_ ?_
          rotate_left
          ·rintro w' ⟨s0, s1, s2, s3, s4, s5, s6, s7, s8, s9, s10, s11, s12, s13, s14, s15, s16, s17, s18, s19, s20, s21⟩
           go_simp
           with_reducible rfl
          rotate_left
          ·simp only [Act.put, La_, Lb_, Lc_, i64_w, i32_w]
           rfl
          refine one_ (i := 10) (N := some 44) #[t_,t_,t_,t_,t_,t_,t_,t_,t_,t_,t_,f_] rfl rfl (one_of HT_.out (by kernel_rfl)) (by decide) (fun K hK => ?_)
          refine goes_ Try.func32 (by kernel_rfl) rfl #[.agg #[.int .i64 ((rd_T53 l0_0 x5_2).f0), .int .i64 ((rd_T53 l0_0 x5_2).f1), .int .i64 ((rd_T53 l0_0 x5_2).f2), .int .i64 ((rd_T53 l0_0 x5_2).f3), .int .i64 ((rd_T53 l0_0 x5_2).f4), .int .i64 ((rd_T53 l0_0 x5_2).f5), .string ((rd_T53 l0_0 x5_2).f6), .slice A272_7 ((rd_T53 l0_0 x5_2).f7).length c272_7], .agg #[.int .i64 ((rd_T53 l1_0 x5_2).f0), .int .i64 ((rd_T53 l1_0 x5_2).f1), .int .i64 ((rd_T53 l1_0 x5_2).f2), .int .i64 ((rd_T53 l1_0 x5_2).f3), .int .i64 ((rd_T53 l1_0 x5_2).f4), .int .i64 ((rd_T53 l1_0 x5_2).f5), .string ((rd_T53 l1_0 x5_2).f6), .slice A273_7 ((rd_T53 l1_0 x5_2).f7).length c273_7]] (by rfl) rfl rfl (by (try simp only [List.map_toArray, List.map_cons, List.map_nil]); first | done | rfl | (simp only [List.length_drop, List.length_take]; rfl)) ?_
          with_reducible refine (flagstoneref06_Alike.calls k2 ((rd_T53 l0_0 x5_2).f0) ((rd_T53 l0_0 x5_2).f1) ((rd_T53 l0_0 x5_2).f2) ((rd_T53 l0_0 x5_2).f3) ((rd_T53 l0_0 x5_2).f4) ((rd_T53 l0_0 x5_2).f5) ((rd_T53 l0_0 x5_2).f6) _ _ ((rd_T53 l0_0 x5_2).f7) ((rd_T53 l1_0 x5_2).f0) ((rd_T53 l1_0 x5_2).f1) ((rd_T53 l1_0 x5_2).f2) ((rd_T53 l1_0 x5_2).f3) ((rd_T53 l1_0 x5_2).f4) ((rd_T53 l1_0 x5_2).f5) ((rd_T53 l1_0 x5_2).f6) _ _ ((rd_T53 l1_0 x5_2).f7) false _ ?side1 ?side2 ?side3 ?side4 A21.out).mono ?_
          (case side1 => repeat (first | exact (Kd.C_below HR272_7.out HB.out) | (with_reducible refine Kd.C_alloc ?_ _) | (with_reducible refine Kd.C_drewN ?_ _) | (with_reducible refine Kd.C_drew ?_)))
          (case side2 => exact HC272_7.out)
          (case side3 => repeat (first | exact (Kd.C_below HR273_7.out HB.out) | (with_reducible refine Kd.C_alloc ?_ _) | (with_reducible refine Kd.C_drewN ?_ _) | (with_reducible refine Kd.C_drew ?_)))
          (case side4 => exact HC273_7.out)
          rintro e w30 ⟨rfl, hb⟩
          refine ⟨_, rfl, ?_⟩
          have n0_ := Am_ (Bb_ (g := gb270) (o := .cells #[.slice (some ad272) l0_0.length c0_0, .int .i64 a0_1, .int .i64 a0_2] 33 (0, 0)) (Pk_ BK270.out) hb)
          have n1_ := Am_ (Bb_ (g := gb271) (o := .cells #[.slice (some ad273) l1_0.length c1_0, .int .i64 a1_1, .int .i64 a1_2] 33 (0, 0)) (Pk_ BK271.out) hb)
          have n2_ := Am_ (Be_ (Pb2_ HB.out GE270.out GE271.out) hb)
          clear BK270
          clear BK271
          clear HB
          have BK270 := n0_
          have BK271 := n1_
          have HB := n2_
          clear n0_ n1_ n2_
          (try clear hb)
          (try clear hb2)
          (try clear hk)
          (try clear hi)
          refine hK.out _ _ ⟨(Bc_ BK270.out 0).trans rfl, (Bc_ BK270.out 1).trans rfl, (Bc_ BK270.out 2).trans rfl, (Bc_ BK271.out 0).trans rfl, (Bc_ BK271.out 1).trans rfl, (Bc_ BK271.out 2).trans rfl, ((HB.out.cell (Bl_ w _ hw272_0)).trans hw272_0), ((HB.out.cell (Bl_ w _ hw272_1)).trans hw272_1), ((HB.out.cell (Bl_ w _ hw272_2)).trans hw272_2), ((HB.out.cell (Bl_ w _ hw272_3)).trans hw272_3), ((HB.out.cell (Bl_ w _ hw272_4)).trans hw272_4), ((HB.out.cell (Bl_ w _ hw272_5)).trans hw272_5), ((HB.out.cell (Bl_ w _ hw272_6)).trans hw272_6), ((HB.out.cell (Bl_ w _ hw272_7)).trans hw272_7), ((HB.out.cell (Bl_ w _ hw273_0)).trans hw273_0), ((HB.out.cell (Bl_ w _ hw273_1)).trans hw273_1), ((HB.out.cell (Bl_ w _ hw273_2)).trans hw273_2), ((HB.out.cell (Bl_ w _ hw273_3)).trans hw273_3), ((HB.out.cell (Bl_ w _ hw273_4)).trans hw273_4), ((HB.out.cell (Bl_ w _ hw273_5)).trans hw273_5), ((HB.out.cell (Bl_ w _ hw273_6)).trans hw273_6), ((HB.out.cell (Bl_ w _ hw273_7)).trans hw273_7)⟩ (fun hHeld => ?_)
          clear hK K
          refine norm_ (a' := ?_) ?_ ?_
          rotate_left
          ·show Act.put _ (some 44) _ = _
           simp only [Act.put, La_, Lb_, Lc_, i64_w, i32_w]
           rfl
          refine pure_ (i := 11) (N := some 45) (v := ?_) (a' := ?_) #[t_,t_,t_,t_,t_,t_,t_,t_,t_,t_,t_,t_] rfl rfl (any_of HT_.out (by kernel_rfl)) (fun _ _ _ h => h) (Or.inl ⟨by rfl, ?_⟩) ?_ ?_
          rotate_left
          ·intro w'
           go_simp
           with_reducible rfl
          rotate_left
          ·simp only [Act.put, La_, Lb_, Lc_, i64_w, i32_w]
           rfl
          refine done_ (done_of HT_.out (by kernel_rfl)) ?_
          try go_wp2
          go_ret
          exact ⟨by first | rfl | (simp [errW_none, errW_some] <;> rfl) | (simp [*, errW_none, errW_some] <;> rfl), by repeat (first | (with_reducible first | exact HB.out | apply Pa_ | apply Pn_ | apply Pd_ | refine Bs_ ?_ GE270.out | refine Bs_ ?_ GE271.out) | exact HB.out)⟩
        ·rw [if_neg c20] at H
         exact absurd H (by simp)
       ·rw [if_neg c19] at H
        exact absurd H (by simp)
      ·rw [if_neg c18] at H
       have c18b0 : decide (x5_2 < (l0_0.length : Int)) = false := Df_ c18
       clear c18
       obtain rfl := Option.some.inj H
       have hnb31 := NB270_271.out
       have hnc31 := NB271_270.out
       obtain ⟨hcz32_0, hcz32_1, hcz32_2, hfz32_0, hfz32_1, hfz32_2⟩ := Ce3_ BK270.out
       go_wp2
       go_ret
       exact ⟨by first | rfl | (simp [errW_none, errW_some] <;> rfl) | (simp [*, errW_none, errW_some] <;> rfl), by repeat (first | (with_reducible first | exact HB.out | apply Pa_ | apply Pn_ | apply Pd_ | refine Bs_ ?_ GE270.out | refine Bs_ ?_ GE271.out) | exact HB.out)⟩

end Go.Proofs.Ytpeelfambaedkaa.P
