-- Printed by a program of this session (inject.py) over the kit's print, with functions that were proved by hand in their places.
import Derived.Test.YtpeelfambaedkaaPK
import Derived.Test.YtpeelfambaedkaaPlaw09small
import Derived.Test.YtpeelfambaedkaaPcontentRead
import Derived.Test.YtpeelfambaedkaaPcontentWrite
import Derived.Test.YtpeelfambaedkaaPlaw09shown
import Derived.Test.YtpeelfambaedkaaPlaw09its
import Derived.Test.YtpeelfambaedkaaPref06Same
namespace Go.Proofs.Ytpeelfambaedkaa.P
open Go.RowKit Go.Proofs.YtpeelfambaedkaaW.PrintWords Go.Proofs.YtpeelfambaedkaaW.PrintLast Go.Proofs.YtpeelfambaedkaaW.PrintMore
attribute [local go_sem] max2_int min2_int max_two min_two max_three min_three max_four min_four   -- for this text's walks alone
set_option linter.unusedVariables false
set_option linter.unusedSimpArgs false

/-! ### flagstonelaw09_ContentParts: function 7 -/
mutual
def flagstonelaw09_ContentParts.j0 : Nat → Int → Int → Int → Int → ByteArray → ByteArray → Bool → List (S59) → Int → Int → Option (Bool)
 | 0, _, _, _, _, _, _, _, _, _, _ => none
 | k + 1, x1, x2, x3, x4, x5, x6, x44, x581000, x581001, x581002 => if x44 = true then ((flagstonelaw09_shown.f).bind fun t583 => (some t583)) else ((content_Read.f x581000 x581001 x581002 x1 (wrap64 (x2)) (wrap64 ((wrap64 (x3)) + (wrap64 (x4))))).bind fun bt584 => ((content_Read.f x581000 x581001 x581002 x1 (wrap64 (x2)) (wrap64 (x3))).bind fun bt586 => ((content_Read.f x581000 x581001 x581002 x1 (wrap64 ((wrap64 (x2)) + (wrap64 (x3)))) (wrap64 (x4))).bind fun bt588 => (if bt584.2 = bt586.2 then (if bt586.2 = bt588.2 then (if bt586.1.size + bt588.1.size ≤ 9223372036854775807 then (flagstonelaw09_ContentParts.j1 k x1 x5 x6 (wrap64 (x2)) (bt584.1.toList != (bt586.1 ++ bt588.1).toList) x581000 x581001 x581002) else (none)) else (flagstonelaw09_ContentParts.j1 k x1 x5 x6 (wrap64 (x2)) true x581000 x581001 x581002)) else (flagstonelaw09_ContentParts.j1 k x1 x5 x6 (wrap64 (x2)) true x581000 x581001 x581002)))))
def flagstonelaw09_ContentParts.j1 : Nat → Int → ByteArray → ByteArray → Int → Bool → List (S59) → Int → Int → Option (Bool)
 | 0, _, _, _, _, _, _, _, _ => none
 | k + 1, x1, x5, x6, x15, x95, x581000, x581001, x581002 => if x95 = true then (none) else (if x5.size + x6.size ≤ 9223372036854775807 then ((content_Write.f x581000 x581001 x581002 x1 x15 (x5 ++ x6)).bind fun bt590 => ((content_Write.f x581000 x581001 x581002 x1 x15 x5).bind fun bt597 => ((content_Write.f bt597.1 bt597.2.1 bt597.2.2.1 x1 (wrap64 (x15 + (x5.size : Int))) x6).bind fun bt604 => (if bt590.2.2.2 = 0 then (if bt604.2.2.2 = 0 then ((flagstonelaw09_its.f k bt590.1 bt590.2.1 bt590.2.2.1).bind fun bt611 => ((flagstonelaw09_its.f k bt604.1 bt604.2.1 bt604.2.2.1).bind fun bt616 => ((flagstoneref06_Same.f k bt611.1 bt611.2.1 bt611.2.2 bt616.1 bt616.2.1 bt616.2.2).bind fun t621 => (some t621)))) else (none)) else (some true))))) else (none))
end
def flagstonelaw09_ContentParts.f (k : Nat) (l0_0 : List (S59)) (a0_1 : Int) (a0_2 : Int) (a1 : Int) (a2 : Int) (a3 : Int) (a4 : Int) (a5 : ByteArray) (a6 : ByteArray) : Option (Bool) := (flagstonelaw09_small.f k l0_0 a0_1 a0_2).bind fun t581 => (if t581 = true then (if (a5.size : Int) > 200 then (flagstonelaw09_ContentParts.j0 k a1 a2 a3 a4 a5 a6 true l0_0 a0_1 a0_2) else (if (a6.size : Int) > 200 then (flagstonelaw09_ContentParts.j0 k a1 a2 a3 a4 a5 a6 true l0_0 a0_1 a0_2) else ((flagstonelaw09_shown.f).bind fun t582 => (flagstonelaw09_ContentParts.j0 k a1 a2 a3 a4 a5 a6 (!t582) l0_0 a0_1 a0_2)))) else (flagstonelaw09_ContentParts.j0 k a1 a2 a3 a4 a5 a6 true l0_0 a0_1 a0_2))
theorem flagstonelaw09_ContentParts.mono_l : ∀ k, (∀ y0 y1 y2 y3 y4 y5 y6 y7 y8 y9, LeO (flagstonelaw09_ContentParts.j0 k y0 y1 y2 y3 y4 y5 y6 y7 y8 y9) (flagstonelaw09_ContentParts.j0 (k + 1) y0 y1 y2 y3 y4 y5 y6 y7 y8 y9)) ∧ (∀ y0 y1 y2 y3 y4 y5 y6 y7, LeO (flagstonelaw09_ContentParts.j1 k y0 y1 y2 y3 y4 y5 y6 y7) (flagstonelaw09_ContentParts.j1 (k + 1) y0 y1 y2 y3 y4 y5 y6 y7))
 | 0 => ⟨fun _ _ _ _ _ _ _ _ _ _ r h => by simp [flagstonelaw09_ContentParts.j0] at h, fun _ _ _ _ _ _ _ _ r h => by simp [flagstonelaw09_ContentParts.j1] at h⟩
 | k + 1 => by
  obtain ⟨ih0, ih1⟩ := flagstonelaw09_ContentParts.mono_l k
  refine ⟨?_, ?_⟩
  ·intro y0 y1 y2 y3 y4 y5 y6 y7 y8 y9
   unfold flagstonelaw09_ContentParts.j0
   repeat' first
   | (with_reducible exact ih0 _ _ _ _ _ _ _ _ _ _)
   | (with_reducible exact ih1 _ _ _ _ _ _ _ _)
   | (with_reducible exact flagstonelaw09_its.mono _ _ _ _)
   | (with_reducible exact flagstonelaw09_small.mono _ _ _ _)
   | (with_reducible exact flagstoneref06_Same.mono _ _ _ _ _ _ _)
   | (with_reducible exact LeO.refl _)
   | (with_reducible exact LeO.none _)
   | (with_reducible refine LeO.ite ?_ ?_)
   | (with_reducible refine LeO.bind ?_ (fun _ => ?_))
   | exact ih0 _ _ _ _ _ _ _ _ _ _
   | exact ih1 _ _ _ _ _ _ _ _
   | exact flagstonelaw09_its.mono _ _ _ _
   | exact flagstonelaw09_small.mono _ _ _ _
   | exact flagstoneref06_Same.mono _ _ _ _ _ _ _
   | exact LeO.none _
   | refine LeO.ite ?_ ?_
   | refine LeO.bind ?_ (fun _ => ?_)
  ·intro y0 y1 y2 y3 y4 y5 y6 y7
   unfold flagstonelaw09_ContentParts.j1
   repeat' first
   | (with_reducible exact ih0 _ _ _ _ _ _ _ _ _ _)
   | (with_reducible exact ih1 _ _ _ _ _ _ _ _)
   | (with_reducible exact flagstonelaw09_its.mono _ _ _ _)
   | (with_reducible exact flagstonelaw09_small.mono _ _ _ _)
   | (with_reducible exact flagstoneref06_Same.mono _ _ _ _ _ _ _)
   | (with_reducible exact LeO.refl _)
   | (with_reducible exact LeO.none _)
   | (with_reducible refine LeO.ite ?_ ?_)
   | (with_reducible refine LeO.bind ?_ (fun _ => ?_))
   | exact ih0 _ _ _ _ _ _ _ _ _ _
   | exact ih1 _ _ _ _ _ _ _ _
   | exact flagstonelaw09_its.mono _ _ _ _
   | exact flagstonelaw09_small.mono _ _ _ _
   | exact flagstoneref06_Same.mono _ _ _ _ _ _ _
   | exact LeO.none _
   | refine LeO.ite ?_ ?_
   | refine LeO.bind ?_ (fun _ => ?_)
theorem flagstonelaw09_ContentParts.mono : ∀ a0 a1 a2 a3 a4 a5 a6 a7 a8 k, LeO (flagstonelaw09_ContentParts.f k a0 a1 a2 a3 a4 a5 a6 a7 a8) (flagstonelaw09_ContentParts.f (k + 1) a0 a1 a2 a3 a4 a5 a6 a7 a8) := by
 intro a0 a1 a2 a3 a4 a5 a6 a7 a8 k
 obtain ⟨ih0, ih1⟩ := flagstonelaw09_ContentParts.mono_l k
 unfold flagstonelaw09_ContentParts.f
 repeat' first
   | (with_reducible exact ih0 _ _ _ _ _ _ _ _ _ _)
   | (with_reducible exact ih1 _ _ _ _ _ _ _ _)
   | (with_reducible exact flagstonelaw09_its.mono _ _ _ _)
   | (with_reducible exact flagstonelaw09_small.mono _ _ _ _)
   | (with_reducible exact flagstoneref06_Same.mono _ _ _ _ _ _ _)
   | (with_reducible exact LeO.refl _)
   | (with_reducible exact LeO.none _)
   | (with_reducible refine LeO.ite ?_ ?_)
   | (with_reducible refine LeO.bind ?_ (fun _ => ?_))
   | exact ih0 _ _ _ _ _ _ _ _ _ _
   | exact ih1 _ _ _ _ _ _ _ _
   | exact flagstonelaw09_its.mono _ _ _ _
   | exact flagstonelaw09_small.mono _ _ _ _
   | exact flagstoneref06_Same.mono _ _ _ _ _ _ _
   | exact LeO.none _
   | refine LeO.ite ?_ ?_
   | refine LeO.bind ?_ (fun _ => ?_)
def flagstonelaw09_ContentParts.T14 : Bool × List (List Nat × List Nat) := (true, [([], []), ([0], [0]), ([1], [1]), ([2], [2]), ([3, 2, 2], [2, 3]), ([2], [2]), ([5, 4, 2], [2, 5]), ([4, 6, 6, 2], [2, 4, 6]), ([2, 7], [2, 7]), ([8, 7, 0, 1, 2, 3, 4, 5, 6, 7, 8], [8])])
def flagstonelaw09_ContentParts.B14 : List Nat := [0, 1, 3, 7, 15, 7, 63, 127, 255, 511]
theorem flagstonelaw09_ContentParts.tab14 : rtab .any (opsOf Try.f7 14) = flagstonelaw09_ContentParts.T14 := by kernel_rfl
theorem flagstonelaw09_ContentParts.bits14 : waitsOk flagstonelaw09_ContentParts.T14.2 flagstonelaw09_ContentParts.B14 = true := by kernel_rfl
set_option maxHeartbeats 8000000 in
set_option maxRecDepth 100000 in
theorem flagstonelaw09_ContentParts.calls (k : Nat) (A0_0 : Option Addr) (c0_0 : Nat) (l0_0 : List (S59)) (a0_1 : Int) (a0_2 : Int) (a1 : Int) (a2 : Int) (a3 : Int) (a4 : Int) (a5 : ByteArray) (a6 : ByteArray) (r : Bool) (w : World) (hr0_0 : Kd.C k59 w A0_0 l0_0.length l0_0) (hc0_0 : l0_0.length ≤ c0_0) (h : flagstonelaw09_ContentParts.f k l0_0 a0_1 a0_2 a1 a2 a3 a4 a5 a6 = some r) :
  Calls Try.prog 7 #[.agg #[.slice A0_0 l0_0.length c0_0, .int .i64 a0_1, .int .i64 a0_2], .int .i64 a1, .int .u8 a2, .int .u8 a3, .int .u8 a4, .string a5, .string a6] w fun e w' => e = .returned (.bool r) ∧ Below w.heap.size w w' := by
 have hu24 := Try.underlying24
 have HR0_0 := Am_ hr0_0
 have HC0_0 := Am_ hc0_0
 clear hr0_0 hc0_0
 have HB := Am_ (Below.refl w.heap.size w)
 have H : ((flagstonelaw09_small.f k l0_0 a0_1 a0_2).bind fun t581 => (if t581 = true then (if (a5.size : Int) > 200 then (flagstonelaw09_ContentParts.j0 k a1 a2 a3 a4 a5 a6 true l0_0 a0_1 a0_2) else (if (a6.size : Int) > 200 then (flagstonelaw09_ContentParts.j0 k a1 a2 a3 a4 a5 a6 true l0_0 a0_1 a0_2) else ((flagstonelaw09_shown.f).bind fun t582 => (flagstonelaw09_ContentParts.j0 k a1 a2 a3 a4 a5 a6 (!t582) l0_0 a0_1 a0_2)))) else (flagstonelaw09_ContentParts.j0 k a1 a2 a3 a4 a5 a6 true l0_0 a0_1 a0_2))) = some r := h
 clear h
 have HC8 := Am_ H
 clear H
 go_enter Try.func7, Try.ntmps7
 go_upto_region 1 with (first | ((with_reducible refine gate_dst (N := 7) rfl ?_); (try (refine gate_guard (by rfl) ?_; dsimp only)); refine box_event ?hg (N := 7) ?hd (cs := #[.slice A0_0 l0_0.length c0_0, .int .i64 a0_1, .int .i64 a0_2]) (t := 24) ?hr ?_; (case hd => rfl); (case hg => rfl); (case hr => first | (go_simp; done) | (go_simp; rfl)); intro gb580 hg w9 hbox hb; have n0_ := Am_ (Be_ (by repeat (first | (with_reducible first | exact HB.out | apply Pa_ | apply Pn_ | apply Pd_) | exact HB.out)) hb); have n1_ := Am_ (hbox); have n2_ := Am_ ((by rw [hg]; exact (Bz_ (by repeat (first | (with_reducible first | exact HB.out | apply Pa_ | apply Pn_ | apply Pd_) | exact HB.out))) : w.heap.size ≤ gb580)); have n3_ := Am_ ((by rw [hg]; exact (Bz_ (by repeat (first | (with_reducible first | exact HB.out | apply Pa_ | apply Pn_ | apply Pd_) | exact HB.out))) : w.heap.size ≤ gb580)); clear HB; have HB := n0_; have BK580 := n1_; have GW580 := n2_; have GE580 := n3_; clear n0_ n1_ n2_ n3_; clear hb hbox hg))
 (try simp only [Act.put, La_, Lb_, Lc_])
 go_cut [44] (fun v44 wc => ∃ (kq : Nat) (x44_7 : Bool), v44 = .bool x44_7 ∧ Aside0 (flagstonelaw09_ContentParts.j0 kq a1 a2 a3 a4 a5 a6 x44_7 l0_0 a0_1 a0_2 = some r) ∧ Aside0 (kq ≤ k) ∧ Aside0 (wc.heap[gb580]? = some (.cells #[(.slice A0_0 l0_0.length c0_0), .int .i64 a0_1, .int .i64 a0_2] 24 (0, 0))) ∧ Aside0 (Below w.heap.size w wc))
 case first =>
  have H := HC8.out
  clear HC8
  replace H := Option.bind_eq_some_iff.mp H
  obtain ⟨t581, A100, H⟩ := H
  replace H : (if t581 = true then (if (a5.size : Int) > 200 then (flagstonelaw09_ContentParts.j0 k a1 a2 a3 a4 a5 a6 true l0_0 a0_1 a0_2) else (if (a6.size : Int) > 200 then (flagstonelaw09_ContentParts.j0 k a1 a2 a3 a4 a5 a6 true l0_0 a0_1 a0_2) else ((flagstonelaw09_shown.f).bind fun t582 => (flagstonelaw09_ContentParts.j0 k a1 a2 a3 a4 a5 a6 (!t582) l0_0 a0_1 a0_2)))) else (flagstonelaw09_ContentParts.j0 k a1 a2 a3 a4 a5 a6 true l0_0 a0_1 a0_2)) = some r := H
  have A10 := Am_ A100
  clear A100
  by_cases c11 : t581 = true
  ·subst c11
   have H1 : (if (a5.size : Int) > 200 then (flagstonelaw09_ContentParts.j0 k a1 a2 a3 a4 a5 a6 true l0_0 a0_1 a0_2) else (if (a6.size : Int) > 200 then (flagstonelaw09_ContentParts.j0 k a1 a2 a3 a4 a5 a6 true l0_0 a0_1 a0_2) else ((flagstonelaw09_shown.f).bind fun t582 => (flagstonelaw09_ContentParts.j0 k a1 a2 a3 a4 a5 a6 (!t582) l0_0 a0_1 a0_2)))) = some r := by rw [if_pos rfl] at H; exact H
   clear H
   have H := H1
   clear H1
   by_cases c12 : (a5.size : Int) > 200
   ·rw [if_pos c12] at H
    have c12b0 : decide (200 < (a5.size : Int)) = true := Dt_ c12
    have c12b1 : decide (200 < a5.size) = true := Dt_ (by omega)
    clear c12
    (first | rw [c12b0] | (simp only [i64_w, i32_w]; rw [c12b0]) | skip)
    have H' := Am_ H
    clear H
    have hcz13_0 : w9.cell? ⟨gb580, 0, none⟩ = some (.slice A0_0 l0_0.length c0_0) := (Bc_ BK580.out 0).trans rfl
    have hcz13_1 : w9.cell? ⟨gb580, 1, none⟩ = some (.int .i64 a0_1) := (Bc_ BK580.out 1).trans rfl
    have hcz13_2 : w9.cell? ⟨gb580, 2, none⟩ = some (.int .i64 a0_2) := (Bc_ BK580.out 2).trans rfl
    have hfz13_0 := Bf_ BK580.out 0
    have hfz13_1 := Bf_ BK580.out 1
    have hfz13_2 := Bf_ BK580.out 2
    go_wp2_with (first | ((with_reducible refine gate_callee (f := 9) rfl ?_); refine goesL_ (some 29) rfl rfl Try.func9 (by kernel_rfl) rfl #[.agg #[.slice A0_0 l0_0.length c0_0, .int .i64 a0_1, .int .i64 a0_2]] rfl (by (try simp only [List.map_toArray, List.map_cons, List.map_nil]); first | done | rfl | (simp only [List.length_drop, List.length_take]; rfl)) ?_; (with_reducible refine (flagstonelaw09_small.calls k _ _ l0_0 a0_1 a0_2 true _ ?side1 ?side2 A10.out).mono ?_); (case side1 => repeat (first | exact (Kd.C_below HR0_0.out HB.out) | (with_reducible refine Kd.C_alloc ?_ _) | (with_reducible refine Kd.C_drewN ?_ _) | (with_reducible refine Kd.C_drew ?_))); (case side2 => exact HC0_0.out); rintro e w14 ⟨rfl, hb⟩; refine ⟨_, rfl, ?_⟩; have n0_ := Am_ (Bb_ (g := gb580) (o := .cells #[.slice A0_0 l0_0.length c0_0, .int .i64 a0_1, .int .i64 a0_2] 24 (0, 0)) (by (with_reducible repeat (first | refine Bn_ ?_ _ | refine Bd_ ?_ | refine Ba_ ?_ _)); exact BK580.out) hb); have n1_ := Am_ (Be_ (by repeat (first | (with_reducible first | exact HB.out | apply Pa_ | apply Pn_ | apply Pd_ | refine Bs_ ?_ GE580.out) | exact HB.out)) hb); clear BK580; clear HB; have BK580 := n0_; have HB := n1_; clear n0_ n1_; (try clear hb); (try clear hb2); (try clear hk); (try clear hi)))
    go_meet
    case rel => exact ⟨_, (true), (by first | rfl | (simp; done) | (simp [*]; done)), H', ⟨by first | omega | exact Nat.le_refl _⟩, ⟨by (with_reducible repeat (first | refine Bn_ ?_ _ | refine Bd_ ?_ | refine Ba_ ?_ _)); exact BK580.out⟩, ⟨by repeat (first | (with_reducible first | exact HB.out | apply Pa_ | apply Pn_ | apply Pd_ | refine Bs_ ?_ GE580.out) | exact HB.out)⟩⟩
   ·rw [if_neg c12] at H
    have c12b0 : decide (200 < (a5.size : Int)) = false := Df_ c12
    have c12b1 : decide (200 < a5.size) = false := Df_ (by omega)
    clear c12
    (first | rw [c12b0] | (simp only [i64_w, i32_w]; rw [c12b0]) | skip)
    by_cases c15 : (a6.size : Int) > 200
    ·rw [if_pos c15] at H
     have c15b0 : decide (200 < (a6.size : Int)) = true := Dt_ c15
     have c15b1 : decide (200 < a6.size) = true := Dt_ (by omega)
     clear c15
     have H' := Am_ H
     clear H
     have hcz16_0 : w9.cell? ⟨gb580, 0, none⟩ = some (.slice A0_0 l0_0.length c0_0) := (Bc_ BK580.out 0).trans rfl
     have hcz16_1 : w9.cell? ⟨gb580, 1, none⟩ = some (.int .i64 a0_1) := (Bc_ BK580.out 1).trans rfl
     have hcz16_2 : w9.cell? ⟨gb580, 2, none⟩ = some (.int .i64 a0_2) := (Bc_ BK580.out 2).trans rfl
     have hfz16_0 := Bf_ BK580.out 0
     have hfz16_1 := Bf_ BK580.out 1
     have hfz16_2 := Bf_ BK580.out 2
     go_wp2_with (first | ((with_reducible refine gate_callee (f := 9) rfl ?_); refine goesL_ (some 29) rfl rfl Try.func9 (by kernel_rfl) rfl #[.agg #[.slice A0_0 l0_0.length c0_0, .int .i64 a0_1, .int .i64 a0_2]] rfl (by (try simp only [List.map_toArray, List.map_cons, List.map_nil]); first | done | rfl | (simp only [List.length_drop, List.length_take]; rfl)) ?_; (with_reducible refine (flagstonelaw09_small.calls k _ _ l0_0 a0_1 a0_2 true _ ?side1 ?side2 A10.out).mono ?_); (case side1 => repeat (first | exact (Kd.C_below HR0_0.out HB.out) | (with_reducible refine Kd.C_alloc ?_ _) | (with_reducible refine Kd.C_drewN ?_ _) | (with_reducible refine Kd.C_drew ?_))); (case side2 => exact HC0_0.out); rintro e w17 ⟨rfl, hb⟩; refine ⟨_, rfl, ?_⟩; have n0_ := Am_ (Bb_ (g := gb580) (o := .cells #[.slice A0_0 l0_0.length c0_0, .int .i64 a0_1, .int .i64 a0_2] 24 (0, 0)) (by (with_reducible repeat (first | refine Bn_ ?_ _ | refine Bd_ ?_ | refine Ba_ ?_ _)); exact BK580.out) hb); have n1_ := Am_ (Be_ (by repeat (first | (with_reducible first | exact HB.out | apply Pa_ | apply Pn_ | apply Pd_ | refine Bs_ ?_ GE580.out) | exact HB.out)) hb); clear BK580; clear HB; have BK580 := n0_; have HB := n1_; clear n0_ n1_; (try clear hb); (try clear hb2); (try clear hk); (try clear hi)))
     go_meet
     case rel => exact ⟨_, (true), (by first | rfl | (simp; done) | (simp [*]; done)), H', ⟨by first | omega | exact Nat.le_refl _⟩, ⟨by (with_reducible repeat (first | refine Bn_ ?_ _ | refine Bd_ ?_ | refine Ba_ ?_ _)); exact BK580.out⟩, ⟨by repeat (first | (with_reducible first | exact HB.out | apply Pa_ | apply Pn_ | apply Pd_ | refine Bs_ ?_ GE580.out) | exact HB.out)⟩⟩
    ·rw [if_neg c15] at H
     have c15b0 : decide (200 < (a6.size : Int)) = false := Df_ c15
     have c15b1 : decide (200 < a6.size) = false := Df_ (by omega)
     clear c15
     replace H := Option.bind_eq_some_iff.mp H
     obtain ⟨t582, A180, H⟩ := H
     replace H : (flagstonelaw09_ContentParts.j0 k a1 a2 a3 a4 a5 a6 (!t582) l0_0 a0_1 a0_2) = some r := H
     have A18 := Am_ A180
     clear A180
     have H' := Am_ H
     clear H
     have hcz19_0 : w9.cell? ⟨gb580, 0, none⟩ = some (.slice A0_0 l0_0.length c0_0) := (Bc_ BK580.out 0).trans rfl
     have hcz19_1 : w9.cell? ⟨gb580, 1, none⟩ = some (.int .i64 a0_1) := (Bc_ BK580.out 1).trans rfl
     have hcz19_2 : w9.cell? ⟨gb580, 2, none⟩ = some (.int .i64 a0_2) := (Bc_ BK580.out 2).trans rfl
     have hfz19_0 := Bf_ BK580.out 0
     have hfz19_1 := Bf_ BK580.out 1
     have hfz19_2 := Bf_ BK580.out 2
     go_wp2_with (first | ((with_reducible refine gate_callee (f := 9) rfl ?_); refine goesL_ (some 29) rfl rfl Try.func9 (by kernel_rfl) rfl #[.agg #[.slice A0_0 l0_0.length c0_0, .int .i64 a0_1, .int .i64 a0_2]] rfl (by (try simp only [List.map_toArray, List.map_cons, List.map_nil]); first | done | rfl | (simp only [List.length_drop, List.length_take]; rfl)) ?_; (with_reducible refine (flagstonelaw09_small.calls k _ _ l0_0 a0_1 a0_2 true _ ?side1 ?side2 A10.out).mono ?_); (case side1 => repeat (first | exact (Kd.C_below HR0_0.out HB.out) | (with_reducible refine Kd.C_alloc ?_ _) | (with_reducible refine Kd.C_drewN ?_ _) | (with_reducible refine Kd.C_drew ?_))); (case side2 => exact HC0_0.out); rintro e w20 ⟨rfl, hb⟩; refine ⟨_, rfl, ?_⟩; have n0_ := Am_ (Bb_ (g := gb580) (o := .cells #[.slice A0_0 l0_0.length c0_0, .int .i64 a0_1, .int .i64 a0_2] 24 (0, 0)) (by (with_reducible repeat (first | refine Bn_ ?_ _ | refine Bd_ ?_ | refine Ba_ ?_ _)); exact BK580.out) hb); have n1_ := Am_ (Be_ (by repeat (first | (with_reducible first | exact HB.out | apply Pa_ | apply Pn_ | apply Pd_ | refine Bs_ ?_ GE580.out) | exact HB.out)) hb); clear BK580; clear HB; have BK580 := n0_; have HB := n1_; clear n0_ n1_; (try clear hb); (try clear hb2); (try clear hk); (try clear hi)) | (go_at_call 10; (with_reducible refine (flagstonelaw09_shown.calls  t582 _ A18.out).mono ?_); rintro e w21 ⟨rfl, hb⟩; have n0_ := Am_ (Bb_ (g := gb580) (o := .cells #[.slice A0_0 l0_0.length c0_0, .int .i64 a0_1, .int .i64 a0_2] 24 (0, 0)) (by (with_reducible repeat (first | refine Bn_ ?_ _ | refine Bd_ ?_ | refine Ba_ ?_ _)); exact BK580.out) hb); have n1_ := Am_ (Be_ (by repeat (first | (with_reducible first | exact HB.out | apply Pa_ | apply Pn_ | apply Pd_ | refine Bs_ ?_ GE580.out) | exact HB.out)) hb); clear BK580; clear HB; have BK580 := n0_; have HB := n1_; clear n0_ n1_; (try clear hb); (try clear hb2); (try clear hk); (try clear hi)))
     go_meet
     case rel => exact ⟨_, (!t582), (by first | rfl | (simp; done) | (simp [*]; done)), H', ⟨by first | omega | exact Nat.le_refl _⟩, ⟨by (with_reducible repeat (first | refine Bn_ ?_ _ | refine Bd_ ?_ | refine Ba_ ?_ _)); exact BK580.out⟩, ⟨by repeat (first | (with_reducible first | exact HB.out | apply Pa_ | apply Pn_ | apply Pd_ | refine Bs_ ?_ GE580.out) | exact HB.out)⟩⟩
  ·replace c11 := Bool.eq_false_iff.mpr c11
   subst c11
   have H1 : (flagstonelaw09_ContentParts.j0 k a1 a2 a3 a4 a5 a6 true l0_0 a0_1 a0_2) = some r := by rw [if_neg (show ¬ (false = true) by decide)] at H; exact H
   clear H
   have H := H1
   clear H1
   have H' := Am_ H
   clear H
   have hcz22_0 : w9.cell? ⟨gb580, 0, none⟩ = some (.slice A0_0 l0_0.length c0_0) := (Bc_ BK580.out 0).trans rfl
   have hcz22_1 : w9.cell? ⟨gb580, 1, none⟩ = some (.int .i64 a0_1) := (Bc_ BK580.out 1).trans rfl
   have hcz22_2 : w9.cell? ⟨gb580, 2, none⟩ = some (.int .i64 a0_2) := (Bc_ BK580.out 2).trans rfl
   have hfz22_0 := Bf_ BK580.out 0
   have hfz22_1 := Bf_ BK580.out 1
   have hfz22_2 := Bf_ BK580.out 2
   go_wp2_with (first | ((with_reducible refine gate_callee (f := 9) rfl ?_); refine goesL_ (some 29) rfl rfl Try.func9 (by kernel_rfl) rfl #[.agg #[.slice A0_0 l0_0.length c0_0, .int .i64 a0_1, .int .i64 a0_2]] rfl (by (try simp only [List.map_toArray, List.map_cons, List.map_nil]); first | done | rfl | (simp only [List.length_drop, List.length_take]; rfl)) ?_; (with_reducible refine (flagstonelaw09_small.calls k _ _ l0_0 a0_1 a0_2 false _ ?side1 ?side2 A10.out).mono ?_); (case side1 => repeat (first | exact (Kd.C_below HR0_0.out HB.out) | (with_reducible refine Kd.C_alloc ?_ _) | (with_reducible refine Kd.C_drewN ?_ _) | (with_reducible refine Kd.C_drew ?_))); (case side2 => exact HC0_0.out); rintro e w23 ⟨rfl, hb⟩; refine ⟨_, rfl, ?_⟩; have n0_ := Am_ (Bb_ (g := gb580) (o := .cells #[.slice A0_0 l0_0.length c0_0, .int .i64 a0_1, .int .i64 a0_2] 24 (0, 0)) (by (with_reducible repeat (first | refine Bn_ ?_ _ | refine Bd_ ?_ | refine Ba_ ?_ _)); exact BK580.out) hb); have n1_ := Am_ (Be_ (by repeat (first | (with_reducible first | exact HB.out | apply Pa_ | apply Pn_ | apply Pd_ | refine Bs_ ?_ GE580.out) | exact HB.out)) hb); clear BK580; clear HB; have BK580 := n0_; have HB := n1_; clear n0_ n1_; (try clear hb); (try clear hb2); (try clear hk); (try clear hi)))
   go_meet
   case rel => exact ⟨_, (true), (by first | rfl | (simp; done) | (simp [*]; done)), H', ⟨by first | omega | exact Nat.le_refl _⟩, ⟨by (with_reducible repeat (first | refine Bn_ ?_ _ | refine Bd_ ?_ | refine Ba_ ?_ _)); exact BK580.out⟩, ⟨by repeat (first | (with_reducible first | exact HB.out | apply Pa_ | apply Pn_ | apply Pd_ | refine Bs_ ?_ GE580.out) | exact HB.out)⟩⟩
 case rest =>
  clear HC8
  try clear c1
  try clear p2
  try clear c7
  try clear c9
  try clear c11
  try clear c12
  try clear c12b0
  try clear c12b1
  try clear c15
  try clear c15b0
  try clear c15b1
  try clear hcz13_0
  try clear hcz13_1
  try clear hcz13_2
  try clear hcz16_0
  try clear hcz16_1
  try clear hcz16_2
  try clear hcz19_0
  try clear hcz19_1
  try clear hcz19_2
  try clear hcz22_0
  try clear hcz22_1
  try clear hcz22_2
  try clear hfz13_0
  try clear hfz13_1
  try clear hfz13_2
  try clear hfz16_0
  try clear hfz16_1
  try clear hfz16_2
  try clear hfz19_0
  try clear hfz19_1
  try clear hfz19_2
  try clear hfz22_0
  try clear hfz22_1
  try clear hfz22_2
  obtain ⟨kq, x44_7, rfl, HA, HJ7, BK580, HB⟩ := hcut
  cases kq with
  | zero => exact absurd HA.out (by simp [flagstonelaw09_ContentParts.j0])
  | succ kj7 =>
   have H := HA.out
   clear HA
   simp only [flagstonelaw09_ContentParts.j0] at H
   by_cases c24 : x44_7 = true
   ·subst c24
    have H1 : ((flagstonelaw09_shown.f).bind fun t583 => (some t583)) = some r := by rw [if_pos rfl] at H; exact H
    clear H
    have H := H1
    clear H1
    replace H := Option.bind_eq_some_iff.mp H
    obtain ⟨t583, A250, H⟩ := H
    replace H : (some t583) = some r := H
    have A25 := Am_ A250
    clear A250
    obtain rfl := Option.some.inj H
    go_wp2_with (first | ((with_reducible refine gate_callee (f := 10) rfl ?_); refine goesL_ (some 45) rfl rfl Try.func10 (by kernel_rfl) rfl #[] rfl (by (try simp only [List.map_toArray, List.map_cons, List.map_nil]); first | done | rfl | (simp only [List.length_drop, List.length_take]; rfl)) ?_; (with_reducible refine (flagstonelaw09_shown.calls  t583 _ A25.out).mono ?_); rintro e w26 ⟨rfl, hb⟩; refine ⟨_, rfl, ?_⟩; have n0_ := Am_ (Bb_ (g := gb580) (o := .cells #[.slice A0_0 l0_0.length c0_0, .int .i64 a0_1, .int .i64 a0_2] 24 (0, 0)) (by (with_reducible repeat (first | refine Bn_ ?_ _ | refine Bd_ ?_ | refine Ba_ ?_ _)); exact BK580.out) hb); have n1_ := Am_ (Be_ (by repeat (first | (with_reducible first | exact HB.out | apply Pa_ | apply Pn_ | apply Pd_ | refine Bs_ ?_ GE580.out) | exact HB.out)) hb); clear BK580; clear HB; have BK580 := n0_; have HB := n1_; clear n0_ n1_; (try clear hb); (try clear hb2); (try clear hk); (try clear hi)))
    go_ret
    exact ⟨by first | rfl | (simp [errW_none, errW_some] <;> rfl) | (simp [*, errW_none, errW_some] <;> rfl), by repeat (first | (with_reducible first | exact HB.out | apply Pa_ | apply Pn_ | apply Pd_ | refine Bs_ ?_ GE580.out) | exact HB.out)⟩
   ·replace c24 := Bool.eq_false_iff.mpr c24
    subst c24
    have H1 : ((content_Read.f l0_0 a0_1 a0_2 a1 (wrap64 (a2)) (wrap64 ((wrap64 (a3)) + (wrap64 (a4))))).bind fun bt584 => ((content_Read.f l0_0 a0_1 a0_2 a1 (wrap64 (a2)) (wrap64 (a3))).bind fun bt586 => ((content_Read.f l0_0 a0_1 a0_2 a1 (wrap64 ((wrap64 (a2)) + (wrap64 (a3)))) (wrap64 (a4))).bind fun bt588 => (if bt584.2 = bt586.2 then (if bt586.2 = bt588.2 then (if bt586.1.size + bt588.1.size ≤ 9223372036854775807 then (flagstonelaw09_ContentParts.j1 kj7 a1 a5 a6 (wrap64 (a2)) (bt584.1.toList != (bt586.1 ++ bt588.1).toList) l0_0 a0_1 a0_2) else (none)) else (flagstonelaw09_ContentParts.j1 kj7 a1 a5 a6 (wrap64 (a2)) true l0_0 a0_1 a0_2)) else (flagstonelaw09_ContentParts.j1 kj7 a1 a5 a6 (wrap64 (a2)) true l0_0 a0_1 a0_2))))) = some r := by rw [if_neg (show ¬ (false = true) by decide)] at H; exact H
    clear H
    have H := H1
    clear H1
    replace H := Option.bind_eq_some_iff.mp H
    obtain ⟨⟨t584, t585⟩, A270, H⟩ := H
    replace H : ((content_Read.f l0_0 a0_1 a0_2 a1 (wrap64 (a2)) (wrap64 (a3))).bind fun bt586 => ((content_Read.f l0_0 a0_1 a0_2 a1 (wrap64 ((wrap64 (a2)) + (wrap64 (a3)))) (wrap64 (a4))).bind fun bt588 => (if t585 = bt586.2 then (if bt586.2 = bt588.2 then (if bt586.1.size + bt588.1.size ≤ 9223372036854775807 then (flagstonelaw09_ContentParts.j1 kj7 a1 a5 a6 (wrap64 (a2)) (t584.toList != (bt586.1 ++ bt588.1).toList) l0_0 a0_1 a0_2) else (none)) else (flagstonelaw09_ContentParts.j1 kj7 a1 a5 a6 (wrap64 (a2)) true l0_0 a0_1 a0_2)) else (flagstonelaw09_ContentParts.j1 kj7 a1 a5 a6 (wrap64 (a2)) true l0_0 a0_1 a0_2)))) = some r := H
    have A27 := Am_ A270
    clear A270
    replace H := Option.bind_eq_some_iff.mp H
    obtain ⟨⟨t586, t587⟩, A280, H⟩ := H
    replace H : ((content_Read.f l0_0 a0_1 a0_2 a1 (wrap64 ((wrap64 (a2)) + (wrap64 (a3)))) (wrap64 (a4))).bind fun bt588 => (if t585 = t587 then (if t587 = bt588.2 then (if t586.size + bt588.1.size ≤ 9223372036854775807 then (flagstonelaw09_ContentParts.j1 kj7 a1 a5 a6 (wrap64 (a2)) (t584.toList != (t586 ++ bt588.1).toList) l0_0 a0_1 a0_2) else (none)) else (flagstonelaw09_ContentParts.j1 kj7 a1 a5 a6 (wrap64 (a2)) true l0_0 a0_1 a0_2)) else (flagstonelaw09_ContentParts.j1 kj7 a1 a5 a6 (wrap64 (a2)) true l0_0 a0_1 a0_2))) = some r := H
    have A28 := Am_ A280
    clear A280
    replace H := Option.bind_eq_some_iff.mp H
    obtain ⟨⟨t588, t589⟩, A290, H⟩ := H
    replace H : (if t585 = t587 then (if t587 = t589 then (if t586.size + t588.size ≤ 9223372036854775807 then (flagstonelaw09_ContentParts.j1 kj7 a1 a5 a6 (wrap64 (a2)) (t584.toList != (t586 ++ t588).toList) l0_0 a0_1 a0_2) else (none)) else (flagstonelaw09_ContentParts.j1 kj7 a1 a5 a6 (wrap64 (a2)) true l0_0 a0_1 a0_2)) else (flagstonelaw09_ContentParts.j1 kj7 a1 a5 a6 (wrap64 (a2)) true l0_0 a0_1 a0_2)) = some r := H
    have A29 := Am_ A290
    clear A290
    have HC30 := Am_ H
    clear H
    have hcz31_0 : wc.cell? ⟨gb580, 0, none⟩ = some (.slice A0_0 l0_0.length c0_0) := (Bc_ BK580.out 0).trans rfl
    have hcz31_1 : wc.cell? ⟨gb580, 1, none⟩ = some (.int .i64 a0_1) := (Bc_ BK580.out 1).trans rfl
    have hcz31_2 : wc.cell? ⟨gb580, 2, none⟩ = some (.int .i64 a0_2) := (Bc_ BK580.out 2).trans rfl
    have hfz31_0 := Bf_ BK580.out 0
    have hfz31_1 := Bf_ BK580.out 1
    have hfz31_2 := Bf_ BK580.out 2
    go_upto_region 7 with (first | ((with_reducible refine gate_callee (f := 11) rfl ?_); refine goesL_ (some 57) rfl rfl Try.func11 (by kernel_rfl) rfl #[.agg #[.slice A0_0 l0_0.length c0_0, .int .i64 a0_1, .int .i64 a0_2], .int .i64 a1, .int .i64 (wrap64 (a2)), .int .i64 (wrap64 ((wrap64 (a3)) + (wrap64 (a4))))] rfl (by (try simp only [List.map_toArray, List.map_cons, List.map_nil]); first | done | rfl | (simp only [List.length_drop, List.length_take]; rfl)) ?_; (with_reducible refine (content_Read.calls _ _ l0_0 a0_1 a0_2 a1 (wrap64 (a2)) (wrap64 ((wrap64 (a3)) + (wrap64 (a4)))) t584 t585 _ ?side1 ?side2 A27.out).mono ?_); (case side1 => repeat (first | exact (Kd.C_below HR0_0.out HB.out) | (with_reducible refine Kd.C_alloc ?_ _) | (with_reducible refine Kd.C_drewN ?_ _) | (with_reducible refine Kd.C_drew ?_))); (case side2 => exact HC0_0.out); rintro e w32 ⟨rfl, hb⟩; refine ⟨_, rfl, ?_⟩; have n0_ := Am_ (Bb_ (g := gb580) (o := .cells #[.slice A0_0 l0_0.length c0_0, .int .i64 a0_1, .int .i64 a0_2] 24 (0, 0)) (by (with_reducible repeat (first | refine Bn_ ?_ _ | refine Bd_ ?_ | refine Ba_ ?_ _)); exact BK580.out) hb); have n1_ := Am_ (Be_ (by repeat (first | (with_reducible first | exact HB.out | apply Pa_ | apply Pn_ | apply Pd_ | refine Bs_ ?_ GE580.out) | exact HB.out)) hb); clear BK580; clear HB; have BK580 := n0_; have HB := n1_; clear n0_ n1_; (try clear hb); (try clear hb2); (try clear hk); (try clear hi); have hcz33_0 : w32.cell? ⟨gb580, 0, none⟩ = some (.slice A0_0 l0_0.length c0_0) := (Bc_ BK580.out 0).trans rfl; have hcz33_1 : w32.cell? ⟨gb580, 1, none⟩ = some (.int .i64 a0_1) := (Bc_ BK580.out 1).trans rfl; have hcz33_2 : w32.cell? ⟨gb580, 2, none⟩ = some (.int .i64 a0_2) := (Bc_ BK580.out 2).trans rfl; have hfz33_0 := Bf_ BK580.out 0; have hfz33_1 := Bf_ BK580.out 1; have hfz33_2 := Bf_ BK580.out 2) | ((with_reducible refine gate_callee (f := 11) rfl ?_); refine goesL_ (some 66) rfl rfl Try.func11 (by kernel_rfl) rfl #[.agg #[.slice A0_0 l0_0.length c0_0, .int .i64 a0_1, .int .i64 a0_2], .int .i64 a1, .int .i64 (wrap64 (a2)), .int .i64 (wrap64 (a3))] rfl (by (try simp only [List.map_toArray, List.map_cons, List.map_nil]); first | done | rfl | (simp only [List.length_drop, List.length_take]; rfl)) ?_; (with_reducible refine (content_Read.calls _ _ l0_0 a0_1 a0_2 a1 (wrap64 (a2)) (wrap64 (a3)) t586 t587 _ ?side1 ?side2 A28.out).mono ?_); (case side1 => repeat (first | exact (Kd.C_below HR0_0.out HB.out) | (with_reducible refine Kd.C_alloc ?_ _) | (with_reducible refine Kd.C_drewN ?_ _) | (with_reducible refine Kd.C_drew ?_))); (case side2 => exact HC0_0.out); rintro e w34 ⟨rfl, hb⟩; refine ⟨_, rfl, ?_⟩; have n0_ := Am_ (Bb_ (g := gb580) (o := .cells #[.slice A0_0 l0_0.length c0_0, .int .i64 a0_1, .int .i64 a0_2] 24 (0, 0)) (by (with_reducible repeat (first | refine Bn_ ?_ _ | refine Bd_ ?_ | refine Ba_ ?_ _)); exact BK580.out) hb); have n1_ := Am_ (Be_ (by repeat (first | (with_reducible first | exact HB.out | apply Pa_ | apply Pn_ | apply Pd_ | refine Bs_ ?_ GE580.out) | exact HB.out)) hb); clear BK580; clear HB; have BK580 := n0_; have HB := n1_; clear n0_ n1_; (try clear hb); (try clear hb2); (try clear hk); (try clear hi); have hcz35_0 : w34.cell? ⟨gb580, 0, none⟩ = some (.slice A0_0 l0_0.length c0_0) := (Bc_ BK580.out 0).trans rfl; have hcz35_1 : w34.cell? ⟨gb580, 1, none⟩ = some (.int .i64 a0_1) := (Bc_ BK580.out 1).trans rfl; have hcz35_2 : w34.cell? ⟨gb580, 2, none⟩ = some (.int .i64 a0_2) := (Bc_ BK580.out 2).trans rfl; have hfz35_0 := Bf_ BK580.out 0; have hfz35_1 := Bf_ BK580.out 1; have hfz35_2 := Bf_ BK580.out 2) | ((with_reducible refine gate_callee (f := 11) rfl ?_); refine goesL_ (some 78) rfl rfl Try.func11 (by kernel_rfl) rfl #[.agg #[.slice A0_0 l0_0.length c0_0, .int .i64 a0_1, .int .i64 a0_2], .int .i64 a1, .int .i64 (wrap64 ((wrap64 (a2)) + (wrap64 (a3)))), .int .i64 (wrap64 (a4))] rfl (by (try simp only [List.map_toArray, List.map_cons, List.map_nil]); first | done | rfl | (simp only [List.length_drop, List.length_take]; rfl)) ?_; (with_reducible refine (content_Read.calls _ _ l0_0 a0_1 a0_2 a1 (wrap64 ((wrap64 (a2)) + (wrap64 (a3)))) (wrap64 (a4)) t588 t589 _ ?side1 ?side2 A29.out).mono ?_); (case side1 => repeat (first | exact (Kd.C_below HR0_0.out HB.out) | (with_reducible refine Kd.C_alloc ?_ _) | (with_reducible refine Kd.C_drewN ?_ _) | (with_reducible refine Kd.C_drew ?_))); (case side2 => exact HC0_0.out); rintro e w36 ⟨rfl, hb⟩; refine ⟨_, rfl, ?_⟩; have n0_ := Am_ (Bb_ (g := gb580) (o := .cells #[.slice A0_0 l0_0.length c0_0, .int .i64 a0_1, .int .i64 a0_2] 24 (0, 0)) (by (with_reducible repeat (first | refine Bn_ ?_ _ | refine Bd_ ?_ | refine Ba_ ?_ _)); exact BK580.out) hb); have n1_ := Am_ (Be_ (by repeat (first | (with_reducible first | exact HB.out | apply Pa_ | apply Pn_ | apply Pd_ | refine Bs_ ?_ GE580.out) | exact HB.out)) hb); clear BK580; clear HB; have BK580 := n0_; have HB := n1_; clear n0_ n1_; (try clear hb); (try clear hb2); (try clear hk); (try clear hi)))
    (try simp only [Act.put, La_, Lb_, Lc_])
    go_cut [95] (fun v95 wc => ∃ (kq : Nat) (x95_29 : Bool), v95 = .bool x95_29 ∧ Aside0 (flagstonelaw09_ContentParts.j1 kq a1 a5 a6 (wrap64 (a2)) x95_29 l0_0 a0_1 a0_2 = some r) ∧ Aside0 (kq ≤ kj7) ∧ Aside0 (wc.heap[gb580]? = some (.cells #[(.slice A0_0 l0_0.length c0_0), .int .i64 a0_1, .int .i64 a0_2] 24 (0, 0))) ∧ Aside0 (Below w.heap.size w wc))
    case first =>
     have H := HC30.out
     clear HC30
     by_cases c37 : t585 = t587
     ·rw [if_pos c37] at H
      have c37b0 : (t585 == t587) = true := beq_iff_eq.mpr c37
      have c37b1 : (t585 != t587) = false := bne_eq_false_iff_eq.mpr c37
      clear c37
      (first | rw [c37b0] | (simp only [i64_w, i32_w]; rw [c37b0]) | skip)
      by_cases c38 : t587 = t589
      ·rw [if_pos c38] at H
       have c38b0 : (t587 == t589) = true := beq_iff_eq.mpr c38
       have c38b1 : (t587 != t589) = false := bne_eq_false_iff_eq.mpr c38
       clear c38
       by_cases c39 : t586.size + t588.size ≤ 9223372036854775807
       ·rw [if_pos c39] at H
        have c39b0 := eq_true c39
        have c39b1 : decide (t586.size + t588.size ≤ 9223372036854775807) = true := Dt_ c39
        try have c39b2 : (9223372036854775807 < t586.size + t588.size) = False := eq_false (Nat.not_lt.2 c39)
        have H' := Am_ H
        clear H
        go_wp2
        go_meet
        case rel => exact ⟨_, ((t584.toList != (t586 ++ t588).toList)), (by first | rfl | (simp; done) | (simp [*]; done)), H', ⟨by have := HJ7.out; first | omega | exact Nat.le_refl _⟩, ⟨by (with_reducible repeat (first | refine Bn_ ?_ _ | refine Bd_ ?_ | refine Ba_ ?_ _)); exact BK580.out⟩, ⟨by repeat (first | (with_reducible first | exact HB.out | apply Pa_ | apply Pn_ | apply Pd_ | refine Bs_ ?_ GE580.out) | exact HB.out)⟩⟩
       ·rw [if_neg c39] at H
        exact absurd H (by simp)
      ·rw [if_neg c38] at H
       have c38b0 : (t587 == t589) = false := beq_eq_false_iff_ne.mpr c38
       have c38b1 : (t587 != t589) = true := bne_iff_ne.mpr c38
       have H' := Am_ H
       clear H
       go_wp2
       go_meet
       case rel => exact ⟨_, (true), (by first | rfl | (simp; done) | (simp [*]; done)), H', ⟨by have := HJ7.out; first | omega | exact Nat.le_refl _⟩, ⟨by (with_reducible repeat (first | refine Bn_ ?_ _ | refine Bd_ ?_ | refine Ba_ ?_ _)); exact BK580.out⟩, ⟨by repeat (first | (with_reducible first | exact HB.out | apply Pa_ | apply Pn_ | apply Pd_ | refine Bs_ ?_ GE580.out) | exact HB.out)⟩⟩
     ·rw [if_neg c37] at H
      have c37b0 : (t585 == t587) = false := beq_eq_false_iff_ne.mpr c37
      have c37b1 : (t585 != t587) = true := bne_iff_ne.mpr c37
      (first | rw [c37b0] | (simp only [i64_w, i32_w]; rw [c37b0]) | skip)
      have H' := Am_ H
      clear H
      go_wp2
      go_meet
      case rel => exact ⟨_, (true), (by first | rfl | (simp; done) | (simp [*]; done)), H', ⟨by have := HJ7.out; first | omega | exact Nat.le_refl _⟩, ⟨by (with_reducible repeat (first | refine Bn_ ?_ _ | refine Bd_ ?_ | refine Ba_ ?_ _)); exact BK580.out⟩, ⟨by repeat (first | (with_reducible first | exact HB.out | apply Pa_ | apply Pn_ | apply Pd_ | refine Bs_ ?_ GE580.out) | exact HB.out)⟩⟩
    case rest =>
     clear HC30
     try clear c1
     try clear c2
     try clear p2
     try clear c3
     try clear p6
     try clear c7
     try clear c9
     try clear c10
     try clear c11
     try clear c12
     try clear c12b0
     try clear c12b1
     try clear c15
     try clear c15b0
     try clear c15b1
     try clear c24
     try clear c37
     try clear c37b0
     try clear c37b1
     try clear c38
     try clear c38b0
     try clear c38b1
     try clear c39
     try clear c39b0
     try clear c39b1
     try clear c39b2
     try clear hcz13_0
     try clear hcz13_1
     try clear hcz13_2
     try clear hcz16_0
     try clear hcz16_1
     try clear hcz16_2
     try clear hcz19_0
     try clear hcz19_1
     try clear hcz19_2
     try clear hcz22_0
     try clear hcz22_1
     try clear hcz22_2
     try clear hcz31_0
     try clear hcz31_1
     try clear hcz31_2
     try clear hcz33_0
     try clear hcz33_1
     try clear hcz33_2
     try clear hcz35_0
     try clear hcz35_1
     try clear hcz35_2
     try clear hfz13_0
     try clear hfz13_1
     try clear hfz13_2
     try clear hfz16_0
     try clear hfz16_1
     try clear hfz16_2
     try clear hfz19_0
     try clear hfz19_1
     try clear hfz19_2
     try clear hfz22_0
     try clear hfz22_1
     try clear hfz22_2
     try clear hfz31_0
     try clear hfz31_1
     try clear hfz31_2
     try clear hfz33_0
     try clear hfz33_1
     try clear hfz33_2
     try clear hfz35_0
     try clear hfz35_1
     try clear hfz35_2
     try clear p2
     obtain ⟨kq, x95_29, rfl, HA, HJ29, BK580, HB⟩ := hcut
     cases kq with
     | zero => exact absurd HA.out (by simp [flagstonelaw09_ContentParts.j1])
     | succ kj29 =>
      have H := HA.out
      clear HA
      simp only [flagstonelaw09_ContentParts.j1] at H
      by_cases c40 : x95_29 = true
      ·subst c40
       have H1 : (none) = some r := by rw [if_pos rfl] at H; exact H
       clear H
       have H := H1
       clear H1
       exact absurd H (by simp)
      ·replace c40 := Bool.eq_false_iff.mpr c40
       subst c40
       have H1 : (if a5.size + a6.size ≤ 9223372036854775807 then ((content_Write.f l0_0 a0_1 a0_2 a1 (wrap64 (a2)) (a5 ++ a6)).bind fun bt590 => ((content_Write.f l0_0 a0_1 a0_2 a1 (wrap64 (a2)) a5).bind fun bt597 => ((content_Write.f bt597.1 bt597.2.1 bt597.2.2.1 a1 (wrap64 ((wrap64 (a2)) + (a5.size : Int))) a6).bind fun bt604 => (if bt590.2.2.2 = 0 then (if bt604.2.2.2 = 0 then ((flagstonelaw09_its.f kj29 bt590.1 bt590.2.1 bt590.2.2.1).bind fun bt611 => ((flagstonelaw09_its.f kj29 bt604.1 bt604.2.1 bt604.2.2.1).bind fun bt616 => ((flagstoneref06_Same.f kj29 bt611.1 bt611.2.1 bt611.2.2 bt616.1 bt616.2.1 bt616.2.2).bind fun t621 => (some t621)))) else (none)) else (some true))))) else (none)) = some r := by rw [if_neg (show ¬ (false = true) by decide)] at H; exact H
       clear H
       have H := H1
       clear H1
       by_cases c41 : a5.size + a6.size ≤ 9223372036854775807
       ·rw [if_pos c41] at H
        have c41b0 := eq_true c41
        have c41b1 : decide (a5.size + a6.size ≤ 9223372036854775807) = true := Dt_ c41
        try have c41b2 : (9223372036854775807 < a5.size + a6.size) = False := eq_false (Nat.not_lt.2 c41)
        replace H := Option.bind_eq_some_iff.mp H
        obtain ⟨⟨t590, t593, t594, t595⟩, A420, H⟩ := H
        replace H : ((content_Write.f l0_0 a0_1 a0_2 a1 (wrap64 (a2)) a5).bind fun bt597 => ((content_Write.f bt597.1 bt597.2.1 bt597.2.2.1 a1 (wrap64 ((wrap64 (a2)) + (a5.size : Int))) a6).bind fun bt604 => (if t595 = 0 then (if bt604.2.2.2 = 0 then ((flagstonelaw09_its.f kj29 t590 t593 t594).bind fun bt611 => ((flagstonelaw09_its.f kj29 bt604.1 bt604.2.1 bt604.2.2.1).bind fun bt616 => ((flagstoneref06_Same.f kj29 bt611.1 bt611.2.1 bt611.2.2 bt616.1 bt616.2.1 bt616.2.2).bind fun t621 => (some t621)))) else (none)) else (some true)))) = some r := H
        have A42 := Am_ A420
        clear A420
        replace H := Option.bind_eq_some_iff.mp H
        obtain ⟨⟨t597, t600, t601, t602⟩, A430, H⟩ := H
        replace H : ((content_Write.f t597 t600 t601 a1 (wrap64 ((wrap64 (a2)) + (a5.size : Int))) a6).bind fun bt604 => (if t595 = 0 then (if bt604.2.2.2 = 0 then ((flagstonelaw09_its.f kj29 t590 t593 t594).bind fun bt611 => ((flagstonelaw09_its.f kj29 bt604.1 bt604.2.1 bt604.2.2.1).bind fun bt616 => ((flagstoneref06_Same.f kj29 bt611.1 bt611.2.1 bt611.2.2 bt616.1 bt616.2.1 bt616.2.2).bind fun t621 => (some t621)))) else (none)) else (some true))) = some r := H
        have A43 := Am_ A430
        clear A430
        replace H := Option.bind_eq_some_iff.mp H
        obtain ⟨⟨t604, t607, t608, t609⟩, A440, H⟩ := H
        replace H : (if t595 = 0 then (if t609 = 0 then ((flagstonelaw09_its.f kj29 t590 t593 t594).bind fun bt611 => ((flagstonelaw09_its.f kj29 t604 t607 t608).bind fun bt616 => ((flagstoneref06_Same.f kj29 bt611.1 bt611.2.1 bt611.2.2 bt616.1 bt616.2.1 bt616.2.2).bind fun t621 => (some t621)))) else (none)) else (some true)) = some r := H
        have A44 := Am_ A440
        clear A440
        by_cases c45 : t595 = 0
        ·rw [if_pos c45] at H
         have c45b0 : (t595 == 0) = true := beq_iff_eq.mpr c45
         have c45b1 : (t595 != 0) = false := bne_eq_false_iff_eq.mpr c45
         clear c45
         by_cases c46 : t609 = 0
         ·rw [if_pos c46] at H
          have c46b0 : (t609 == 0) = true := beq_iff_eq.mpr c46
          have c46b1 : (t609 != 0) = false := bne_eq_false_iff_eq.mpr c46
          clear c46
          replace H := Option.bind_eq_some_iff.mp H
          obtain ⟨⟨t611, t614, t615⟩, A470, H⟩ := H
          replace H : ((flagstonelaw09_its.f kj29 t604 t607 t608).bind fun bt616 => ((flagstoneref06_Same.f kj29 t611 t614 t615 bt616.1 bt616.2.1 bt616.2.2).bind fun t621 => (some t621))) = some r := H
          have A47 := Am_ A470
          clear A470
          replace H := Option.bind_eq_some_iff.mp H
          obtain ⟨⟨t616, t619, t620⟩, A480, H⟩ := H
          replace H : ((flagstoneref06_Same.f kj29 t611 t614 t615 t616 t619 t620).bind fun t621 => (some t621)) = some r := H
          have A48 := Am_ A480
          clear A480
          replace H := Option.bind_eq_some_iff.mp H
          obtain ⟨t621, A490, H⟩ := H
          replace H : (some t621) = some r := H
          have A49 := Am_ A490
          clear A490
          obtain rfl := Option.some.inj H
          have hcz50_0 : wc.cell? ⟨gb580, 0, none⟩ = some (.slice A0_0 l0_0.length c0_0) := (Bc_ BK580.out 0).trans rfl
          have hcz50_1 : wc.cell? ⟨gb580, 1, none⟩ = some (.int .i64 a0_1) := (Bc_ BK580.out 1).trans rfl
          have hcz50_2 : wc.cell? ⟨gb580, 2, none⟩ = some (.int .i64 a0_2) := (Bc_ BK580.out 2).trans rfl
          have hfz50_0 := Bf_ BK580.out 0
          have hfz50_1 := Bf_ BK580.out 1
          have hfz50_2 := Bf_ BK580.out 2
          try go_wp2_with (first | ((with_reducible refine gate_callee (f := 16) rfl ?_); refine goesL_ (some 103) rfl rfl Try.func16 (by kernel_rfl) rfl #[.agg #[.slice A0_0 l0_0.length c0_0, .int .i64 a0_1, .int .i64 a0_2], .int .i64 a1, .int .i64 (wrap64 (a2)), .string (a5 ++ a6)] rfl (by (try simp only [List.map_toArray, List.map_cons, List.map_nil]); first | done | rfl | (simp only [List.length_drop, List.length_take]; rfl)) ?_; (with_reducible refine (content_Write.calls (fun k_ => k_ < w.heap.size) _ _ l0_0 a0_1 a0_2 a1 (wrap64 (a2)) (a5 ++ a6) t590 t593 t594 t595 _ ?side1 A42.out).mono ?_); (case side1 => exact Kd.V_mk HC0_0.out (Kd.F_below (Kd.C_F k59_heap HR0_0.out) (by repeat (first | (with_reducible first | exact HB.out | apply Pa_ | apply Pn_ | apply Pd_ | refine Bs_ ?_ GE580.out) | exact HB.out)))); rintro e w51 ⟨v591, rfl, ho0, hb⟩; refine ⟨_, rfl, ?_⟩; have n0_ := Am_ (Vl_ (Vm_ (ok' := fun k_ => k_ ≠ gb580) ho0 (fun k_ hk_ => Or.elim hk_ (fun hs_ => fun e_ => Nat.not_le.2 hs_ (by rw [e_]; exact GW580.out)) (fun hn_ => (Kd.freshB (g := gb580) (o := .cells #[.slice A0_0 l0_0.length c0_0, .int .i64 a0_1, .int .i64 a0_2] 24 (0, 0)) (by (with_reducible repeat (first | refine Bn_ ?_ _ | refine Bd_ ?_ | refine Ba_ ?_ _)); exact BK580.out) k_ hn_)))) (Bz_ (by repeat (first | (with_reducible first | exact HB.out | apply Pa_ | apply Pn_ | apply Pd_ | refine Bs_ ?_ GE580.out) | exact HB.out)))); have n1_ := Am_ (Bb_ (g := gb580) (o := .cells #[.slice A0_0 l0_0.length c0_0, .int .i64 a0_1, .int .i64 a0_2] 24 (0, 0)) (by (with_reducible repeat (first | refine Bn_ ?_ _ | refine Bd_ ?_ | refine Ba_ ?_ _)); exact BK580.out) hb); have n2_ := Am_ (Be_ (by repeat (first | (with_reducible first | exact HB.out | apply Pa_ | apply Pn_ | apply Pd_ | refine Bs_ ?_ GE580.out) | exact HB.out)) hb); clear BK580; clear HB; have HO592 := n0_; have BK580 := n1_; have HB := n2_; clear n0_ n1_ n2_; (try clear hb); (try clear hb2); (try clear hk); (try clear hi); (try clear ho0)) | ((with_reducible refine gate_dst (N := 22) rfl ?_); (try (refine gate_guard (by rfl) ?_; dsimp only)); refine box_event ?hg (N := 22) ?hd (cs := #[.slice none 0 0, .int .i64 0, .int .i64 0]) (t := 24) ?hr ?_; (case hd => rfl); (case hg => rfl); (case hr => first | (go_simp; done) | (go_simp; rfl)); intro gb596 hg w52 hbox hb; have n0_ := Am_ (Vb_ (Ke_ (by (with_reducible repeat (first | apply Va_ | apply Vn_ | apply Vd_)); exact HO592.out) gb596 (Nat.le_of_eq hg.symm)) hb); have n1_ := Am_ (Bb_ (g := gb580) (o := .cells #[.slice A0_0 l0_0.length c0_0, .int .i64 a0_1, .int .i64 a0_2] 24 (0, 0)) (by (with_reducible repeat (first | refine Bn_ ?_ _ | refine Bd_ ?_ | refine Ba_ ?_ _)); exact BK580.out) hb); have n2_ := Am_ (Be_ (by repeat (first | (with_reducible first | exact HB.out | apply Pa_ | apply Pn_ | apply Pd_ | refine Bs_ ?_ GE580.out) | exact HB.out)) hb); have n3_ := Am_ (hbox); have n4_ := Am_ ((by rw [hg]; exact (Bz_ (by repeat (first | (with_reducible first | exact HB.out | apply Pa_ | apply Pn_ | apply Pd_ | refine Bs_ ?_ GE580.out) | exact HB.out))) : w.heap.size ≤ gb596)); have n5_ := Am_ ((by rw [hg]; exact (Bz_ (by repeat (first | (with_reducible first | exact HB.out | apply Pa_ | apply Pn_ | apply Pd_ | refine Bs_ ?_ GE580.out) | exact HB.out))) : w.heap.size ≤ gb596)); have n6_ := Am_ ((by rw [hg]; exact Nat.ne_of_lt (blk_lt (g := gb580) (o := .cells #[.slice A0_0 l0_0.length c0_0, .int .i64 a0_1, .int .i64 a0_2] 24 (0, 0)) (by (with_reducible repeat (first | refine Bn_ ?_ _ | refine Bd_ ?_ | refine Ba_ ?_ _)); exact BK580.out)) : gb580 ≠ gb596)); have n7_ := Am_ ((by rw [hg]; exact Nat.ne_of_gt (blk_lt (g := gb580) (o := .cells #[.slice A0_0 l0_0.length c0_0, .int .i64 a0_1, .int .i64 a0_2] 24 (0, 0)) (by (with_reducible repeat (first | refine Bn_ ?_ _ | refine Bd_ ?_ | refine Ba_ ?_ _)); exact BK580.out)) : gb596 ≠ gb580)); clear HO592; clear BK580; clear HB; have HO592 := n0_; have BK580 := n1_; have HB := n2_; have BK596 := n3_; have GW596 := n4_; have GE596 := n5_; have NB580_596 := n6_; have NB596_580 := n7_; clear n0_ n1_ n2_ n3_ n4_ n5_ n6_ n7_; clear hb hbox hg; obtain ⟨Ao53, co53, eo53⟩ := Vx_ HO592.out; subst eo53; have hnb54 := NB596_580.out; have hnc54 := NB580_596.out; have hcz55_0 : w52.cell? ⟨gb596, 0, none⟩ = some (.slice none 0 0) := (Bc_ BK596.out 0).trans rfl; have hcz55_1 : w52.cell? ⟨gb596, 1, none⟩ = some (.int .i64 0) := (Bc_ BK596.out 1).trans rfl; have hcz55_2 : w52.cell? ⟨gb596, 2, none⟩ = some (.int .i64 0) := (Bc_ BK596.out 2).trans rfl; have hfz55_0 := Bf_ BK596.out 0; have hfz55_1 := Bf_ BK596.out 1; have hfz55_2 := Bf_ BK596.out 2) | ((with_reducible refine gate_store (t := 24) (p := 22) rfl ?_); refine store_event (t := 24) (p := 22) (v := ?vo_w56) (w1 := (((w52.setCell ⟨gb596, 0, none⟩ (.slice Ao53 t590.length co53)).setCell ⟨gb596, 1, none⟩ (.int .i64 t593)).setCell ⟨gb596, 2, none⟩ (.int .i64 t594))) ?hg ?ho ?hn ?hr ?_; (case ho => rfl); (case hg => rfl); (case hn => rfl); (case hr => first | (go_simp; done) | (go_simp; rfl)); intro w56 hw; have n0_ : Aside0 (Kd.V k59 59 w56 w.heap.size (fun k_ => k_ ≠ gb580 ∧ k_ ≠ gb596) (.slice Ao53 t590.length co53) t590) := ⟨(by rw [hw]; exact (by (with_reducible repeat (first | apply Va_ | apply Vn_ | apply Vd_)); exact Vm_ (Vf_ (p := ⟨gb596, 2, none⟩) (Vf_ (p := ⟨gb596, 1, none⟩) (Vf_ (p := ⟨gb596, 0, none⟩) (Vm_ HO592.out (fun k_ hk => (⟨hk, hk.2⟩ : _ ∧ k_ ≠ gb596))) (fun _ hk => hk.2) (.slice Ao53 t590.length co53)) (fun _ hk => hk.2) (.int .i64 t593)) (fun _ hk => hk.2) (.int .i64 t594)) (fun _ hk => ⟨hk.1.1, hk.1.2⟩)))⟩; have n1_ : Aside0 (w56.heap[gb580]? = some (.cells #[.slice A0_0 l0_0.length c0_0, .int .i64 a0_1, .int .i64 a0_2] 24 (0, 0))) := ⟨(by rw [hw]; exact (by (with_reducible repeat (first | refine Bn_ ?_ _ | refine Bd_ ?_ | refine Ba_ ?_ _)); refine blk_far ?_ NB580_596.out _; (with_reducible repeat (first | refine Bn_ ?_ _ | refine Bd_ ?_ | refine Ba_ ?_ _)); refine blk_far ?_ NB580_596.out _; (with_reducible repeat (first | refine Bn_ ?_ _ | refine Bd_ ?_ | refine Ba_ ?_ _)); refine blk_far ?_ NB580_596.out _; (with_reducible repeat (first | refine Bn_ ?_ _ | refine Bd_ ?_ | refine Ba_ ?_ _)); exact BK580.out))⟩; have n2_ : Aside0 (w56.heap[gb596]? = some (.cells #[.slice Ao53 t590.length co53, .int .i64 t593, .int .i64 t594] 24 (0, 0))) := ⟨(by rw [hw]; exact (by (with_reducible repeat (first | refine Bn_ ?_ _ | refine Bd_ ?_ | refine Ba_ ?_ _)); refine Bp_ (cs := #[.slice Ao53 t590.length co53, .int .i64 t593, .int .i64 0]) ?_ 2 _ rfl; (with_reducible repeat (first | refine Bn_ ?_ _ | refine Bd_ ?_ | refine Ba_ ?_ _)); refine Bp_ (cs := #[.slice Ao53 t590.length co53, .int .i64 0, .int .i64 0]) ?_ 1 _ rfl; (with_reducible repeat (first | refine Bn_ ?_ _ | refine Bd_ ?_ | refine Ba_ ?_ _)); refine Bp_ (cs := #[.slice none 0 0, .int .i64 0, .int .i64 0]) ?_ 0 _ rfl; (with_reducible repeat (first | refine Bn_ ?_ _ | refine Bd_ ?_ | refine Ba_ ?_ _)); exact BK596.out))⟩; have n3_ : Aside0 (Below w.heap.size w w56) := ⟨(by rw [hw]; exact (by repeat (first | (with_reducible first | exact HB.out | apply Pa_ | apply Pn_ | apply Pd_ | refine Bs_ ?_ GE580.out | refine Bs_ ?_ GE596.out) | exact HB.out)))⟩; clear hw; clear HO592; clear BK580; clear BK596; clear HB; have HO592 := n0_; have BK580 := n1_; have BK596 := n2_; have HB := n3_; clear n0_ n1_ n2_ n3_; have hcz57_0 : w56.cell? ⟨gb580, 0, none⟩ = some (.slice A0_0 l0_0.length c0_0) := (Bc_ BK580.out 0).trans rfl; have hcz57_1 : w56.cell? ⟨gb580, 1, none⟩ = some (.int .i64 a0_1) := (Bc_ BK580.out 1).trans rfl; have hcz57_2 : w56.cell? ⟨gb580, 2, none⟩ = some (.int .i64 a0_2) := (Bc_ BK580.out 2).trans rfl; have hfz57_0 := Bf_ BK580.out 0; have hfz57_1 := Bf_ BK580.out 1; have hfz57_2 := Bf_ BK580.out 2) | ((with_reducible refine gate_callee (f := 16) rfl ?_); refine goesL_ (some 111) rfl rfl Try.func16 (by kernel_rfl) rfl #[.agg #[.slice A0_0 l0_0.length c0_0, .int .i64 a0_1, .int .i64 a0_2], .int .i64 a1, .int .i64 (wrap64 (a2)), .string a5] rfl (by (try simp only [List.map_toArray, List.map_cons, List.map_nil]); first | done | rfl | (simp only [List.length_drop, List.length_take]; rfl)) ?_; (with_reducible refine (content_Write.calls (fun k_ => k_ < w.heap.size) _ _ l0_0 a0_1 a0_2 a1 (wrap64 (a2)) a5 t597 t600 t601 t602 _ ?side1 A43.out).mono ?_); (case side1 => exact Kd.V_mk HC0_0.out (Kd.F_below (Kd.C_F k59_heap HR0_0.out) (by repeat (first | (with_reducible first | exact HB.out | apply Pa_ | apply Pn_ | apply Pd_ | refine Bs_ ?_ GE580.out | refine Bs_ ?_ GE596.out) | exact HB.out)))); rintro e w58 ⟨v598, rfl, ho0, hb⟩; refine ⟨_, rfl, ?_⟩; have n0_ := Am_ (Vb_ (by (with_reducible repeat (first | apply Va_ | apply Vn_ | apply Vd_)); exact HO592.out) hb); have n1_ := Am_ (Vl_ (Vm_ (ok' := fun k_ => k_ ≠ gb580 ∧ k_ ≠ gb596) ho0 (fun k_ hk_ => ⟨Or.elim hk_ (fun hs_ => fun e_ => Nat.not_le.2 hs_ (by rw [e_]; exact GW580.out)) (fun hn_ => (Kd.freshB (g := gb580) (o := .cells #[.slice A0_0 l0_0.length c0_0, .int .i64 a0_1, .int .i64 a0_2] 24 (0, 0)) (by (with_reducible repeat (first | refine Bn_ ?_ _ | refine Bd_ ?_ | refine Ba_ ?_ _)); exact BK580.out) k_ hn_)), Or.elim hk_ (fun hs_ => fun e_ => Nat.not_le.2 hs_ (by rw [e_]; exact GW596.out)) (fun hn_ => (Kd.freshB (g := gb596) (o := .cells #[.slice Ao53 t590.length co53, .int .i64 t593, .int .i64 t594] 24 (0, 0)) (by (with_reducible repeat (first | refine Bn_ ?_ _ | refine Bd_ ?_ | refine Ba_ ?_ _)); exact BK596.out) k_ hn_))⟩)) (Bz_ (by repeat (first | (with_reducible first | exact HB.out | apply Pa_ | apply Pn_ | apply Pd_ | refine Bs_ ?_ GE580.out | refine Bs_ ?_ GE596.out) | exact HB.out)))); have n2_ := Am_ (Bb_ (g := gb580) (o := .cells #[.slice A0_0 l0_0.length c0_0, .int .i64 a0_1, .int .i64 a0_2] 24 (0, 0)) (by (with_reducible repeat (first | refine Bn_ ?_ _ | refine Bd_ ?_ | refine Ba_ ?_ _)); exact BK580.out) hb); have n3_ := Am_ (Bb_ (g := gb596) (o := .cells #[.slice Ao53 t590.length co53, .int .i64 t593, .int .i64 t594] 24 (0, 0)) (by (with_reducible repeat (first | refine Bn_ ?_ _ | refine Bd_ ?_ | refine Ba_ ?_ _)); exact BK596.out) hb); have n4_ := Am_ (Be_ (by repeat (first | (with_reducible first | exact HB.out | apply Pa_ | apply Pn_ | apply Pd_ | refine Bs_ ?_ GE580.out | refine Bs_ ?_ GE596.out) | exact HB.out)) hb); clear HO592; clear BK580; clear BK596; clear HB; have HO592 := n0_; have HO599 := n1_; have BK580 := n2_; have BK596 := n3_; have HB := n4_; clear n0_ n1_ n2_ n3_ n4_; (try clear hb); (try clear hb2); (try clear hk); (try clear hi); (try clear ho0)) | ((with_reducible refine gate_dst (N := 24) rfl ?_); (try (refine gate_guard (by rfl) ?_; dsimp only)); refine box_event ?hg (N := 24) ?hd (cs := #[.slice none 0 0, .int .i64 0, .int .i64 0]) (t := 24) ?hr ?_; (case hd => rfl); (case hg => rfl); (case hr => first | (go_simp; done) | (go_simp; rfl)); intro gb603 hg w59 hbox hb; have n0_ := Am_ (Vb_ (Ke_ (by (with_reducible repeat (first | apply Va_ | apply Vn_ | apply Vd_)); exact HO592.out) gb603 (Nat.le_of_eq hg.symm)) hb); have n1_ := Am_ (Vb_ (Ke_ (by (with_reducible repeat (first | apply Va_ | apply Vn_ | apply Vd_)); exact HO599.out) gb603 (Nat.le_of_eq hg.symm)) hb); have n2_ := Am_ (Bb_ (g := gb580) (o := .cells #[.slice A0_0 l0_0.length c0_0, .int .i64 a0_1, .int .i64 a0_2] 24 (0, 0)) (by (with_reducible repeat (first | refine Bn_ ?_ _ | refine Bd_ ?_ | refine Ba_ ?_ _)); exact BK580.out) hb); have n3_ := Am_ (Bb_ (g := gb596) (o := .cells #[.slice Ao53 t590.length co53, .int .i64 t593, .int .i64 t594] 24 (0, 0)) (by (with_reducible repeat (first | refine Bn_ ?_ _ | refine Bd_ ?_ | refine Ba_ ?_ _)); exact BK596.out) hb); have n4_ := Am_ (Be_ (by repeat (first | (with_reducible first | exact HB.out | apply Pa_ | apply Pn_ | apply Pd_ | refine Bs_ ?_ GE580.out | refine Bs_ ?_ GE596.out) | exact HB.out)) hb); have n5_ := Am_ (hbox); have n6_ := Am_ ((by rw [hg]; exact (Bz_ (by repeat (first | (with_reducible first | exact HB.out | apply Pa_ | apply Pn_ | apply Pd_ | refine Bs_ ?_ GE580.out | refine Bs_ ?_ GE596.out) | exact HB.out))) : w.heap.size ≤ gb603)); have n7_ := Am_ ((by rw [hg]; exact (Bz_ (by repeat (first | (with_reducible first | exact HB.out | apply Pa_ | apply Pn_ | apply Pd_ | refine Bs_ ?_ GE580.out | refine Bs_ ?_ GE596.out) | exact HB.out))) : w.heap.size ≤ gb603)); have n8_ := Am_ ((by rw [hg]; exact Nat.ne_of_lt (blk_lt (g := gb580) (o := .cells #[.slice A0_0 l0_0.length c0_0, .int .i64 a0_1, .int .i64 a0_2] 24 (0, 0)) (by (with_reducible repeat (first | refine Bn_ ?_ _ | refine Bd_ ?_ | refine Ba_ ?_ _)); exact BK580.out)) : gb580 ≠ gb603)); have n9_ := Am_ ((by rw [hg]; exact Nat.ne_of_gt (blk_lt (g := gb580) (o := .cells #[.slice A0_0 l0_0.length c0_0, .int .i64 a0_1, .int .i64 a0_2] 24 (0, 0)) (by (with_reducible repeat (first | refine Bn_ ?_ _ | refine Bd_ ?_ | refine Ba_ ?_ _)); exact BK580.out)) : gb603 ≠ gb580)); have n10_ := Am_ ((by rw [hg]; exact Nat.ne_of_lt (blk_lt (g := gb596) (o := .cells #[.slice Ao53 t590.length co53, .int .i64 t593, .int .i64 t594] 24 (0, 0)) (by (with_reducible repeat (first | refine Bn_ ?_ _ | refine Bd_ ?_ | refine Ba_ ?_ _)); exact BK596.out)) : gb596 ≠ gb603)); have n11_ := Am_ ((by rw [hg]; exact Nat.ne_of_gt (blk_lt (g := gb596) (o := .cells #[.slice Ao53 t590.length co53, .int .i64 t593, .int .i64 t594] 24 (0, 0)) (by (with_reducible repeat (first | refine Bn_ ?_ _ | refine Bd_ ?_ | refine Ba_ ?_ _)); exact BK596.out)) : gb603 ≠ gb596)); clear HO592; clear HO599; clear BK580; clear BK596; clear HB; have HO592 := n0_; have HO599 := n1_; have BK580 := n2_; have BK596 := n3_; have HB := n4_; have BK603 := n5_; have GW603 := n6_; have GE603 := n7_; have NB580_603 := n8_; have NB603_580 := n9_; have NB596_603 := n10_; have NB603_596 := n11_; clear n0_ n1_ n2_ n3_ n4_ n5_ n6_ n7_ n8_ n9_ n10_ n11_; clear hb hbox hg; obtain ⟨Ao60, co60, eo60⟩ := Vx_ HO599.out; subst eo60; have hnb61 := NB603_580.out; have hnc61 := NB580_603.out; have hnb62 := NB603_596.out; have hnc62 := NB596_603.out; have hcz63_0 : w59.cell? ⟨gb603, 0, none⟩ = some (.slice none 0 0) := (Bc_ BK603.out 0).trans rfl; have hcz63_1 : w59.cell? ⟨gb603, 1, none⟩ = some (.int .i64 0) := (Bc_ BK603.out 1).trans rfl; have hcz63_2 : w59.cell? ⟨gb603, 2, none⟩ = some (.int .i64 0) := (Bc_ BK603.out 2).trans rfl; have hfz63_0 := Bf_ BK603.out 0; have hfz63_1 := Bf_ BK603.out 1; have hfz63_2 := Bf_ BK603.out 2) | ((with_reducible refine gate_store (t := 24) (p := 24) rfl ?_); refine store_event (t := 24) (p := 24) (v := ?vo_w64) (w1 := (((w59.setCell ⟨gb603, 0, none⟩ (.slice Ao60 t597.length co60)).setCell ⟨gb603, 1, none⟩ (.int .i64 t600)).setCell ⟨gb603, 2, none⟩ (.int .i64 t601))) ?hg ?ho ?hn ?hr ?_; (case ho => rfl); (case hg => rfl); (case hn => rfl); (case hr => first | (go_simp; done) | (go_simp; rfl)); intro w64 hw; have n0_ : Aside0 (Kd.V k59 59 w64 w.heap.size (fun k_ => k_ ≠ gb580 ∧ k_ ≠ gb596 ∧ k_ ≠ gb603) (.slice Ao53 t590.length co53) t590) := ⟨(by rw [hw]; exact (by (with_reducible repeat (first | apply Va_ | apply Vn_ | apply Vd_)); exact Vm_ (Vf_ (p := ⟨gb603, 2, none⟩) (Vf_ (p := ⟨gb603, 1, none⟩) (Vf_ (p := ⟨gb603, 0, none⟩) (Vm_ HO592.out (fun k_ hk => (⟨hk, hk.2⟩ : _ ∧ k_ ≠ gb603))) (fun _ hk => hk.2) (.slice Ao60 t597.length co60)) (fun _ hk => hk.2) (.int .i64 t600)) (fun _ hk => hk.2) (.int .i64 t601)) (fun _ hk => ⟨hk.1.1.1, ⟨hk.1.1.2, hk.1.2⟩⟩)))⟩; have n1_ : Aside0 (Kd.V k59 59 w64 w.heap.size (fun k_ => k_ ≠ gb580 ∧ k_ ≠ gb596 ∧ k_ ≠ gb603) (.slice Ao60 t597.length co60) t597) := ⟨(by rw [hw]; exact (by (with_reducible repeat (first | apply Va_ | apply Vn_ | apply Vd_)); exact Vm_ (Vf_ (p := ⟨gb603, 2, none⟩) (Vf_ (p := ⟨gb603, 1, none⟩) (Vf_ (p := ⟨gb603, 0, none⟩) (Vm_ HO599.out (fun k_ hk => (⟨hk, hk.2⟩ : _ ∧ k_ ≠ gb603))) (fun _ hk => hk.2) (.slice Ao60 t597.length co60)) (fun _ hk => hk.2) (.int .i64 t600)) (fun _ hk => hk.2) (.int .i64 t601)) (fun _ hk => ⟨hk.1.1.1, ⟨hk.1.1.2, hk.1.2⟩⟩)))⟩; have n2_ : Aside0 (w64.heap[gb580]? = some (.cells #[.slice A0_0 l0_0.length c0_0, .int .i64 a0_1, .int .i64 a0_2] 24 (0, 0))) := ⟨(by rw [hw]; exact (by (with_reducible repeat (first | refine Bn_ ?_ _ | refine Bd_ ?_ | refine Ba_ ?_ _)); refine blk_far ?_ NB580_603.out _; (with_reducible repeat (first | refine Bn_ ?_ _ | refine Bd_ ?_ | refine Ba_ ?_ _)); refine blk_far ?_ NB580_603.out _; (with_reducible repeat (first | refine Bn_ ?_ _ | refine Bd_ ?_ | refine Ba_ ?_ _)); refine blk_far ?_ NB580_603.out _; (with_reducible repeat (first | refine Bn_ ?_ _ | refine Bd_ ?_ | refine Ba_ ?_ _)); exact BK580.out))⟩; have n3_ : Aside0 (w64.heap[gb596]? = some (.cells #[.slice Ao53 t590.length co53, .int .i64 t593, .int .i64 t594] 24 (0, 0))) := ⟨(by rw [hw]; exact (by (with_reducible repeat (first | refine Bn_ ?_ _ | refine Bd_ ?_ | refine Ba_ ?_ _)); refine blk_far ?_ NB596_603.out _; (with_reducible repeat (first | refine Bn_ ?_ _ | refine Bd_ ?_ | refine Ba_ ?_ _)); refine blk_far ?_ NB596_603.out _; (with_reducible repeat (first | refine Bn_ ?_ _ | refine Bd_ ?_ | refine Ba_ ?_ _)); refine blk_far ?_ NB596_603.out _; (with_reducible repeat (first | refine Bn_ ?_ _ | refine Bd_ ?_ | refine Ba_ ?_ _)); exact BK596.out))⟩; have n4_ : Aside0 (w64.heap[gb603]? = some (.cells #[.slice Ao60 t597.length co60, .int .i64 t600, .int .i64 t601] 24 (0, 0))) := ⟨(by rw [hw]; exact (by (with_reducible repeat (first | refine Bn_ ?_ _ | refine Bd_ ?_ | refine Ba_ ?_ _)); refine Bp_ (cs := #[.slice Ao60 t597.length co60, .int .i64 t600, .int .i64 0]) ?_ 2 _ rfl; (with_reducible repeat (first | refine Bn_ ?_ _ | refine Bd_ ?_ | refine Ba_ ?_ _)); refine Bp_ (cs := #[.slice Ao60 t597.length co60, .int .i64 0, .int .i64 0]) ?_ 1 _ rfl; (with_reducible repeat (first | refine Bn_ ?_ _ | refine Bd_ ?_ | refine Ba_ ?_ _)); refine Bp_ (cs := #[.slice none 0 0, .int .i64 0, .int .i64 0]) ?_ 0 _ rfl; (with_reducible repeat (first | refine Bn_ ?_ _ | refine Bd_ ?_ | refine Ba_ ?_ _)); exact BK603.out))⟩; have n5_ : Aside0 (Below w.heap.size w w64) := ⟨(by rw [hw]; exact (by repeat (first | (with_reducible first | exact HB.out | apply Pa_ | apply Pn_ | apply Pd_ | refine Bs_ ?_ GE580.out | refine Bs_ ?_ GE596.out | refine Bs_ ?_ GE603.out) | exact HB.out)))⟩; clear hw; clear HO592; clear HO599; clear BK580; clear BK596; clear BK603; clear HB; have HO592 := n0_; have HO599 := n1_; have BK580 := n2_; have BK596 := n3_; have BK603 := n4_; have HB := n5_; clear n0_ n1_ n2_ n3_ n4_ n5_; have hcz65_0 : w64.cell? ⟨gb603, 0, none⟩ = some (.slice Ao60 t597.length co60) := (Bc_ BK603.out 0).trans rfl; have hcz65_1 : w64.cell? ⟨gb603, 1, none⟩ = some (.int .i64 t600) := (Bc_ BK603.out 1).trans rfl; have hcz65_2 : w64.cell? ⟨gb603, 2, none⟩ = some (.int .i64 t601) := (Bc_ BK603.out 2).trans rfl; have hfz65_0 := Bf_ BK603.out 0; have hfz65_1 := Bf_ BK603.out 1; have hfz65_2 := Bf_ BK603.out 2) | ((with_reducible refine gate_callee (f := 16) rfl ?_); refine goesL_ (some 122) rfl rfl Try.func16 (by kernel_rfl) rfl #[.agg #[.slice Ao60 t597.length co60, .int .i64 t600, .int .i64 t601], .int .i64 a1, .int .i64 (wrap64 ((wrap64 (a2)) + (a5.size : Int))), .string a6] rfl (by (try simp only [List.map_toArray, List.map_cons, List.map_nil]); first | done | rfl | (simp only [List.length_drop, List.length_take]; rfl)) ?_; (with_reducible refine (content_Write.calls (fun k_ => (k_ ≠ gb580 ∧ (k_ ≠ gb596 ∧ k_ ≠ gb603))) _ _ t597 t600 t601 a1 (wrap64 ((wrap64 (a2)) + (a5.size : Int))) a6 t604 t607 t608 t609 _ ?side1 A44.out).mono ?_); (case side1 => exact HO599.out); rintro e w66 ⟨v605, rfl, ho0, hb⟩; refine ⟨_, rfl, ?_⟩; have n0_ := Am_ (Vb_ (by (with_reducible repeat (first | apply Va_ | apply Vn_ | apply Vd_)); exact HO592.out) hb); have n1_ := Am_ (Vb_ (by (with_reducible repeat (first | apply Va_ | apply Vn_ | apply Vd_)); exact HO599.out) hb); have n2_ := Am_ (Vl_ (Vm_ (ok' := fun k_ => k_ ≠ gb580 ∧ k_ ≠ gb596 ∧ k_ ≠ gb603) ho0 (fun k_ hk_ => ⟨Or.elim hk_ (fun hs_ => hs_.1) (fun hn_ => (Kd.freshB (g := gb580) (o := .cells #[.slice A0_0 l0_0.length c0_0, .int .i64 a0_1, .int .i64 a0_2] 24 (0, 0)) (by (with_reducible repeat (first | refine Bn_ ?_ _ | refine Bd_ ?_ | refine Ba_ ?_ _)); exact BK580.out) k_ hn_)), Or.elim hk_ (fun hs_ => hs_.2.1) (fun hn_ => (Kd.freshB (g := gb596) (o := .cells #[.slice Ao53 t590.length co53, .int .i64 t593, .int .i64 t594] 24 (0, 0)) (by (with_reducible repeat (first | refine Bn_ ?_ _ | refine Bd_ ?_ | refine Ba_ ?_ _)); exact BK596.out) k_ hn_)), Or.elim hk_ (fun hs_ => hs_.2.2) (fun hn_ => (Kd.freshB (g := gb603) (o := .cells #[.slice Ao60 t597.length co60, .int .i64 t600, .int .i64 t601] 24 (0, 0)) (by (with_reducible repeat (first | refine Bn_ ?_ _ | refine Bd_ ?_ | refine Ba_ ?_ _)); exact BK603.out) k_ hn_))⟩)) (Bz_ (by repeat (first | (with_reducible first | exact HB.out | apply Pa_ | apply Pn_ | apply Pd_ | refine Bs_ ?_ GE580.out | refine Bs_ ?_ GE596.out | refine Bs_ ?_ GE603.out) | exact HB.out)))); have n3_ := Am_ (Bb_ (g := gb580) (o := .cells #[.slice A0_0 l0_0.length c0_0, .int .i64 a0_1, .int .i64 a0_2] 24 (0, 0)) (by (with_reducible repeat (first | refine Bn_ ?_ _ | refine Bd_ ?_ | refine Ba_ ?_ _)); exact BK580.out) hb); have n4_ := Am_ (Bb_ (g := gb596) (o := .cells #[.slice Ao53 t590.length co53, .int .i64 t593, .int .i64 t594] 24 (0, 0)) (by (with_reducible repeat (first | refine Bn_ ?_ _ | refine Bd_ ?_ | refine Ba_ ?_ _)); exact BK596.out) hb); have n5_ := Am_ (Bb_ (g := gb603) (o := .cells #[.slice Ao60 t597.length co60, .int .i64 t600, .int .i64 t601] 24 (0, 0)) (by (with_reducible repeat (first | refine Bn_ ?_ _ | refine Bd_ ?_ | refine Ba_ ?_ _)); exact BK603.out) hb); have n6_ := Am_ (Be_ (by repeat (first | (with_reducible first | exact HB.out | apply Pa_ | apply Pn_ | apply Pd_ | refine Bs_ ?_ GE580.out | refine Bs_ ?_ GE596.out | refine Bs_ ?_ GE603.out) | exact HB.out)) hb); clear HO592; clear HO599; clear BK580; clear BK596; clear BK603; clear HB; have HO592 := n0_; have HO599 := n1_; have HO606 := n2_; have BK580 := n3_; have BK596 := n4_; have BK603 := n5_; have HB := n6_; clear n0_ n1_ n2_ n3_ n4_ n5_ n6_; (try clear hb); (try clear hb2); (try clear hk); (try clear hi); (try clear ho0)) | ((with_reducible refine gate_dst (N := 26) rfl ?_); (try (refine gate_guard (by rfl) ?_; dsimp only)); refine box_event ?hg (N := 26) ?hd (cs := #[.slice none 0 0, .int .i64 0, .int .i64 0]) (t := 24) ?hr ?_; (case hd => rfl); (case hg => rfl); (case hr => first | (go_simp; done) | (go_simp; rfl)); intro gb610 hg w67 hbox hb; have n0_ := Am_ (Vb_ (Ke_ (by (with_reducible repeat (first | apply Va_ | apply Vn_ | apply Vd_)); exact HO592.out) gb610 (Nat.le_of_eq hg.symm)) hb); have n1_ := Am_ (Vb_ (Ke_ (by (with_reducible repeat (first | apply Va_ | apply Vn_ | apply Vd_)); exact HO599.out) gb610 (Nat.le_of_eq hg.symm)) hb); have n2_ := Am_ (Vb_ (Ke_ (by (with_reducible repeat (first | apply Va_ | apply Vn_ | apply Vd_)); exact HO606.out) gb610 (Nat.le_of_eq hg.symm)) hb); have n3_ := Am_ (Bb_ (g := gb580) (o := .cells #[.slice A0_0 l0_0.length c0_0, .int .i64 a0_1, .int .i64 a0_2] 24 (0, 0)) (by (with_reducible repeat (first | refine Bn_ ?_ _ | refine Bd_ ?_ | refine Ba_ ?_ _)); exact BK580.out) hb); have n4_ := Am_ (Bb_ (g := gb596) (o := .cells #[.slice Ao53 t590.length co53, .int .i64 t593, .int .i64 t594] 24 (0, 0)) (by (with_reducible repeat (first | refine Bn_ ?_ _ | refine Bd_ ?_ | refine Ba_ ?_ _)); exact BK596.out) hb); have n5_ := Am_ (Bb_ (g := gb603) (o := .cells #[.slice Ao60 t597.length co60, .int .i64 t600, .int .i64 t601] 24 (0, 0)) (by (with_reducible repeat (first | refine Bn_ ?_ _ | refine Bd_ ?_ | refine Ba_ ?_ _)); exact BK603.out) hb); have n6_ := Am_ (Be_ (by repeat (first | (with_reducible first | exact HB.out | apply Pa_ | apply Pn_ | apply Pd_ | refine Bs_ ?_ GE580.out | refine Bs_ ?_ GE596.out | refine Bs_ ?_ GE603.out) | exact HB.out)) hb); have n7_ := Am_ (hbox); have n8_ := Am_ ((by rw [hg]; exact (Bz_ (by repeat (first | (with_reducible first | exact HB.out | apply Pa_ | apply Pn_ | apply Pd_ | refine Bs_ ?_ GE580.out | refine Bs_ ?_ GE596.out | refine Bs_ ?_ GE603.out) | exact HB.out))) : w.heap.size ≤ gb610)); have n9_ := Am_ ((by rw [hg]; exact (Bz_ (by repeat (first | (with_reducible first | exact HB.out | apply Pa_ | apply Pn_ | apply Pd_ | refine Bs_ ?_ GE580.out | refine Bs_ ?_ GE596.out | refine Bs_ ?_ GE603.out) | exact HB.out))) : w.heap.size ≤ gb610)); have n10_ := Am_ ((by rw [hg]; exact Nat.ne_of_lt (blk_lt (g := gb580) (o := .cells #[.slice A0_0 l0_0.length c0_0, .int .i64 a0_1, .int .i64 a0_2] 24 (0, 0)) (by (with_reducible repeat (first | refine Bn_ ?_ _ | refine Bd_ ?_ | refine Ba_ ?_ _)); exact BK580.out)) : gb580 ≠ gb610)); have n11_ := Am_ ((by rw [hg]; exact Nat.ne_of_gt (blk_lt (g := gb580) (o := .cells #[.slice A0_0 l0_0.length c0_0, .int .i64 a0_1, .int .i64 a0_2] 24 (0, 0)) (by (with_reducible repeat (first | refine Bn_ ?_ _ | refine Bd_ ?_ | refine Ba_ ?_ _)); exact BK580.out)) : gb610 ≠ gb580)); have n12_ := Am_ ((by rw [hg]; exact Nat.ne_of_lt (blk_lt (g := gb596) (o := .cells #[.slice Ao53 t590.length co53, .int .i64 t593, .int .i64 t594] 24 (0, 0)) (by (with_reducible repeat (first | refine Bn_ ?_ _ | refine Bd_ ?_ | refine Ba_ ?_ _)); exact BK596.out)) : gb596 ≠ gb610)); have n13_ := Am_ ((by rw [hg]; exact Nat.ne_of_gt (blk_lt (g := gb596) (o := .cells #[.slice Ao53 t590.length co53, .int .i64 t593, .int .i64 t594] 24 (0, 0)) (by (with_reducible repeat (first | refine Bn_ ?_ _ | refine Bd_ ?_ | refine Ba_ ?_ _)); exact BK596.out)) : gb610 ≠ gb596)); have n14_ := Am_ ((by rw [hg]; exact Nat.ne_of_lt (blk_lt (g := gb603) (o := .cells #[.slice Ao60 t597.length co60, .int .i64 t600, .int .i64 t601] 24 (0, 0)) (by (with_reducible repeat (first | refine Bn_ ?_ _ | refine Bd_ ?_ | refine Ba_ ?_ _)); exact BK603.out)) : gb603 ≠ gb610)); have n15_ := Am_ ((by rw [hg]; exact Nat.ne_of_gt (blk_lt (g := gb603) (o := .cells #[.slice Ao60 t597.length co60, .int .i64 t600, .int .i64 t601] 24 (0, 0)) (by (with_reducible repeat (first | refine Bn_ ?_ _ | refine Bd_ ?_ | refine Ba_ ?_ _)); exact BK603.out)) : gb610 ≠ gb603)); clear HO592; clear HO599; clear HO606; clear BK580; clear BK596; clear BK603; clear HB; have HO592 := n0_; have HO599 := n1_; have HO606 := n2_; have BK580 := n3_; have BK596 := n4_; have BK603 := n5_; have HB := n6_; have BK610 := n7_; have GW610 := n8_; have GE610 := n9_; have NB580_610 := n10_; have NB610_580 := n11_; have NB596_610 := n12_; have NB610_596 := n13_; have NB603_610 := n14_; have NB610_603 := n15_; clear n0_ n1_ n2_ n3_ n4_ n5_ n6_ n7_ n8_ n9_ n10_ n11_ n12_ n13_ n14_ n15_; clear hb hbox hg; obtain ⟨Ao68, co68, eo68⟩ := Vx_ HO606.out; subst eo68; have hnb69 := NB610_580.out; have hnc69 := NB580_610.out; have hnb70 := NB610_596.out; have hnc70 := NB596_610.out; have hnb71 := NB610_603.out; have hnc71 := NB603_610.out; have hcz72_0 : w67.cell? ⟨gb610, 0, none⟩ = some (.slice none 0 0) := (Bc_ BK610.out 0).trans rfl; have hcz72_1 : w67.cell? ⟨gb610, 1, none⟩ = some (.int .i64 0) := (Bc_ BK610.out 1).trans rfl; have hcz72_2 : w67.cell? ⟨gb610, 2, none⟩ = some (.int .i64 0) := (Bc_ BK610.out 2).trans rfl; have hfz72_0 := Bf_ BK610.out 0; have hfz72_1 := Bf_ BK610.out 1; have hfz72_2 := Bf_ BK610.out 2))
          have n0_ : Aside0 (Kd.V k59 59 (((w67.setCell ⟨gb610, 0, none⟩ (.slice Ao68 t604.length co68)).setCell ⟨gb610, 1, none⟩ (.int .i64 t607)).setCell ⟨gb610, 2, none⟩ (.int .i64 t608)) w.heap.size (fun k_ => k_ ≠ gb580 ∧ k_ ≠ gb596 ∧ k_ ≠ gb603 ∧ k_ ≠ gb610) (.slice Ao53 t590.length co53) t590) := ⟨by (with_reducible repeat (first | apply Va_ | apply Vn_ | apply Vd_)); exact Vm_ (Vf_ (p := ⟨gb610, 2, none⟩) (Vf_ (p := ⟨gb610, 1, none⟩) (Vf_ (p := ⟨gb610, 0, none⟩) (Vm_ HO592.out (fun k_ hk => (⟨hk, hk.2⟩ : _ ∧ k_ ≠ gb610))) (fun _ hk => hk.2) (.slice Ao68 t604.length co68)) (fun _ hk => hk.2) (.int .i64 t607)) (fun _ hk => hk.2) (.int .i64 t608)) (fun _ hk => ⟨hk.1.1.1, ⟨hk.1.1.2.1, ⟨hk.1.1.2.2, hk.1.2⟩⟩⟩)⟩
          have n1_ : Aside0 (Kd.V k59 59 (((w67.setCell ⟨gb610, 0, none⟩ (.slice Ao68 t604.length co68)).setCell ⟨gb610, 1, none⟩ (.int .i64 t607)).setCell ⟨gb610, 2, none⟩ (.int .i64 t608)) w.heap.size (fun k_ => k_ ≠ gb580 ∧ k_ ≠ gb596 ∧ k_ ≠ gb603 ∧ k_ ≠ gb610) (.slice Ao60 t597.length co60) t597) := ⟨by (with_reducible repeat (first | apply Va_ | apply Vn_ | apply Vd_)); exact Vm_ (Vf_ (p := ⟨gb610, 2, none⟩) (Vf_ (p := ⟨gb610, 1, none⟩) (Vf_ (p := ⟨gb610, 0, none⟩) (Vm_ HO599.out (fun k_ hk => (⟨hk, hk.2⟩ : _ ∧ k_ ≠ gb610))) (fun _ hk => hk.2) (.slice Ao68 t604.length co68)) (fun _ hk => hk.2) (.int .i64 t607)) (fun _ hk => hk.2) (.int .i64 t608)) (fun _ hk => ⟨hk.1.1.1, ⟨hk.1.1.2.1, ⟨hk.1.1.2.2, hk.1.2⟩⟩⟩)⟩
          have n2_ : Aside0 (Kd.V k59 59 (((w67.setCell ⟨gb610, 0, none⟩ (.slice Ao68 t604.length co68)).setCell ⟨gb610, 1, none⟩ (.int .i64 t607)).setCell ⟨gb610, 2, none⟩ (.int .i64 t608)) w.heap.size (fun k_ => k_ ≠ gb580 ∧ k_ ≠ gb596 ∧ k_ ≠ gb603 ∧ k_ ≠ gb610) (.slice Ao68 t604.length co68) t604) := ⟨by (with_reducible repeat (first | apply Va_ | apply Vn_ | apply Vd_)); exact Vm_ (Vf_ (p := ⟨gb610, 2, none⟩) (Vf_ (p := ⟨gb610, 1, none⟩) (Vf_ (p := ⟨gb610, 0, none⟩) (Vm_ HO606.out (fun k_ hk => (⟨hk, hk.2⟩ : _ ∧ k_ ≠ gb610))) (fun _ hk => hk.2) (.slice Ao68 t604.length co68)) (fun _ hk => hk.2) (.int .i64 t607)) (fun _ hk => hk.2) (.int .i64 t608)) (fun _ hk => ⟨hk.1.1.1, ⟨hk.1.1.2.1, ⟨hk.1.1.2.2, hk.1.2⟩⟩⟩)⟩
          have n3_ : Aside0 ((((w67.setCell ⟨gb610, 0, none⟩ (.slice Ao68 t604.length co68)).setCell ⟨gb610, 1, none⟩ (.int .i64 t607)).setCell ⟨gb610, 2, none⟩ (.int .i64 t608)).heap[gb580]? = some (.cells #[.slice A0_0 l0_0.length c0_0, .int .i64 a0_1, .int .i64 a0_2] 24 (0, 0))) := ⟨by (with_reducible repeat (first | refine Bn_ ?_ _ | refine Bd_ ?_ | refine Ba_ ?_ _)); refine blk_far ?_ NB580_610.out _; (with_reducible repeat (first | refine Bn_ ?_ _ | refine Bd_ ?_ | refine Ba_ ?_ _)); refine blk_far ?_ NB580_610.out _; (with_reducible repeat (first | refine Bn_ ?_ _ | refine Bd_ ?_ | refine Ba_ ?_ _)); refine blk_far ?_ NB580_610.out _; (with_reducible repeat (first | refine Bn_ ?_ _ | refine Bd_ ?_ | refine Ba_ ?_ _)); exact BK580.out⟩
          have n4_ : Aside0 ((((w67.setCell ⟨gb610, 0, none⟩ (.slice Ao68 t604.length co68)).setCell ⟨gb610, 1, none⟩ (.int .i64 t607)).setCell ⟨gb610, 2, none⟩ (.int .i64 t608)).heap[gb596]? = some (.cells #[.slice Ao53 t590.length co53, .int .i64 t593, .int .i64 t594] 24 (0, 0))) := ⟨by (with_reducible repeat (first | refine Bn_ ?_ _ | refine Bd_ ?_ | refine Ba_ ?_ _)); refine blk_far ?_ NB596_610.out _; (with_reducible repeat (first | refine Bn_ ?_ _ | refine Bd_ ?_ | refine Ba_ ?_ _)); refine blk_far ?_ NB596_610.out _; (with_reducible repeat (first | refine Bn_ ?_ _ | refine Bd_ ?_ | refine Ba_ ?_ _)); refine blk_far ?_ NB596_610.out _; (with_reducible repeat (first | refine Bn_ ?_ _ | refine Bd_ ?_ | refine Ba_ ?_ _)); exact BK596.out⟩
          have n5_ : Aside0 ((((w67.setCell ⟨gb610, 0, none⟩ (.slice Ao68 t604.length co68)).setCell ⟨gb610, 1, none⟩ (.int .i64 t607)).setCell ⟨gb610, 2, none⟩ (.int .i64 t608)).heap[gb603]? = some (.cells #[.slice Ao60 t597.length co60, .int .i64 t600, .int .i64 t601] 24 (0, 0))) := ⟨by (with_reducible repeat (first | refine Bn_ ?_ _ | refine Bd_ ?_ | refine Ba_ ?_ _)); refine blk_far ?_ NB603_610.out _; (with_reducible repeat (first | refine Bn_ ?_ _ | refine Bd_ ?_ | refine Ba_ ?_ _)); refine blk_far ?_ NB603_610.out _; (with_reducible repeat (first | refine Bn_ ?_ _ | refine Bd_ ?_ | refine Ba_ ?_ _)); refine blk_far ?_ NB603_610.out _; (with_reducible repeat (first | refine Bn_ ?_ _ | refine Bd_ ?_ | refine Ba_ ?_ _)); exact BK603.out⟩
          have n6_ : Aside0 ((((w67.setCell ⟨gb610, 0, none⟩ (.slice Ao68 t604.length co68)).setCell ⟨gb610, 1, none⟩ (.int .i64 t607)).setCell ⟨gb610, 2, none⟩ (.int .i64 t608)).heap[gb610]? = some (.cells #[.slice Ao68 t604.length co68, .int .i64 t607, .int .i64 t608] 24 (0, 0))) := ⟨by (with_reducible repeat (first | refine Bn_ ?_ _ | refine Bd_ ?_ | refine Ba_ ?_ _)); refine Bp_ (cs := #[.slice Ao68 t604.length co68, .int .i64 t607, .int .i64 0]) ?_ 2 _ rfl; (with_reducible repeat (first | refine Bn_ ?_ _ | refine Bd_ ?_ | refine Ba_ ?_ _)); refine Bp_ (cs := #[.slice Ao68 t604.length co68, .int .i64 0, .int .i64 0]) ?_ 1 _ rfl; (with_reducible repeat (first | refine Bn_ ?_ _ | refine Bd_ ?_ | refine Ba_ ?_ _)); refine Bp_ (cs := #[.slice none 0 0, .int .i64 0, .int .i64 0]) ?_ 0 _ rfl; (with_reducible repeat (first | refine Bn_ ?_ _ | refine Bd_ ?_ | refine Ba_ ?_ _)); exact BK610.out⟩
          have n7_ : Aside0 (Below w.heap.size w (((w67.setCell ⟨gb610, 0, none⟩ (.slice Ao68 t604.length co68)).setCell ⟨gb610, 1, none⟩ (.int .i64 t607)).setCell ⟨gb610, 2, none⟩ (.int .i64 t608))) := ⟨by repeat (first | (with_reducible first | exact HB.out | apply Pa_ | apply Pn_ | apply Pd_ | refine Bs_ ?_ GE580.out | refine Bs_ ?_ GE596.out | refine Bs_ ?_ GE603.out | refine Bs_ ?_ GE610.out) | exact HB.out)⟩
          (try clear HO592)
          (try clear HO599)
          (try clear HO606)
          (try clear BK580)
          (try clear BK596)
          (try clear BK603)
          (try clear BK610)
          (try clear HB)
          generalize (((w67.setCell ⟨gb610, 0, none⟩ (.slice Ao68 t604.length co68)).setCell ⟨gb610, 1, none⟩ (.int .i64 t607)).setCell ⟨gb610, 2, none⟩ (.int .i64 t608)) = w73 at n0_ n1_ n2_ n3_ n4_ n5_ n6_ n7_ ⊢
          have HO592 := n0_
          have HO599 := n1_
          have HO606 := n2_
          have BK580 := n3_
          have BK596 := n4_
          have BK603 := n5_
          have BK610 := n6_
          have HB := n7_
          clear n0_ n1_ n2_ n3_ n4_ n5_ n6_ n7_
          have n0_ := Am_ (Vd_ HO592.out)
          have n1_ := Am_ (Vd_ HO599.out)
          have n2_ := Am_ (Vd_ HO606.out)
          have n3_ := Am_ (Bd_ BK580.out)
          have n4_ := Am_ (Bd_ BK596.out)
          have n5_ := Am_ (Bd_ BK603.out)
          have n6_ := Am_ (Bd_ BK610.out)
          have n7_ := Am_ (Pd_ HB.out)
          clear HO592
          clear HO599
          clear HO606
          clear BK580
          clear BK596
          clear BK603
          clear BK610
          clear HB
          have HO592 := n0_
          have HO599 := n1_
          have HO606 := n2_
          have BK580 := n3_
          have BK596 := n4_
          have BK603 := n5_
          have BK610 := n6_
          have HB := n7_
          clear n0_ n1_ n2_ n3_ n4_ n5_ n6_ n7_
          refine start_ (n := 10) (S := fun w' => w'.cell? ⟨gb596, 0, none⟩ = some (.slice Ao53 t590.length co53) ∧ w'.cell? ⟨gb596, 1, none⟩ = some (.int .i64 t593) ∧ w'.cell? ⟨gb596, 2, none⟩ = some (.int .i64 t594) ∧ w'.cell? ⟨gb610, 0, none⟩ = some (.slice Ao68 t604.length co68) ∧ w'.cell? ⟨gb610, 1, none⟩ = some (.int .i64 t607) ∧ w'.cell? ⟨gb610, 2, none⟩ = some (.int .i64 t608)) (ds := []) #[f_,f_,f_,f_,f_,f_,f_,f_,f_,f_] (by kernel_rfl) rfl rfl ⟨(Bc_ BK596.out 0).trans rfl, (Bc_ BK596.out 1).trans rfl, (Bc_ BK596.out 2).trans rfl, (Bc_ BK610.out 0).trans rfl, (Bc_ BK610.out 1).trans rfl, (Bc_ BK610.out 2).trans rfl⟩ (fun hHeld => ?_); refine with_tabW flagstonelaw09_ContentParts.tab14 flagstonelaw09_ContentParts.bits14 (fun HT_ HW_ => ?_)
          generalize w73.drew = w74 at HO592 HO599 HO606 BK580 BK596 BK603 BK610 HB hHeld ⊢
          refine pure_ (i := 0) (N := some 127) (v := ?_) (a' := ?_) #[t_,f_,f_,f_,f_,f_,f_,f_,f_,f_] rfl rfl (any_of HT_.out (by kernel_rfl)) (fun _ _ _ h => h) (Or.inl ⟨by rfl, ?_⟩) ?_ ?_
          rotate_left
          ·intro w'
           go_simp
           with_reducible rfl
          rotate_left
          ·simp only [Act.put, La_, Lb_, Lc_, i64_w, i32_w]
           rfl
          refine pure_ (i := 1) (N := some 128) (v := ?_) (a' := ?_) #[t_,t_,f_,f_,f_,f_,f_,f_,f_,f_] rfl rfl (any_of HT_.out (by kernel_rfl)) (fun _ _ _ h => h) (Or.inl ⟨by rfl, ?_⟩) ?_ ?_
          rotate_left
          ·intro w'
           go_simp
           with_reducible rfl
          rotate_left
          ·simp only [Act.put, La_, Lb_, Lc_, i64_w, i32_w]
           rfl
          refine pure_ (i := 2) (N := some 129) (v := ?_) (a' := ?_) #[t_,t_,t_,f_,f_,f_,f_,f_,f_,f_] rfl rfl (any_of HT_.out (by kernel_rfl)) (fun _ _ _ h => h) (Or.inl ⟨by rfl, ?_⟩) ?_ ?_
          rotate_left
          ·intro w'
           go_simp
           with_reducible rfl
          rotate_left
          ·simp only [Act.put, La_, Lb_, Lc_, i64_w, i32_w]
           rfl
          refine take_ (i := 3) (N := some 130) (v := ?_) (a' := ?_) #[t_,t_,t_,t_,f_,f_,f_,f_,f_,f_] rfl rfl (take_ofW HT_.out HW_.out (by kernel_rfl)) (fun _ _ _ h => h) (Or.inl ⟨by rfl, ?_⟩) hHeld ?_ ?_
          rotate_left
          ·rintro w' ⟨s0, s1, s2, s3, s4, s5⟩
           go_simp
           with_reducible rfl
          rotate_left
          ·simp only [Act.put, La_, Lb_, Lc_, i64_w, i32_w]
           rfl
          refine take_ (i := 5) (N := some 132) (v := ?_) (a' := ?_) #[t_,t_,t_,t_,f_,t_,f_,f_,f_,f_] rfl rfl (take_ofW HT_.out HW_.out (by kernel_rfl)) (fun _ _ _ h => h) (Or.inl ⟨by rfl, ?_⟩) hHeld ?_ ?_
          rotate_left
          ·rintro w' ⟨s0, s1, s2, s3, s4, s5⟩
           go_simp
           with_reducible rfl
          rotate_left
          ·simp only [Act.put, La_, Lb_, Lc_, i64_w, i32_w]
           rfl
          refine one_ (i := 4) (N := some 131) #[t_,t_,t_,t_,t_,t_,f_,f_,f_,f_] rfl rfl (one_of HT_.out (by kernel_rfl)) (by decide) (fun K hK => ?_)
          refine goes_ Try.func13 (by kernel_rfl) rfl #[.agg #[.slice Ao53 t590.length co53, .int .i64 t593, .int .i64 t594]] (by rfl) rfl rfl (by (try simp only [List.map_toArray, List.map_cons, List.map_nil]); first | done | rfl | (simp only [List.length_drop, List.length_take]; rfl)) ?_
          with_reducible refine (flagstonelaw09_its.calls kj29 _ _ t590 t593 t594 t611 t614 t615 _ ?side1 ?side2 A47.out).mono ?_
          (case side1 => repeat (first | exact (Vr_ HO592.out).2.2 | (with_reducible refine Kd.C_alloc ?_ _) | (with_reducible refine Kd.C_drewN ?_ _) | (with_reducible refine Kd.C_drew ?_)))
          (case side2 => exact (Vr_ HO592.out).2.1)
          rintro e w75 ⟨v612, rfl, ho0, hb⟩
          refine ⟨_, rfl, ?_⟩
          have n0_ := Am_ (Kd.V_elder' (by (with_reducible repeat (first | apply Va_ | apply Vn_ | apply Vd_)); exact HO592.out) (Kd.S_base ho0) hb)
          have n1_ := Am_ (Kd.V_elder' (by (with_reducible repeat (first | apply Va_ | apply Vn_ | apply Vd_)); exact HO599.out) (Kd.S_base ho0) hb)
          have n2_ := Am_ (Kd.V_elder' (by (with_reducible repeat (first | apply Va_ | apply Vn_ | apply Vd_)); exact HO606.out) (Kd.S_base ho0) hb)
          have n3_ := Am_ (Kd.S_lower ho0 (Bz_ (by repeat (first | (with_reducible first | exact HB.out | apply Pa_ | apply Pn_ | apply Pd_ | refine Bs_ ?_ GE580.out | refine Bs_ ?_ GE596.out | refine Bs_ ?_ GE603.out | refine Bs_ ?_ GE610.out) | exact HB.out))))
          have n4_ := Am_ (Bb_ (g := gb580) (o := .cells #[.slice A0_0 l0_0.length c0_0, .int .i64 a0_1, .int .i64 a0_2] 24 (0, 0)) (by (with_reducible repeat (first | refine Bn_ ?_ _ | refine Bd_ ?_ | refine Ba_ ?_ _)); exact BK580.out) hb)
          have n5_ := Am_ (Bb_ (g := gb596) (o := .cells #[.slice Ao53 t590.length co53, .int .i64 t593, .int .i64 t594] 24 (0, 0)) (by (with_reducible repeat (first | refine Bn_ ?_ _ | refine Bd_ ?_ | refine Ba_ ?_ _)); exact BK596.out) hb)
          have n6_ := Am_ (Bb_ (g := gb603) (o := .cells #[.slice Ao60 t597.length co60, .int .i64 t600, .int .i64 t601] 24 (0, 0)) (by (with_reducible repeat (first | refine Bn_ ?_ _ | refine Bd_ ?_ | refine Ba_ ?_ _)); exact BK603.out) hb)
          have n7_ := Am_ (Bb_ (g := gb610) (o := .cells #[.slice Ao68 t604.length co68, .int .i64 t607, .int .i64 t608] 24 (0, 0)) (by (with_reducible repeat (first | refine Bn_ ?_ _ | refine Bd_ ?_ | refine Ba_ ?_ _)); exact BK610.out) hb)
          have n8_ := Am_ (Be_ (by repeat (first | (with_reducible first | exact HB.out | apply Pa_ | apply Pn_ | apply Pd_ | refine Bs_ ?_ GE580.out | refine Bs_ ?_ GE596.out | refine Bs_ ?_ GE603.out | refine Bs_ ?_ GE610.out) | exact HB.out)) hb)
          clear HO592
          clear HO599
          clear HO606
          clear BK580
          clear BK596
          clear BK603
          clear BK610
          clear HB
          have HO592 := n0_
          have HO599 := n1_
          have HO606 := n2_
          have HO613 := n3_
          have BK580 := n4_
          have BK596 := n5_
          have BK603 := n6_
          have BK610 := n7_
          have HB := n8_
          clear n0_ n1_ n2_ n3_ n4_ n5_ n6_ n7_ n8_
          (try clear hb)
          (try clear hb2)
          (try clear hk)
          (try clear hi)
          (try clear ho0)
          refine hK.out _ _ ⟨(Bc_ BK596.out 0).trans rfl, (Bc_ BK596.out 1).trans rfl, (Bc_ BK596.out 2).trans rfl, (Bc_ BK610.out 0).trans rfl, (Bc_ BK610.out 1).trans rfl, (Bc_ BK610.out 2).trans rfl⟩ (fun hHeld => ?_)
          clear hK K
          refine norm_ (a' := ?_) ?_ ?_
          rotate_left
          ·show Act.put _ (some 131) _ = _
           simp only [Act.put, La_, Lb_, Lc_, i64_w, i32_w]
           rfl
          refine one_ (i := 6) (N := some 133) #[t_,t_,t_,t_,t_,t_,t_,f_,f_,f_] rfl rfl (one_of HT_.out (by kernel_rfl)) (by decide) (fun K hK => ?_)
          refine goes_ Try.func13 (by kernel_rfl) rfl #[.agg #[.slice Ao68 t604.length co68, .int .i64 t607, .int .i64 t608]] (by rfl) rfl rfl (by (try simp only [List.map_toArray, List.map_cons, List.map_nil]); first | done | rfl | (simp only [List.length_drop, List.length_take]; rfl)) ?_
          with_reducible refine (flagstonelaw09_its.calls kj29 _ _ t604 t607 t608 t616 t619 t620 _ ?side1 ?side2 A48.out).mono ?_
          (case side1 => repeat (first | exact (Vr_ HO606.out).2.2 | (with_reducible refine Kd.C_alloc ?_ _) | (with_reducible refine Kd.C_drewN ?_ _) | (with_reducible refine Kd.C_drew ?_)))
          (case side2 => exact (Vr_ HO606.out).2.1)
          rintro e w76 ⟨v617, rfl, ho0, hb⟩
          refine ⟨_, rfl, ?_⟩
          have n0_ := Am_ (Kd.V_elder' (by (with_reducible repeat (first | apply Va_ | apply Vn_ | apply Vd_)); exact HO592.out) (Kd.S_base ho0) hb)
          have n1_ := Am_ (Kd.V_elder' (by (with_reducible repeat (first | apply Va_ | apply Vn_ | apply Vd_)); exact HO599.out) (Kd.S_base ho0) hb)
          have n2_ := Am_ (Kd.V_elder' (by (with_reducible repeat (first | apply Va_ | apply Vn_ | apply Vd_)); exact HO606.out) (Kd.S_base ho0) hb)
          have n3_ := Am_ (Kd.S_elder' (by (with_reducible repeat (first | apply Kd.S_alloc | apply Kd.S_drewN | apply Kd.S_drew)); exact HO613.out) (Kd.S_base ho0) hb)
          have n4_ := Am_ (Kd.S_lower (Kd.S_new' ho0 (Kd.S_lt (by (with_reducible repeat (first | apply Kd.S_alloc | apply Kd.S_drewN | apply Kd.S_drew)); exact HO613.out))) (Bz_ (by repeat (first | (with_reducible first | exact HB.out | apply Pa_ | apply Pn_ | apply Pd_ | refine Bs_ ?_ GE580.out | refine Bs_ ?_ GE596.out | refine Bs_ ?_ GE603.out | refine Bs_ ?_ GE610.out) | exact HB.out))))
          have n5_ := Am_ (Bb_ (g := gb580) (o := .cells #[.slice A0_0 l0_0.length c0_0, .int .i64 a0_1, .int .i64 a0_2] 24 (0, 0)) (by (with_reducible repeat (first | refine Bn_ ?_ _ | refine Bd_ ?_ | refine Ba_ ?_ _)); exact BK580.out) hb)
          have n6_ := Am_ (Bb_ (g := gb596) (o := .cells #[.slice Ao53 t590.length co53, .int .i64 t593, .int .i64 t594] 24 (0, 0)) (by (with_reducible repeat (first | refine Bn_ ?_ _ | refine Bd_ ?_ | refine Ba_ ?_ _)); exact BK596.out) hb)
          have n7_ := Am_ (Bb_ (g := gb603) (o := .cells #[.slice Ao60 t597.length co60, .int .i64 t600, .int .i64 t601] 24 (0, 0)) (by (with_reducible repeat (first | refine Bn_ ?_ _ | refine Bd_ ?_ | refine Ba_ ?_ _)); exact BK603.out) hb)
          have n8_ := Am_ (Bb_ (g := gb610) (o := .cells #[.slice Ao68 t604.length co68, .int .i64 t607, .int .i64 t608] 24 (0, 0)) (by (with_reducible repeat (first | refine Bn_ ?_ _ | refine Bd_ ?_ | refine Ba_ ?_ _)); exact BK610.out) hb)
          have n9_ := Am_ (Be_ (by repeat (first | (with_reducible first | exact HB.out | apply Pa_ | apply Pn_ | apply Pd_ | refine Bs_ ?_ GE580.out | refine Bs_ ?_ GE596.out | refine Bs_ ?_ GE603.out | refine Bs_ ?_ GE610.out) | exact HB.out)) hb)
          clear HO592
          clear HO599
          clear HO606
          clear HO613
          clear BK580
          clear BK596
          clear BK603
          clear BK610
          clear HB
          have HO592 := n0_
          have HO599 := n1_
          have HO606 := n2_
          have HO613 := n3_
          have HO618 := n4_
          have BK580 := n5_
          have BK596 := n6_
          have BK603 := n7_
          have BK610 := n8_
          have HB := n9_
          clear n0_ n1_ n2_ n3_ n4_ n5_ n6_ n7_ n8_ n9_
          (try clear hb)
          (try clear hb2)
          (try clear hk)
          (try clear hi)
          (try clear ho0)
          obtain ⟨Ao77, co77, eo77⟩ := Kd.S_slice HO613.out
          (first | subst eo77 | (injection eo77 with f1_ f2_ f3_; have f4_ := f1_.symm; have f5_ := f3_.symm; clear f1_ f2_ f3_; subst f4_; subst f5_))
          obtain ⟨Ao78, co78, eo78⟩ := Kd.S_slice HO618.out
          (first | subst eo78 | (injection eo78 with f1_ f2_ f3_; have f4_ := f1_.symm; have f5_ := f3_.symm; clear f1_ f2_ f3_; subst f4_; subst f5_))
          refine hK.out _ _ ⟨(Bc_ BK596.out 0).trans rfl, (Bc_ BK596.out 1).trans rfl, (Bc_ BK596.out 2).trans rfl, (Bc_ BK610.out 0).trans rfl, (Bc_ BK610.out 1).trans rfl, (Bc_ BK610.out 2).trans rfl⟩ (fun hHeld => ?_)
          clear hK K
          refine norm_ (a' := ?_) ?_ ?_
          rotate_left
          ·show Act.put _ (some 133) _ = _
           simp only [Act.put, La_, Lb_, Lc_, i64_w, i32_w]
           rfl
          refine one_ (i := 7) (N := some 134) #[t_,t_,t_,t_,t_,t_,t_,t_,f_,f_] rfl rfl (one_of HT_.out (by kernel_rfl)) (by decide) (fun K hK => ?_)
          refine goes_ Try.func20 (by kernel_rfl) rfl #[.agg #[.slice Ao77 t611.length co77, .int .i64 t614, .int .i64 t615], .agg #[.slice Ao78 t616.length co78, .int .i64 t619, .int .i64 t620]] (by rfl) rfl rfl (by (try simp only [List.map_toArray, List.map_cons, List.map_nil]); first | done | rfl | (simp only [List.length_drop, List.length_take]; rfl)) ?_
          with_reducible refine (flagstoneref06_Same.calls kj29 _ _ t611 t614 t615 _ _ t616 t619 t620 t621 _ ?side1 ?side2 ?side3 ?side4 A49.out).mono ?_
          (case side1 => repeat (first | exact (Kd.S_reads' HO613.out).2.2 | (with_reducible refine Kd.C_alloc ?_ _) | (with_reducible refine Kd.C_drewN ?_ _) | (with_reducible refine Kd.C_drew ?_)))
          (case side2 => exact (Kd.S_reads' HO613.out).2.1)
          (case side3 => repeat (first | exact (Kd.S_reads' HO618.out).2.2 | (with_reducible refine Kd.C_alloc ?_ _) | (with_reducible refine Kd.C_drewN ?_ _) | (with_reducible refine Kd.C_drew ?_)))
          (case side4 => exact (Kd.S_reads' HO618.out).2.1)
          rintro e w79 ⟨rfl, hb⟩
          refine ⟨_, rfl, ?_⟩
          have n0_ := Am_ (Vb_ (by (with_reducible repeat (first | apply Va_ | apply Vn_ | apply Vd_)); exact HO592.out) hb)
          have n1_ := Am_ (Vb_ (by (with_reducible repeat (first | apply Va_ | apply Vn_ | apply Vd_)); exact HO599.out) hb)
          have n2_ := Am_ (Vb_ (by (with_reducible repeat (first | apply Va_ | apply Vn_ | apply Vd_)); exact HO606.out) hb)
          have n3_ := Am_ (Kd.S_below (by (with_reducible repeat (first | apply Kd.S_alloc | apply Kd.S_drewN | apply Kd.S_drew)); exact HO613.out) hb)
          have n4_ := Am_ (Kd.S_below (by (with_reducible repeat (first | apply Kd.S_alloc | apply Kd.S_drewN | apply Kd.S_drew)); exact HO618.out) hb)
          have n5_ := Am_ (Bb_ (g := gb580) (o := .cells #[.slice A0_0 l0_0.length c0_0, .int .i64 a0_1, .int .i64 a0_2] 24 (0, 0)) (by (with_reducible repeat (first | refine Bn_ ?_ _ | refine Bd_ ?_ | refine Ba_ ?_ _)); exact BK580.out) hb)
          have n6_ := Am_ (Bb_ (g := gb596) (o := .cells #[.slice Ao53 t590.length co53, .int .i64 t593, .int .i64 t594] 24 (0, 0)) (by (with_reducible repeat (first | refine Bn_ ?_ _ | refine Bd_ ?_ | refine Ba_ ?_ _)); exact BK596.out) hb)
          have n7_ := Am_ (Bb_ (g := gb603) (o := .cells #[.slice Ao60 t597.length co60, .int .i64 t600, .int .i64 t601] 24 (0, 0)) (by (with_reducible repeat (first | refine Bn_ ?_ _ | refine Bd_ ?_ | refine Ba_ ?_ _)); exact BK603.out) hb)
          have n8_ := Am_ (Bb_ (g := gb610) (o := .cells #[.slice Ao68 t604.length co68, .int .i64 t607, .int .i64 t608] 24 (0, 0)) (by (with_reducible repeat (first | refine Bn_ ?_ _ | refine Bd_ ?_ | refine Ba_ ?_ _)); exact BK610.out) hb)
          have n9_ := Am_ (Be_ (by repeat (first | (with_reducible first | exact HB.out | apply Pa_ | apply Pn_ | apply Pd_ | refine Bs_ ?_ GE580.out | refine Bs_ ?_ GE596.out | refine Bs_ ?_ GE603.out | refine Bs_ ?_ GE610.out) | exact HB.out)) hb)
          clear HO592
          clear HO599
          clear HO606
          clear HO613
          clear HO618
          clear BK580
          clear BK596
          clear BK603
          clear BK610
          clear HB
          have HO592 := n0_
          have HO599 := n1_
          have HO606 := n2_
          have HO613 := n3_
          have HO618 := n4_
          have BK580 := n5_
          have BK596 := n6_
          have BK603 := n7_
          have BK610 := n8_
          have HB := n9_
          clear n0_ n1_ n2_ n3_ n4_ n5_ n6_ n7_ n8_ n9_
          (try clear hb)
          (try clear hb2)
          (try clear hk)
          (try clear hi)
          refine hK.out _ _ ⟨(Bc_ BK596.out 0).trans rfl, (Bc_ BK596.out 1).trans rfl, (Bc_ BK596.out 2).trans rfl, (Bc_ BK610.out 0).trans rfl, (Bc_ BK610.out 1).trans rfl, (Bc_ BK610.out 2).trans rfl⟩ (fun hHeld => ?_)
          clear hK K
          refine norm_ (a' := ?_) ?_ ?_
          rotate_left
          ·show Act.put _ (some 134) _ = _
           simp only [Act.put, La_, Lb_, Lc_, i64_w, i32_w]
           rfl
          refine pure_ (i := 8) (N := some 135) (v := ?_) (a' := ?_) #[t_,t_,t_,t_,t_,t_,t_,t_,t_,f_] rfl rfl (any_of HT_.out (by kernel_rfl)) (fun _ _ _ h => h) (Or.inl ⟨by rfl, ?_⟩) ?_ ?_
          rotate_left
          ·intro w'
           go_simp
           with_reducible rfl
          rotate_left
          ·simp only [Act.put, La_, Lb_, Lc_, i64_w, i32_w]
           rfl
          refine pure_ (i := 9) (N := some 14) (v := ?_) (a' := ?_) #[t_,t_,t_,t_,t_,t_,t_,t_,t_,t_] rfl rfl (any_of HT_.out (by kernel_rfl)) (fun _ _ _ h => h) (Or.inl ⟨by rfl, ?_⟩) ?_ ?_
          rotate_left
          ·intro w'
           go_simp
           with_reducible rfl
          rotate_left
          ·simp only [Act.put, La_, Lb_, Lc_, i64_w, i32_w]
           rfl
          refine done_ (done_of HT_.out (by kernel_rfl)) ?_
          try go_wp2
          go_ret
          exact ⟨by first | rfl | (simp [errW_none, errW_some] <;> rfl) | (simp [*, errW_none, errW_some] <;> rfl), by repeat (first | (with_reducible first | exact HB.out | apply Pa_ | apply Pn_ | apply Pd_ | refine Bs_ ?_ GE580.out | refine Bs_ ?_ GE596.out | refine Bs_ ?_ GE603.out | refine Bs_ ?_ GE610.out) | exact HB.out)⟩
         ·rw [if_neg c46] at H
          have c46b0 : (t609 == 0) = false := beq_eq_false_iff_ne.mpr c46
          have c46b1 : (t609 != 0) = true := bne_iff_ne.mpr c46
          exact absurd H (by simp)
        ·rw [if_neg c45] at H
         have c45b0 : (t595 == 0) = false := beq_eq_false_iff_ne.mpr c45
         have c45b1 : (t595 != 0) = true := bne_iff_ne.mpr c45
         obtain rfl := Option.some.inj H
         have hcz80_0 : wc.cell? ⟨gb580, 0, none⟩ = some (.slice A0_0 l0_0.length c0_0) := (Bc_ BK580.out 0).trans rfl
         have hcz80_1 : wc.cell? ⟨gb580, 1, none⟩ = some (.int .i64 a0_1) := (Bc_ BK580.out 1).trans rfl
         have hcz80_2 : wc.cell? ⟨gb580, 2, none⟩ = some (.int .i64 a0_2) := (Bc_ BK580.out 2).trans rfl
         have hfz80_0 := Bf_ BK580.out 0
         have hfz80_1 := Bf_ BK580.out 1
         have hfz80_2 := Bf_ BK580.out 2
         go_wp2_with (first | ((with_reducible refine gate_callee (f := 16) rfl ?_); refine goesL_ (some 103) rfl rfl Try.func16 (by kernel_rfl) rfl #[.agg #[.slice A0_0 l0_0.length c0_0, .int .i64 a0_1, .int .i64 a0_2], .int .i64 a1, .int .i64 (wrap64 (a2)), .string (a5 ++ a6)] rfl (by (try simp only [List.map_toArray, List.map_cons, List.map_nil]); first | done | rfl | (simp only [List.length_drop, List.length_take]; rfl)) ?_; (with_reducible refine (content_Write.calls (fun k_ => k_ < w.heap.size) _ _ l0_0 a0_1 a0_2 a1 (wrap64 (a2)) (a5 ++ a6) t590 t593 t594 t595 _ ?side1 A42.out).mono ?_); (case side1 => exact Kd.V_mk HC0_0.out (Kd.F_below (Kd.C_F k59_heap HR0_0.out) (by repeat (first | (with_reducible first | exact HB.out | apply Pa_ | apply Pn_ | apply Pd_ | refine Bs_ ?_ GE580.out) | exact HB.out)))); rintro e w81 ⟨v591, rfl, ho0, hb⟩; refine ⟨_, rfl, ?_⟩; have n0_ := Am_ (Vl_ (Vm_ (ok' := fun k_ => k_ ≠ gb580) ho0 (fun k_ hk_ => Or.elim hk_ (fun hs_ => fun e_ => Nat.not_le.2 hs_ (by rw [e_]; exact GW580.out)) (fun hn_ => (Kd.freshB (g := gb580) (o := .cells #[.slice A0_0 l0_0.length c0_0, .int .i64 a0_1, .int .i64 a0_2] 24 (0, 0)) (by (with_reducible repeat (first | refine Bn_ ?_ _ | refine Bd_ ?_ | refine Ba_ ?_ _)); exact BK580.out) k_ hn_)))) (Bz_ (by repeat (first | (with_reducible first | exact HB.out | apply Pa_ | apply Pn_ | apply Pd_ | refine Bs_ ?_ GE580.out) | exact HB.out)))); have n1_ := Am_ (Bb_ (g := gb580) (o := .cells #[.slice A0_0 l0_0.length c0_0, .int .i64 a0_1, .int .i64 a0_2] 24 (0, 0)) (by (with_reducible repeat (first | refine Bn_ ?_ _ | refine Bd_ ?_ | refine Ba_ ?_ _)); exact BK580.out) hb); have n2_ := Am_ (Be_ (by repeat (first | (with_reducible first | exact HB.out | apply Pa_ | apply Pn_ | apply Pd_ | refine Bs_ ?_ GE580.out) | exact HB.out)) hb); clear BK580; clear HB; have HO592 := n0_; have BK580 := n1_; have HB := n2_; clear n0_ n1_ n2_; (try clear hb); (try clear hb2); (try clear hk); (try clear hi); (try clear ho0)) | ((with_reducible refine gate_dst (N := 22) rfl ?_); (try (refine gate_guard (by rfl) ?_; dsimp only)); refine box_event ?hg (N := 22) ?hd (cs := #[.slice none 0 0, .int .i64 0, .int .i64 0]) (t := 24) ?hr ?_; (case hd => rfl); (case hg => rfl); (case hr => first | (go_simp; done) | (go_simp; rfl)); intro gb596 hg w82 hbox hb; have n0_ := Am_ (Vb_ (Ke_ (by (with_reducible repeat (first | apply Va_ | apply Vn_ | apply Vd_)); exact HO592.out) gb596 (Nat.le_of_eq hg.symm)) hb); have n1_ := Am_ (Bb_ (g := gb580) (o := .cells #[.slice A0_0 l0_0.length c0_0, .int .i64 a0_1, .int .i64 a0_2] 24 (0, 0)) (by (with_reducible repeat (first | refine Bn_ ?_ _ | refine Bd_ ?_ | refine Ba_ ?_ _)); exact BK580.out) hb); have n2_ := Am_ (Be_ (by repeat (first | (with_reducible first | exact HB.out | apply Pa_ | apply Pn_ | apply Pd_ | refine Bs_ ?_ GE580.out) | exact HB.out)) hb); have n3_ := Am_ (hbox); have n4_ := Am_ ((by rw [hg]; exact (Bz_ (by repeat (first | (with_reducible first | exact HB.out | apply Pa_ | apply Pn_ | apply Pd_ | refine Bs_ ?_ GE580.out) | exact HB.out))) : w.heap.size ≤ gb596)); have n5_ := Am_ ((by rw [hg]; exact (Bz_ (by repeat (first | (with_reducible first | exact HB.out | apply Pa_ | apply Pn_ | apply Pd_ | refine Bs_ ?_ GE580.out) | exact HB.out))) : w.heap.size ≤ gb596)); have n6_ := Am_ ((by rw [hg]; exact Nat.ne_of_lt (blk_lt (g := gb580) (o := .cells #[.slice A0_0 l0_0.length c0_0, .int .i64 a0_1, .int .i64 a0_2] 24 (0, 0)) (by (with_reducible repeat (first | refine Bn_ ?_ _ | refine Bd_ ?_ | refine Ba_ ?_ _)); exact BK580.out)) : gb580 ≠ gb596)); have n7_ := Am_ ((by rw [hg]; exact Nat.ne_of_gt (blk_lt (g := gb580) (o := .cells #[.slice A0_0 l0_0.length c0_0, .int .i64 a0_1, .int .i64 a0_2] 24 (0, 0)) (by (with_reducible repeat (first | refine Bn_ ?_ _ | refine Bd_ ?_ | refine Ba_ ?_ _)); exact BK580.out)) : gb596 ≠ gb580)); clear HO592; clear BK580; clear HB; have HO592 := n0_; have BK580 := n1_; have HB := n2_; have BK596 := n3_; have GW596 := n4_; have GE596 := n5_; have NB580_596 := n6_; have NB596_580 := n7_; clear n0_ n1_ n2_ n3_ n4_ n5_ n6_ n7_; clear hb hbox hg; obtain ⟨Ao83, co83, eo83⟩ := Vx_ HO592.out; subst eo83; have hnb84 := NB596_580.out; have hnc84 := NB580_596.out; have hcz85_0 : w82.cell? ⟨gb596, 0, none⟩ = some (.slice none 0 0) := (Bc_ BK596.out 0).trans rfl; have hcz85_1 : w82.cell? ⟨gb596, 1, none⟩ = some (.int .i64 0) := (Bc_ BK596.out 1).trans rfl; have hcz85_2 : w82.cell? ⟨gb596, 2, none⟩ = some (.int .i64 0) := (Bc_ BK596.out 2).trans rfl; have hfz85_0 := Bf_ BK596.out 0; have hfz85_1 := Bf_ BK596.out 1; have hfz85_2 := Bf_ BK596.out 2) | ((with_reducible refine gate_store (t := 24) (p := 22) rfl ?_); refine store_event (t := 24) (p := 22) (v := ?vo_w86) (w1 := (((w82.setCell ⟨gb596, 0, none⟩ (.slice Ao83 t590.length co83)).setCell ⟨gb596, 1, none⟩ (.int .i64 t593)).setCell ⟨gb596, 2, none⟩ (.int .i64 t594))) ?hg ?ho ?hn ?hr ?_; (case ho => rfl); (case hg => rfl); (case hn => rfl); (case hr => first | (go_simp; done) | (go_simp; rfl)); intro w86 hw; have n0_ : Aside0 (Kd.V k59 59 w86 w.heap.size (fun k_ => k_ ≠ gb580 ∧ k_ ≠ gb596) (.slice Ao83 t590.length co83) t590) := ⟨(by rw [hw]; exact (by (with_reducible repeat (first | apply Va_ | apply Vn_ | apply Vd_)); exact Vm_ (Vf_ (p := ⟨gb596, 2, none⟩) (Vf_ (p := ⟨gb596, 1, none⟩) (Vf_ (p := ⟨gb596, 0, none⟩) (Vm_ HO592.out (fun k_ hk => (⟨hk, hk.2⟩ : _ ∧ k_ ≠ gb596))) (fun _ hk => hk.2) (.slice Ao83 t590.length co83)) (fun _ hk => hk.2) (.int .i64 t593)) (fun _ hk => hk.2) (.int .i64 t594)) (fun _ hk => ⟨hk.1.1, hk.1.2⟩)))⟩; have n1_ : Aside0 (w86.heap[gb580]? = some (.cells #[.slice A0_0 l0_0.length c0_0, .int .i64 a0_1, .int .i64 a0_2] 24 (0, 0))) := ⟨(by rw [hw]; exact (by (with_reducible repeat (first | refine Bn_ ?_ _ | refine Bd_ ?_ | refine Ba_ ?_ _)); refine blk_far ?_ NB580_596.out _; (with_reducible repeat (first | refine Bn_ ?_ _ | refine Bd_ ?_ | refine Ba_ ?_ _)); refine blk_far ?_ NB580_596.out _; (with_reducible repeat (first | refine Bn_ ?_ _ | refine Bd_ ?_ | refine Ba_ ?_ _)); refine blk_far ?_ NB580_596.out _; (with_reducible repeat (first | refine Bn_ ?_ _ | refine Bd_ ?_ | refine Ba_ ?_ _)); exact BK580.out))⟩; have n2_ : Aside0 (w86.heap[gb596]? = some (.cells #[.slice Ao83 t590.length co83, .int .i64 t593, .int .i64 t594] 24 (0, 0))) := ⟨(by rw [hw]; exact (by (with_reducible repeat (first | refine Bn_ ?_ _ | refine Bd_ ?_ | refine Ba_ ?_ _)); refine Bp_ (cs := #[.slice Ao83 t590.length co83, .int .i64 t593, .int .i64 0]) ?_ 2 _ rfl; (with_reducible repeat (first | refine Bn_ ?_ _ | refine Bd_ ?_ | refine Ba_ ?_ _)); refine Bp_ (cs := #[.slice Ao83 t590.length co83, .int .i64 0, .int .i64 0]) ?_ 1 _ rfl; (with_reducible repeat (first | refine Bn_ ?_ _ | refine Bd_ ?_ | refine Ba_ ?_ _)); refine Bp_ (cs := #[.slice none 0 0, .int .i64 0, .int .i64 0]) ?_ 0 _ rfl; (with_reducible repeat (first | refine Bn_ ?_ _ | refine Bd_ ?_ | refine Ba_ ?_ _)); exact BK596.out))⟩; have n3_ : Aside0 (Below w.heap.size w w86) := ⟨(by rw [hw]; exact (by repeat (first | (with_reducible first | exact HB.out | apply Pa_ | apply Pn_ | apply Pd_ | refine Bs_ ?_ GE580.out | refine Bs_ ?_ GE596.out) | exact HB.out)))⟩; clear hw; clear HO592; clear BK580; clear BK596; clear HB; have HO592 := n0_; have BK580 := n1_; have BK596 := n2_; have HB := n3_; clear n0_ n1_ n2_ n3_; have hcz87_0 : w86.cell? ⟨gb580, 0, none⟩ = some (.slice A0_0 l0_0.length c0_0) := (Bc_ BK580.out 0).trans rfl; have hcz87_1 : w86.cell? ⟨gb580, 1, none⟩ = some (.int .i64 a0_1) := (Bc_ BK580.out 1).trans rfl; have hcz87_2 : w86.cell? ⟨gb580, 2, none⟩ = some (.int .i64 a0_2) := (Bc_ BK580.out 2).trans rfl; have hfz87_0 := Bf_ BK580.out 0; have hfz87_1 := Bf_ BK580.out 1; have hfz87_2 := Bf_ BK580.out 2) | ((with_reducible refine gate_callee (f := 16) rfl ?_); refine goesL_ (some 111) rfl rfl Try.func16 (by kernel_rfl) rfl #[.agg #[.slice A0_0 l0_0.length c0_0, .int .i64 a0_1, .int .i64 a0_2], .int .i64 a1, .int .i64 (wrap64 (a2)), .string a5] rfl (by (try simp only [List.map_toArray, List.map_cons, List.map_nil]); first | done | rfl | (simp only [List.length_drop, List.length_take]; rfl)) ?_; (with_reducible refine (content_Write.calls (fun k_ => k_ < w.heap.size) _ _ l0_0 a0_1 a0_2 a1 (wrap64 (a2)) a5 t597 t600 t601 t602 _ ?side1 A43.out).mono ?_); (case side1 => exact Kd.V_mk HC0_0.out (Kd.F_below (Kd.C_F k59_heap HR0_0.out) (by repeat (first | (with_reducible first | exact HB.out | apply Pa_ | apply Pn_ | apply Pd_ | refine Bs_ ?_ GE580.out | refine Bs_ ?_ GE596.out) | exact HB.out)))); rintro e w88 ⟨v598, rfl, ho0, hb⟩; refine ⟨_, rfl, ?_⟩; have n0_ := Am_ (Vb_ (by (with_reducible repeat (first | apply Va_ | apply Vn_ | apply Vd_)); exact HO592.out) hb); have n1_ := Am_ (Vl_ (Vm_ (ok' := fun k_ => k_ ≠ gb580 ∧ k_ ≠ gb596) ho0 (fun k_ hk_ => ⟨Or.elim hk_ (fun hs_ => fun e_ => Nat.not_le.2 hs_ (by rw [e_]; exact GW580.out)) (fun hn_ => (Kd.freshB (g := gb580) (o := .cells #[.slice A0_0 l0_0.length c0_0, .int .i64 a0_1, .int .i64 a0_2] 24 (0, 0)) (by (with_reducible repeat (first | refine Bn_ ?_ _ | refine Bd_ ?_ | refine Ba_ ?_ _)); exact BK580.out) k_ hn_)), Or.elim hk_ (fun hs_ => fun e_ => Nat.not_le.2 hs_ (by rw [e_]; exact GW596.out)) (fun hn_ => (Kd.freshB (g := gb596) (o := .cells #[.slice Ao83 t590.length co83, .int .i64 t593, .int .i64 t594] 24 (0, 0)) (by (with_reducible repeat (first | refine Bn_ ?_ _ | refine Bd_ ?_ | refine Ba_ ?_ _)); exact BK596.out) k_ hn_))⟩)) (Bz_ (by repeat (first | (with_reducible first | exact HB.out | apply Pa_ | apply Pn_ | apply Pd_ | refine Bs_ ?_ GE580.out | refine Bs_ ?_ GE596.out) | exact HB.out)))); have n2_ := Am_ (Bb_ (g := gb580) (o := .cells #[.slice A0_0 l0_0.length c0_0, .int .i64 a0_1, .int .i64 a0_2] 24 (0, 0)) (by (with_reducible repeat (first | refine Bn_ ?_ _ | refine Bd_ ?_ | refine Ba_ ?_ _)); exact BK580.out) hb); have n3_ := Am_ (Bb_ (g := gb596) (o := .cells #[.slice Ao83 t590.length co83, .int .i64 t593, .int .i64 t594] 24 (0, 0)) (by (with_reducible repeat (first | refine Bn_ ?_ _ | refine Bd_ ?_ | refine Ba_ ?_ _)); exact BK596.out) hb); have n4_ := Am_ (Be_ (by repeat (first | (with_reducible first | exact HB.out | apply Pa_ | apply Pn_ | apply Pd_ | refine Bs_ ?_ GE580.out | refine Bs_ ?_ GE596.out) | exact HB.out)) hb); clear HO592; clear BK580; clear BK596; clear HB; have HO592 := n0_; have HO599 := n1_; have BK580 := n2_; have BK596 := n3_; have HB := n4_; clear n0_ n1_ n2_ n3_ n4_; (try clear hb); (try clear hb2); (try clear hk); (try clear hi); (try clear ho0)) | ((with_reducible refine gate_dst (N := 24) rfl ?_); (try (refine gate_guard (by rfl) ?_; dsimp only)); refine box_event ?hg (N := 24) ?hd (cs := #[.slice none 0 0, .int .i64 0, .int .i64 0]) (t := 24) ?hr ?_; (case hd => rfl); (case hg => rfl); (case hr => first | (go_simp; done) | (go_simp; rfl)); intro gb603 hg w89 hbox hb; have n0_ := Am_ (Vb_ (Ke_ (by (with_reducible repeat (first | apply Va_ | apply Vn_ | apply Vd_)); exact HO592.out) gb603 (Nat.le_of_eq hg.symm)) hb); have n1_ := Am_ (Vb_ (Ke_ (by (with_reducible repeat (first | apply Va_ | apply Vn_ | apply Vd_)); exact HO599.out) gb603 (Nat.le_of_eq hg.symm)) hb); have n2_ := Am_ (Bb_ (g := gb580) (o := .cells #[.slice A0_0 l0_0.length c0_0, .int .i64 a0_1, .int .i64 a0_2] 24 (0, 0)) (by (with_reducible repeat (first | refine Bn_ ?_ _ | refine Bd_ ?_ | refine Ba_ ?_ _)); exact BK580.out) hb); have n3_ := Am_ (Bb_ (g := gb596) (o := .cells #[.slice Ao83 t590.length co83, .int .i64 t593, .int .i64 t594] 24 (0, 0)) (by (with_reducible repeat (first | refine Bn_ ?_ _ | refine Bd_ ?_ | refine Ba_ ?_ _)); exact BK596.out) hb); have n4_ := Am_ (Be_ (by repeat (first | (with_reducible first | exact HB.out | apply Pa_ | apply Pn_ | apply Pd_ | refine Bs_ ?_ GE580.out | refine Bs_ ?_ GE596.out) | exact HB.out)) hb); have n5_ := Am_ (hbox); have n6_ := Am_ ((by rw [hg]; exact (Bz_ (by repeat (first | (with_reducible first | exact HB.out | apply Pa_ | apply Pn_ | apply Pd_ | refine Bs_ ?_ GE580.out | refine Bs_ ?_ GE596.out) | exact HB.out))) : w.heap.size ≤ gb603)); have n7_ := Am_ ((by rw [hg]; exact (Bz_ (by repeat (first | (with_reducible first | exact HB.out | apply Pa_ | apply Pn_ | apply Pd_ | refine Bs_ ?_ GE580.out | refine Bs_ ?_ GE596.out) | exact HB.out))) : w.heap.size ≤ gb603)); have n8_ := Am_ ((by rw [hg]; exact Nat.ne_of_lt (blk_lt (g := gb580) (o := .cells #[.slice A0_0 l0_0.length c0_0, .int .i64 a0_1, .int .i64 a0_2] 24 (0, 0)) (by (with_reducible repeat (first | refine Bn_ ?_ _ | refine Bd_ ?_ | refine Ba_ ?_ _)); exact BK580.out)) : gb580 ≠ gb603)); have n9_ := Am_ ((by rw [hg]; exact Nat.ne_of_gt (blk_lt (g := gb580) (o := .cells #[.slice A0_0 l0_0.length c0_0, .int .i64 a0_1, .int .i64 a0_2] 24 (0, 0)) (by (with_reducible repeat (first | refine Bn_ ?_ _ | refine Bd_ ?_ | refine Ba_ ?_ _)); exact BK580.out)) : gb603 ≠ gb580)); have n10_ := Am_ ((by rw [hg]; exact Nat.ne_of_lt (blk_lt (g := gb596) (o := .cells #[.slice Ao83 t590.length co83, .int .i64 t593, .int .i64 t594] 24 (0, 0)) (by (with_reducible repeat (first | refine Bn_ ?_ _ | refine Bd_ ?_ | refine Ba_ ?_ _)); exact BK596.out)) : gb596 ≠ gb603)); have n11_ := Am_ ((by rw [hg]; exact Nat.ne_of_gt (blk_lt (g := gb596) (o := .cells #[.slice Ao83 t590.length co83, .int .i64 t593, .int .i64 t594] 24 (0, 0)) (by (with_reducible repeat (first | refine Bn_ ?_ _ | refine Bd_ ?_ | refine Ba_ ?_ _)); exact BK596.out)) : gb603 ≠ gb596)); clear HO592; clear HO599; clear BK580; clear BK596; clear HB; have HO592 := n0_; have HO599 := n1_; have BK580 := n2_; have BK596 := n3_; have HB := n4_; have BK603 := n5_; have GW603 := n6_; have GE603 := n7_; have NB580_603 := n8_; have NB603_580 := n9_; have NB596_603 := n10_; have NB603_596 := n11_; clear n0_ n1_ n2_ n3_ n4_ n5_ n6_ n7_ n8_ n9_ n10_ n11_; clear hb hbox hg; obtain ⟨Ao90, co90, eo90⟩ := Vx_ HO599.out; subst eo90; have hnb91 := NB603_580.out; have hnc91 := NB580_603.out; have hnb92 := NB603_596.out; have hnc92 := NB596_603.out; have hcz93_0 : w89.cell? ⟨gb603, 0, none⟩ = some (.slice none 0 0) := (Bc_ BK603.out 0).trans rfl; have hcz93_1 : w89.cell? ⟨gb603, 1, none⟩ = some (.int .i64 0) := (Bc_ BK603.out 1).trans rfl; have hcz93_2 : w89.cell? ⟨gb603, 2, none⟩ = some (.int .i64 0) := (Bc_ BK603.out 2).trans rfl; have hfz93_0 := Bf_ BK603.out 0; have hfz93_1 := Bf_ BK603.out 1; have hfz93_2 := Bf_ BK603.out 2) | ((with_reducible refine gate_store (t := 24) (p := 24) rfl ?_); refine store_event (t := 24) (p := 24) (v := ?vo_w94) (w1 := (((w89.setCell ⟨gb603, 0, none⟩ (.slice Ao90 t597.length co90)).setCell ⟨gb603, 1, none⟩ (.int .i64 t600)).setCell ⟨gb603, 2, none⟩ (.int .i64 t601))) ?hg ?ho ?hn ?hr ?_; (case ho => rfl); (case hg => rfl); (case hn => rfl); (case hr => first | (go_simp; done) | (go_simp; rfl)); intro w94 hw; have n0_ : Aside0 (Kd.V k59 59 w94 w.heap.size (fun k_ => k_ ≠ gb580 ∧ k_ ≠ gb596 ∧ k_ ≠ gb603) (.slice Ao83 t590.length co83) t590) := ⟨(by rw [hw]; exact (by (with_reducible repeat (first | apply Va_ | apply Vn_ | apply Vd_)); exact Vm_ (Vf_ (p := ⟨gb603, 2, none⟩) (Vf_ (p := ⟨gb603, 1, none⟩) (Vf_ (p := ⟨gb603, 0, none⟩) (Vm_ HO592.out (fun k_ hk => (⟨hk, hk.2⟩ : _ ∧ k_ ≠ gb603))) (fun _ hk => hk.2) (.slice Ao90 t597.length co90)) (fun _ hk => hk.2) (.int .i64 t600)) (fun _ hk => hk.2) (.int .i64 t601)) (fun _ hk => ⟨hk.1.1.1, ⟨hk.1.1.2, hk.1.2⟩⟩)))⟩; have n1_ : Aside0 (Kd.V k59 59 w94 w.heap.size (fun k_ => k_ ≠ gb580 ∧ k_ ≠ gb596 ∧ k_ ≠ gb603) (.slice Ao90 t597.length co90) t597) := ⟨(by rw [hw]; exact (by (with_reducible repeat (first | apply Va_ | apply Vn_ | apply Vd_)); exact Vm_ (Vf_ (p := ⟨gb603, 2, none⟩) (Vf_ (p := ⟨gb603, 1, none⟩) (Vf_ (p := ⟨gb603, 0, none⟩) (Vm_ HO599.out (fun k_ hk => (⟨hk, hk.2⟩ : _ ∧ k_ ≠ gb603))) (fun _ hk => hk.2) (.slice Ao90 t597.length co90)) (fun _ hk => hk.2) (.int .i64 t600)) (fun _ hk => hk.2) (.int .i64 t601)) (fun _ hk => ⟨hk.1.1.1, ⟨hk.1.1.2, hk.1.2⟩⟩)))⟩; have n2_ : Aside0 (w94.heap[gb580]? = some (.cells #[.slice A0_0 l0_0.length c0_0, .int .i64 a0_1, .int .i64 a0_2] 24 (0, 0))) := ⟨(by rw [hw]; exact (by (with_reducible repeat (first | refine Bn_ ?_ _ | refine Bd_ ?_ | refine Ba_ ?_ _)); refine blk_far ?_ NB580_603.out _; (with_reducible repeat (first | refine Bn_ ?_ _ | refine Bd_ ?_ | refine Ba_ ?_ _)); refine blk_far ?_ NB580_603.out _; (with_reducible repeat (first | refine Bn_ ?_ _ | refine Bd_ ?_ | refine Ba_ ?_ _)); refine blk_far ?_ NB580_603.out _; (with_reducible repeat (first | refine Bn_ ?_ _ | refine Bd_ ?_ | refine Ba_ ?_ _)); exact BK580.out))⟩; have n3_ : Aside0 (w94.heap[gb596]? = some (.cells #[.slice Ao83 t590.length co83, .int .i64 t593, .int .i64 t594] 24 (0, 0))) := ⟨(by rw [hw]; exact (by (with_reducible repeat (first | refine Bn_ ?_ _ | refine Bd_ ?_ | refine Ba_ ?_ _)); refine blk_far ?_ NB596_603.out _; (with_reducible repeat (first | refine Bn_ ?_ _ | refine Bd_ ?_ | refine Ba_ ?_ _)); refine blk_far ?_ NB596_603.out _; (with_reducible repeat (first | refine Bn_ ?_ _ | refine Bd_ ?_ | refine Ba_ ?_ _)); refine blk_far ?_ NB596_603.out _; (with_reducible repeat (first | refine Bn_ ?_ _ | refine Bd_ ?_ | refine Ba_ ?_ _)); exact BK596.out))⟩; have n4_ : Aside0 (w94.heap[gb603]? = some (.cells #[.slice Ao90 t597.length co90, .int .i64 t600, .int .i64 t601] 24 (0, 0))) := ⟨(by rw [hw]; exact (by (with_reducible repeat (first | refine Bn_ ?_ _ | refine Bd_ ?_ | refine Ba_ ?_ _)); refine Bp_ (cs := #[.slice Ao90 t597.length co90, .int .i64 t600, .int .i64 0]) ?_ 2 _ rfl; (with_reducible repeat (first | refine Bn_ ?_ _ | refine Bd_ ?_ | refine Ba_ ?_ _)); refine Bp_ (cs := #[.slice Ao90 t597.length co90, .int .i64 0, .int .i64 0]) ?_ 1 _ rfl; (with_reducible repeat (first | refine Bn_ ?_ _ | refine Bd_ ?_ | refine Ba_ ?_ _)); refine Bp_ (cs := #[.slice none 0 0, .int .i64 0, .int .i64 0]) ?_ 0 _ rfl; (with_reducible repeat (first | refine Bn_ ?_ _ | refine Bd_ ?_ | refine Ba_ ?_ _)); exact BK603.out))⟩; have n5_ : Aside0 (Below w.heap.size w w94) := ⟨(by rw [hw]; exact (by repeat (first | (with_reducible first | exact HB.out | apply Pa_ | apply Pn_ | apply Pd_ | refine Bs_ ?_ GE580.out | refine Bs_ ?_ GE596.out | refine Bs_ ?_ GE603.out) | exact HB.out)))⟩; clear hw; clear HO592; clear HO599; clear BK580; clear BK596; clear BK603; clear HB; have HO592 := n0_; have HO599 := n1_; have BK580 := n2_; have BK596 := n3_; have BK603 := n4_; have HB := n5_; clear n0_ n1_ n2_ n3_ n4_ n5_; have hcz95_0 : w94.cell? ⟨gb603, 0, none⟩ = some (.slice Ao90 t597.length co90) := (Bc_ BK603.out 0).trans rfl; have hcz95_1 : w94.cell? ⟨gb603, 1, none⟩ = some (.int .i64 t600) := (Bc_ BK603.out 1).trans rfl; have hcz95_2 : w94.cell? ⟨gb603, 2, none⟩ = some (.int .i64 t601) := (Bc_ BK603.out 2).trans rfl; have hfz95_0 := Bf_ BK603.out 0; have hfz95_1 := Bf_ BK603.out 1; have hfz95_2 := Bf_ BK603.out 2) | ((with_reducible refine gate_callee (f := 16) rfl ?_); refine goesL_ (some 122) rfl rfl Try.func16 (by kernel_rfl) rfl #[.agg #[.slice Ao90 t597.length co90, .int .i64 t600, .int .i64 t601], .int .i64 a1, .int .i64 (wrap64 ((wrap64 (a2)) + (a5.size : Int))), .string a6] rfl (by (try simp only [List.map_toArray, List.map_cons, List.map_nil]); first | done | rfl | (simp only [List.length_drop, List.length_take]; rfl)) ?_; (with_reducible refine (content_Write.calls (fun k_ => (k_ ≠ gb580 ∧ (k_ ≠ gb596 ∧ k_ ≠ gb603))) _ _ t597 t600 t601 a1 (wrap64 ((wrap64 (a2)) + (a5.size : Int))) a6 t604 t607 t608 t609 _ ?side1 A44.out).mono ?_); (case side1 => exact HO599.out); rintro e w96 ⟨v605, rfl, ho0, hb⟩; refine ⟨_, rfl, ?_⟩; have n0_ := Am_ (Vb_ (by (with_reducible repeat (first | apply Va_ | apply Vn_ | apply Vd_)); exact HO592.out) hb); have n1_ := Am_ (Vb_ (by (with_reducible repeat (first | apply Va_ | apply Vn_ | apply Vd_)); exact HO599.out) hb); have n2_ := Am_ (Vl_ (Vm_ (ok' := fun k_ => k_ ≠ gb580 ∧ k_ ≠ gb596 ∧ k_ ≠ gb603) ho0 (fun k_ hk_ => ⟨Or.elim hk_ (fun hs_ => hs_.1) (fun hn_ => (Kd.freshB (g := gb580) (o := .cells #[.slice A0_0 l0_0.length c0_0, .int .i64 a0_1, .int .i64 a0_2] 24 (0, 0)) (by (with_reducible repeat (first | refine Bn_ ?_ _ | refine Bd_ ?_ | refine Ba_ ?_ _)); exact BK580.out) k_ hn_)), Or.elim hk_ (fun hs_ => hs_.2.1) (fun hn_ => (Kd.freshB (g := gb596) (o := .cells #[.slice Ao83 t590.length co83, .int .i64 t593, .int .i64 t594] 24 (0, 0)) (by (with_reducible repeat (first | refine Bn_ ?_ _ | refine Bd_ ?_ | refine Ba_ ?_ _)); exact BK596.out) k_ hn_)), Or.elim hk_ (fun hs_ => hs_.2.2) (fun hn_ => (Kd.freshB (g := gb603) (o := .cells #[.slice Ao90 t597.length co90, .int .i64 t600, .int .i64 t601] 24 (0, 0)) (by (with_reducible repeat (first | refine Bn_ ?_ _ | refine Bd_ ?_ | refine Ba_ ?_ _)); exact BK603.out) k_ hn_))⟩)) (Bz_ (by repeat (first | (with_reducible first | exact HB.out | apply Pa_ | apply Pn_ | apply Pd_ | refine Bs_ ?_ GE580.out | refine Bs_ ?_ GE596.out | refine Bs_ ?_ GE603.out) | exact HB.out)))); have n3_ := Am_ (Bb_ (g := gb580) (o := .cells #[.slice A0_0 l0_0.length c0_0, .int .i64 a0_1, .int .i64 a0_2] 24 (0, 0)) (by (with_reducible repeat (first | refine Bn_ ?_ _ | refine Bd_ ?_ | refine Ba_ ?_ _)); exact BK580.out) hb); have n4_ := Am_ (Bb_ (g := gb596) (o := .cells #[.slice Ao83 t590.length co83, .int .i64 t593, .int .i64 t594] 24 (0, 0)) (by (with_reducible repeat (first | refine Bn_ ?_ _ | refine Bd_ ?_ | refine Ba_ ?_ _)); exact BK596.out) hb); have n5_ := Am_ (Bb_ (g := gb603) (o := .cells #[.slice Ao90 t597.length co90, .int .i64 t600, .int .i64 t601] 24 (0, 0)) (by (with_reducible repeat (first | refine Bn_ ?_ _ | refine Bd_ ?_ | refine Ba_ ?_ _)); exact BK603.out) hb); have n6_ := Am_ (Be_ (by repeat (first | (with_reducible first | exact HB.out | apply Pa_ | apply Pn_ | apply Pd_ | refine Bs_ ?_ GE580.out | refine Bs_ ?_ GE596.out | refine Bs_ ?_ GE603.out) | exact HB.out)) hb); clear HO592; clear HO599; clear BK580; clear BK596; clear BK603; clear HB; have HO592 := n0_; have HO599 := n1_; have HO606 := n2_; have BK580 := n3_; have BK596 := n4_; have BK603 := n5_; have HB := n6_; clear n0_ n1_ n2_ n3_ n4_ n5_ n6_; (try clear hb); (try clear hb2); (try clear hk); (try clear hi); (try clear ho0)) | ((with_reducible refine gate_dst (N := 26) rfl ?_); (try (refine gate_guard (by rfl) ?_; dsimp only)); refine box_event ?hg (N := 26) ?hd (cs := #[.slice none 0 0, .int .i64 0, .int .i64 0]) (t := 24) ?hr ?_; (case hd => rfl); (case hg => rfl); (case hr => first | (go_simp; done) | (go_simp; rfl)); intro gb610 hg w97 hbox hb; have n0_ := Am_ (Vb_ (Ke_ (by (with_reducible repeat (first | apply Va_ | apply Vn_ | apply Vd_)); exact HO592.out) gb610 (Nat.le_of_eq hg.symm)) hb); have n1_ := Am_ (Vb_ (Ke_ (by (with_reducible repeat (first | apply Va_ | apply Vn_ | apply Vd_)); exact HO599.out) gb610 (Nat.le_of_eq hg.symm)) hb); have n2_ := Am_ (Vb_ (Ke_ (by (with_reducible repeat (first | apply Va_ | apply Vn_ | apply Vd_)); exact HO606.out) gb610 (Nat.le_of_eq hg.symm)) hb); have n3_ := Am_ (Bb_ (g := gb580) (o := .cells #[.slice A0_0 l0_0.length c0_0, .int .i64 a0_1, .int .i64 a0_2] 24 (0, 0)) (by (with_reducible repeat (first | refine Bn_ ?_ _ | refine Bd_ ?_ | refine Ba_ ?_ _)); exact BK580.out) hb); have n4_ := Am_ (Bb_ (g := gb596) (o := .cells #[.slice Ao83 t590.length co83, .int .i64 t593, .int .i64 t594] 24 (0, 0)) (by (with_reducible repeat (first | refine Bn_ ?_ _ | refine Bd_ ?_ | refine Ba_ ?_ _)); exact BK596.out) hb); have n5_ := Am_ (Bb_ (g := gb603) (o := .cells #[.slice Ao90 t597.length co90, .int .i64 t600, .int .i64 t601] 24 (0, 0)) (by (with_reducible repeat (first | refine Bn_ ?_ _ | refine Bd_ ?_ | refine Ba_ ?_ _)); exact BK603.out) hb); have n6_ := Am_ (Be_ (by repeat (first | (with_reducible first | exact HB.out | apply Pa_ | apply Pn_ | apply Pd_ | refine Bs_ ?_ GE580.out | refine Bs_ ?_ GE596.out | refine Bs_ ?_ GE603.out) | exact HB.out)) hb); have n7_ := Am_ (hbox); have n8_ := Am_ ((by rw [hg]; exact (Bz_ (by repeat (first | (with_reducible first | exact HB.out | apply Pa_ | apply Pn_ | apply Pd_ | refine Bs_ ?_ GE580.out | refine Bs_ ?_ GE596.out | refine Bs_ ?_ GE603.out) | exact HB.out))) : w.heap.size ≤ gb610)); have n9_ := Am_ ((by rw [hg]; exact (Bz_ (by repeat (first | (with_reducible first | exact HB.out | apply Pa_ | apply Pn_ | apply Pd_ | refine Bs_ ?_ GE580.out | refine Bs_ ?_ GE596.out | refine Bs_ ?_ GE603.out) | exact HB.out))) : w.heap.size ≤ gb610)); have n10_ := Am_ ((by rw [hg]; exact Nat.ne_of_lt (blk_lt (g := gb580) (o := .cells #[.slice A0_0 l0_0.length c0_0, .int .i64 a0_1, .int .i64 a0_2] 24 (0, 0)) (by (with_reducible repeat (first | refine Bn_ ?_ _ | refine Bd_ ?_ | refine Ba_ ?_ _)); exact BK580.out)) : gb580 ≠ gb610)); have n11_ := Am_ ((by rw [hg]; exact Nat.ne_of_gt (blk_lt (g := gb580) (o := .cells #[.slice A0_0 l0_0.length c0_0, .int .i64 a0_1, .int .i64 a0_2] 24 (0, 0)) (by (with_reducible repeat (first | refine Bn_ ?_ _ | refine Bd_ ?_ | refine Ba_ ?_ _)); exact BK580.out)) : gb610 ≠ gb580)); have n12_ := Am_ ((by rw [hg]; exact Nat.ne_of_lt (blk_lt (g := gb596) (o := .cells #[.slice Ao83 t590.length co83, .int .i64 t593, .int .i64 t594] 24 (0, 0)) (by (with_reducible repeat (first | refine Bn_ ?_ _ | refine Bd_ ?_ | refine Ba_ ?_ _)); exact BK596.out)) : gb596 ≠ gb610)); have n13_ := Am_ ((by rw [hg]; exact Nat.ne_of_gt (blk_lt (g := gb596) (o := .cells #[.slice Ao83 t590.length co83, .int .i64 t593, .int .i64 t594] 24 (0, 0)) (by (with_reducible repeat (first | refine Bn_ ?_ _ | refine Bd_ ?_ | refine Ba_ ?_ _)); exact BK596.out)) : gb610 ≠ gb596)); have n14_ := Am_ ((by rw [hg]; exact Nat.ne_of_lt (blk_lt (g := gb603) (o := .cells #[.slice Ao90 t597.length co90, .int .i64 t600, .int .i64 t601] 24 (0, 0)) (by (with_reducible repeat (first | refine Bn_ ?_ _ | refine Bd_ ?_ | refine Ba_ ?_ _)); exact BK603.out)) : gb603 ≠ gb610)); have n15_ := Am_ ((by rw [hg]; exact Nat.ne_of_gt (blk_lt (g := gb603) (o := .cells #[.slice Ao90 t597.length co90, .int .i64 t600, .int .i64 t601] 24 (0, 0)) (by (with_reducible repeat (first | refine Bn_ ?_ _ | refine Bd_ ?_ | refine Ba_ ?_ _)); exact BK603.out)) : gb610 ≠ gb603)); clear HO592; clear HO599; clear HO606; clear BK580; clear BK596; clear BK603; clear HB; have HO592 := n0_; have HO599 := n1_; have HO606 := n2_; have BK580 := n3_; have BK596 := n4_; have BK603 := n5_; have HB := n6_; have BK610 := n7_; have GW610 := n8_; have GE610 := n9_; have NB580_610 := n10_; have NB610_580 := n11_; have NB596_610 := n12_; have NB610_596 := n13_; have NB603_610 := n14_; have NB610_603 := n15_; clear n0_ n1_ n2_ n3_ n4_ n5_ n6_ n7_ n8_ n9_ n10_ n11_ n12_ n13_ n14_ n15_; clear hb hbox hg; obtain ⟨Ao98, co98, eo98⟩ := Vx_ HO606.out; subst eo98; have hnb99 := NB610_580.out; have hnc99 := NB580_610.out; have hnb100 := NB610_596.out; have hnc100 := NB596_610.out; have hnb101 := NB610_603.out; have hnc101 := NB603_610.out; have hcz102_0 : w97.cell? ⟨gb610, 0, none⟩ = some (.slice none 0 0) := (Bc_ BK610.out 0).trans rfl; have hcz102_1 : w97.cell? ⟨gb610, 1, none⟩ = some (.int .i64 0) := (Bc_ BK610.out 1).trans rfl; have hcz102_2 : w97.cell? ⟨gb610, 2, none⟩ = some (.int .i64 0) := (Bc_ BK610.out 2).trans rfl; have hfz102_0 := Bf_ BK610.out 0; have hfz102_1 := Bf_ BK610.out 1; have hfz102_2 := Bf_ BK610.out 2))
         go_ret
         exact ⟨by first | rfl | (simp [errW_none, errW_some] <;> rfl) | (simp [*, errW_none, errW_some] <;> rfl), by repeat (first | (with_reducible first | exact HB.out | apply Pa_ | apply Pn_ | apply Pd_ | refine Bs_ ?_ GE580.out | refine Bs_ ?_ GE596.out | refine Bs_ ?_ GE603.out | refine Bs_ ?_ GE610.out) | exact HB.out)⟩
       ·rw [if_neg c41] at H
        exact absurd H (by simp)

end Go.Proofs.Ytpeelfambaedkaa.P
