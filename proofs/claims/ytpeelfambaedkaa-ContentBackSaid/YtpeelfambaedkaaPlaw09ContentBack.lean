-- Printed by a program of this session (inject.py) over the kit's print, with functions that were proved by hand in their places.
import Derived.Test.YtpeelfambaedkaaPK
import Derived.Test.YtpeelfambaedkaaPlaw09small
import Derived.Test.YtpeelfambaedkaaPcontentRead
import Derived.Test.YtpeelfambaedkaaPcontentWrite
import Derived.Test.YtpeelfambaedkaaPlaw09shown
import Derived.Test.YtpeelfambaedkaaPlaw09its
import Derived.Test.YtpeelfambaedkaaPref06Same
namespace Go.Proofs.Ytpeelfambaedkaa.P
open Go.RowKit Go.Proofs.YtpeelfambaedkaaW.PrintWords Go.Proofs.YtpeelfambaedkaaW.PrintLast Go.Proofs.YtpeelfambaedkaaW.PrintMore
attribute [local go_sem] max2_int min2_int max_two min_two max_three min_three max_four min_four   -- for this text's walks alone
set_option linter.unusedVariables false
set_option linter.unusedSimpArgs false

/-! ### flagstonelaw09_ContentBack: function 5 -/
mutual
def flagstonelaw09_ContentBack.j0 : Nat → Int → Int → ByteArray → Int → Int → Bool → List (S59) → Int → Int → Option (Bool)
 | 0, _, _, _, _, _, _, _, _, _ => none
 | k + 1, x1, x2, x3, x4, x5, x32, x473000, x473001, x473002 => if x32 = true then ((flagstonelaw09_shown.f).bind fun t475 => (some t475)) else ((content_Write.f x473000 x473001 x473002 x1 x2 x3).bind fun bt476 => (if bt476.2.2.2 = 0 then ((content_Read.f bt476.1 bt476.2.1 bt476.2.2.1 x1 x2 (x3.size : Int)).bind fun bt494 => ((content_Read.f x473000 x473001 x473002 x1 (wrap64 (x4)) (wrap64 (x5))).bind fun bt496 => ((content_Read.f bt476.1 bt476.2.1 bt476.2.2.1 x1 (wrap64 (x4)) (wrap64 (x5))).bind fun bt498 => (if bt494.2 = 0 then (if bt494.1.toList = x3.toList then (if bt496.2 = 0 then (flagstonelaw09_ContentBack.j1 k x2 x3 x4 x5 bt496.1 bt498.1 (bt498.2 != 0)) else (flagstonelaw09_ContentBack.j1 k x2 x3 x4 x5 bt496.1 bt498.1 true)) else (flagstonelaw09_ContentBack.j1 k x2 x3 x4 x5 bt496.1 bt498.1 true)) else (flagstonelaw09_ContentBack.j1 k x2 x3 x4 x5 bt496.1 bt498.1 true))))) else ((flagstonelaw09_its.f k bt476.1 bt476.2.1 bt476.2.2.1).bind fun bt483 => ((flagstonelaw09_its.f k x473000 x473001 x473002).bind fun bt488 => ((flagstoneref06_Same.f k bt483.1 bt483.2.1 bt483.2.2 bt488.1 bt488.2.1 bt488.2.2).bind fun t493 => (some t493))))))
def flagstonelaw09_ContentBack.j1 : Nat → Int → ByteArray → Int → Int → ByteArray → ByteArray → Bool → Option (Bool)
 | 0, _, _, _, _, _, _, _ => none
 | k + 1, x2, x3, x4, x5, x17, x19, x92 => if x92 = true then (none) else (if x3.toList = ([] : List UInt8) then (if (x19.size : Int) ≥ (x17.size : Int) then (if 0 ≤ (x17.size : Int) then (if (x17.size : Int) ≤ (x19.size : Int) then (some ((x19.extract 0 ((x17.size : Int) : Int).toNat).toList == x17.toList)) else (none)) else (none)) else (none)) else (if (wrap64 ((wrap64 (x4)) + (wrap64 (x5)))) ≤ x2 then (if (x19.size : Int) ≥ (x17.size : Int) then (if 0 ≤ (x17.size : Int) then (if (x17.size : Int) ≤ (x19.size : Int) then (some ((x19.extract 0 ((x17.size : Int) : Int).toNat).toList == x17.toList)) else (none)) else (none)) else (none)) else (if (wrap64 (x4)) < (wrap64 (x2 + (x3.size : Int))) then (some true) else (some (x17.toList == x19.toList)))))
end
def flagstonelaw09_ContentBack.f (k : Nat) (l0_0 : List (S59)) (a0_1 : Int) (a0_2 : Int) (a1 : Int) (a2 : Int) (a3 : ByteArray) (a4 : Int) (a5 : Int) : Option (Bool) := (flagstonelaw09_small.f k l0_0 a0_1 a0_2).bind fun t473 => (if t473 = true then (if (a3.size : Int) > 300 then (flagstonelaw09_ContentBack.j0 k a1 a2 a3 a4 a5 true l0_0 a0_1 a0_2) else ((flagstonelaw09_shown.f).bind fun t474 => (flagstonelaw09_ContentBack.j0 k a1 a2 a3 a4 a5 (!t474) l0_0 a0_1 a0_2))) else (flagstonelaw09_ContentBack.j0 k a1 a2 a3 a4 a5 true l0_0 a0_1 a0_2))
theorem flagstonelaw09_ContentBack.mono_l : ∀ k, (∀ y0 y1 y2 y3 y4 y5 y6 y7 y8, LeO (flagstonelaw09_ContentBack.j0 k y0 y1 y2 y3 y4 y5 y6 y7 y8) (flagstonelaw09_ContentBack.j0 (k + 1) y0 y1 y2 y3 y4 y5 y6 y7 y8)) ∧ (∀ y0 y1 y2 y3 y4 y5 y6, LeO (flagstonelaw09_ContentBack.j1 k y0 y1 y2 y3 y4 y5 y6) (flagstonelaw09_ContentBack.j1 (k + 1) y0 y1 y2 y3 y4 y5 y6))
 | 0 => ⟨fun _ _ _ _ _ _ _ _ _ r h => by simp [flagstonelaw09_ContentBack.j0] at h, fun _ _ _ _ _ _ _ r h => by simp [flagstonelaw09_ContentBack.j1] at h⟩
 | k + 1 => by
  obtain ⟨ih0, ih1⟩ := flagstonelaw09_ContentBack.mono_l k
  refine ⟨?_, ?_⟩
  ·intro y0 y1 y2 y3 y4 y5 y6 y7 y8
   unfold flagstonelaw09_ContentBack.j0
   repeat' first
   | (with_reducible exact ih0 _ _ _ _ _ _ _ _ _)
   | (with_reducible exact ih1 _ _ _ _ _ _ _)
   | (with_reducible exact flagstonelaw09_its.mono _ _ _ _)
   | (with_reducible exact flagstonelaw09_small.mono _ _ _ _)
   | (with_reducible exact flagstoneref06_Same.mono _ _ _ _ _ _ _)
   | (with_reducible exact LeO.refl _)
   | (with_reducible exact LeO.none _)
   | (with_reducible refine LeO.ite ?_ ?_)
   | (with_reducible refine LeO.bind ?_ (fun _ => ?_))
   | exact ih0 _ _ _ _ _ _ _ _ _
   | exact ih1 _ _ _ _ _ _ _
   | exact flagstonelaw09_its.mono _ _ _ _
   | exact flagstonelaw09_small.mono _ _ _ _
   | exact flagstoneref06_Same.mono _ _ _ _ _ _ _
   | exact LeO.none _
   | refine LeO.ite ?_ ?_
   | refine LeO.bind ?_ (fun _ => ?_)
  ·intro y0 y1 y2 y3 y4 y5 y6
   unfold flagstonelaw09_ContentBack.j1
   repeat' first
   | (with_reducible exact ih0 _ _ _ _ _ _ _ _ _)
   | (with_reducible exact ih1 _ _ _ _ _ _ _)
   | (with_reducible exact flagstonelaw09_its.mono _ _ _ _)
   | (with_reducible exact flagstonelaw09_small.mono _ _ _ _)
   | (with_reducible exact flagstoneref06_Same.mono _ _ _ _ _ _ _)
   | (with_reducible exact LeO.refl _)
   | (with_reducible exact LeO.none _)
   | (with_reducible refine LeO.ite ?_ ?_)
   | (with_reducible refine LeO.bind ?_ (fun _ => ?_))
   | exact ih0 _ _ _ _ _ _ _ _ _
   | exact ih1 _ _ _ _ _ _ _
   | exact flagstonelaw09_its.mono _ _ _ _
   | exact flagstonelaw09_small.mono _ _ _ _
   | exact flagstoneref06_Same.mono _ _ _ _ _ _ _
   | exact LeO.none _
   | refine LeO.ite ?_ ?_
   | refine LeO.bind ?_ (fun _ => ?_)
theorem flagstonelaw09_ContentBack.mono : ∀ a0 a1 a2 a3 a4 a5 a6 a7 k, LeO (flagstonelaw09_ContentBack.f k a0 a1 a2 a3 a4 a5 a6 a7) (flagstonelaw09_ContentBack.f (k + 1) a0 a1 a2 a3 a4 a5 a6 a7) := by
 intro a0 a1 a2 a3 a4 a5 a6 a7 k
 obtain ⟨ih0, ih1⟩ := flagstonelaw09_ContentBack.mono_l k
 unfold flagstonelaw09_ContentBack.f
 repeat' first
   | (with_reducible exact ih0 _ _ _ _ _ _ _ _ _)
   | (with_reducible exact ih1 _ _ _ _ _ _ _)
   | (with_reducible exact flagstonelaw09_its.mono _ _ _ _)
   | (with_reducible exact flagstonelaw09_small.mono _ _ _ _)
   | (with_reducible exact flagstoneref06_Same.mono _ _ _ _ _ _ _)
   | (with_reducible exact LeO.refl _)
   | (with_reducible exact LeO.none _)
   | (with_reducible refine LeO.ite ?_ ?_)
   | (with_reducible refine LeO.bind ?_ (fun _ => ?_))
   | exact ih0 _ _ _ _ _ _ _ _ _
   | exact ih1 _ _ _ _ _ _ _
   | exact flagstonelaw09_its.mono _ _ _ _
   | exact flagstonelaw09_small.mono _ _ _ _
   | exact flagstoneref06_Same.mono _ _ _ _ _ _ _
   | exact LeO.none _
   | refine LeO.ite ?_ ?_
   | refine LeO.bind ?_ (fun _ => ?_)
set_option maxHeartbeats 8000000 in
set_option maxRecDepth 100000 in
theorem flagstonelaw09_ContentBack.calls (k : Nat) (A0_0 : Option Addr) (c0_0 : Nat) (l0_0 : List (S59)) (a0_1 : Int) (a0_2 : Int) (a1 : Int) (a2 : Int) (a3 : ByteArray) (a4 : Int) (a5 : Int) (r : Bool) (w : World) (hr0_0 : Kd.C k59 w A0_0 l0_0.length l0_0) (hc0_0 : l0_0.length ≤ c0_0) (h : flagstonelaw09_ContentBack.f k l0_0 a0_1 a0_2 a1 a2 a3 a4 a5 = some r) :
  Calls Try.prog 5 #[.agg #[.slice A0_0 l0_0.length c0_0, .int .i64 a0_1, .int .i64 a0_2], .int .i64 a1, .int .i64 a2, .string a3, .int .u8 a4, .int .u8 a5] w fun e w' => e = .returned (.bool r) ∧ Below w.heap.size w w' := by
 have hu24 := Try.underlying24
 have HR0_0 := Am_ hr0_0
 have HC0_0 := Am_ hc0_0
 clear hr0_0 hc0_0
 have HB := Am_ (Below.refl w.heap.size w)
 have H : ((flagstonelaw09_small.f k l0_0 a0_1 a0_2).bind fun t473 => (if t473 = true then (if (a3.size : Int) > 300 then (flagstonelaw09_ContentBack.j0 k a1 a2 a3 a4 a5 true l0_0 a0_1 a0_2) else ((flagstonelaw09_shown.f).bind fun t474 => (flagstonelaw09_ContentBack.j0 k a1 a2 a3 a4 a5 (!t474) l0_0 a0_1 a0_2))) else (flagstonelaw09_ContentBack.j0 k a1 a2 a3 a4 a5 true l0_0 a0_1 a0_2))) = some r := h
 clear h
 have HC7 := Am_ H
 clear H
 go_enter Try.func5, Try.ntmps5
 go_upto_region 1 with (first | ((with_reducible refine gate_dst (N := 6) rfl ?_); (try (refine gate_guard (by rfl) ?_; dsimp only)); refine box_event ?hg (N := 6) ?hd (cs := #[.slice A0_0 l0_0.length c0_0, .int .i64 a0_1, .int .i64 a0_2]) (t := 24) ?hr ?_; (case hd => rfl); (case hg => rfl); (case hr => first | (go_simp; done) | (go_simp; rfl)); intro gb472 hg w8 hbox hb; have n0_ := Am_ (Be_ (by repeat (first | (with_reducible first | exact HB.out | apply Pa_ | apply Pn_ | apply Pd_) | exact HB.out)) hb); have n1_ := Am_ (hbox); have n2_ := Am_ ((by rw [hg]; exact (Bz_ (by repeat (first | (with_reducible first | exact HB.out | apply Pa_ | apply Pn_ | apply Pd_) | exact HB.out))) : w.heap.size ≤ gb472)); have n3_ := Am_ ((by rw [hg]; exact (Bz_ (by repeat (first | (with_reducible first | exact HB.out | apply Pa_ | apply Pn_ | apply Pd_) | exact HB.out))) : w.heap.size ≤ gb472)); clear HB; have HB := n0_; have BK472 := n1_; have GW472 := n2_; have GE472 := n3_; clear n0_ n1_ n2_ n3_; clear hb hbox hg))
 (try simp only [Act.put, La_, Lb_, Lc_])
 go_cut [32] (fun v32 wc => ∃ (kq : Nat) (x32_6 : Bool), v32 = .bool x32_6 ∧ Aside0 (flagstonelaw09_ContentBack.j0 kq a1 a2 a3 a4 a5 x32_6 l0_0 a0_1 a0_2 = some r) ∧ Aside0 (kq ≤ k) ∧ Aside0 (wc.heap[gb472]? = some (.cells #[(.slice A0_0 l0_0.length c0_0), .int .i64 a0_1, .int .i64 a0_2] 24 (0, 0))) ∧ Aside0 (Below w.heap.size w wc))
 case first =>
  have H := HC7.out
  clear HC7
  replace H := Option.bind_eq_some_iff.mp H
  obtain ⟨t473, A90, H⟩ := H
  replace H : (if t473 = true then (if (a3.size : Int) > 300 then (flagstonelaw09_ContentBack.j0 k a1 a2 a3 a4 a5 true l0_0 a0_1 a0_2) else ((flagstonelaw09_shown.f).bind fun t474 => (flagstonelaw09_ContentBack.j0 k a1 a2 a3 a4 a5 (!t474) l0_0 a0_1 a0_2))) else (flagstonelaw09_ContentBack.j0 k a1 a2 a3 a4 a5 true l0_0 a0_1 a0_2)) = some r := H
  have A9 := Am_ A90
  clear A90
  by_cases c10 : t473 = true
  ·subst c10
   have H1 : (if (a3.size : Int) > 300 then (flagstonelaw09_ContentBack.j0 k a1 a2 a3 a4 a5 true l0_0 a0_1 a0_2) else ((flagstonelaw09_shown.f).bind fun t474 => (flagstonelaw09_ContentBack.j0 k a1 a2 a3 a4 a5 (!t474) l0_0 a0_1 a0_2))) = some r := by rw [if_pos rfl] at H; exact H
   clear H
   have H := H1
   clear H1
   by_cases c11 : (a3.size : Int) > 300
   ·rw [if_pos c11] at H
    have c11b0 : decide (300 < (a3.size : Int)) = true := Dt_ c11
    have c11b1 : decide (300 < a3.size) = true := Dt_ (by omega)
    clear c11
    (first | rw [c11b0] | (simp only [i64_w, i32_w]; rw [c11b0]) | skip)
    have H' := Am_ H
    clear H
    have hcz12_0 : w8.cell? ⟨gb472, 0, none⟩ = some (.slice A0_0 l0_0.length c0_0) := (Bc_ BK472.out 0).trans rfl
    have hcz12_1 : w8.cell? ⟨gb472, 1, none⟩ = some (.int .i64 a0_1) := (Bc_ BK472.out 1).trans rfl
    have hcz12_2 : w8.cell? ⟨gb472, 2, none⟩ = some (.int .i64 a0_2) := (Bc_ BK472.out 2).trans rfl
    have hfz12_0 := Bf_ BK472.out 0
    have hfz12_1 := Bf_ BK472.out 1
    have hfz12_2 := Bf_ BK472.out 2
    go_wp2_with (first | ((with_reducible refine gate_callee (f := 9) rfl ?_); refine goesL_ (some 22) rfl rfl Try.func9 (by kernel_rfl) rfl #[.agg #[.slice A0_0 l0_0.length c0_0, .int .i64 a0_1, .int .i64 a0_2]] rfl (by (try simp only [List.map_toArray, List.map_cons, List.map_nil]); first | done | rfl | (simp only [List.length_drop, List.length_take]; rfl)) ?_; (with_reducible refine (flagstonelaw09_small.calls k _ _ l0_0 a0_1 a0_2 true _ ?side1 ?side2 A9.out).mono ?_); (case side1 => repeat (first | exact (Kd.C_below HR0_0.out HB.out) | (with_reducible refine Kd.C_alloc ?_ _) | (with_reducible refine Kd.C_drewN ?_ _) | (with_reducible refine Kd.C_drew ?_))); (case side2 => exact HC0_0.out); rintro e w13 ⟨rfl, hb⟩; refine ⟨_, rfl, ?_⟩; have n0_ := Am_ (Bb_ (g := gb472) (o := .cells #[.slice A0_0 l0_0.length c0_0, .int .i64 a0_1, .int .i64 a0_2] 24 (0, 0)) (by (with_reducible repeat (first | refine Bn_ ?_ _ | refine Bd_ ?_ | refine Ba_ ?_ _)); exact BK472.out) hb); have n1_ := Am_ (Be_ (by repeat (first | (with_reducible first | exact HB.out | apply Pa_ | apply Pn_ | apply Pd_ | refine Bs_ ?_ GE472.out) | exact HB.out)) hb); clear BK472; clear HB; have BK472 := n0_; have HB := n1_; clear n0_ n1_; (try clear hb); (try clear hb2); (try clear hk); (try clear hi)))
    go_meet
    case rel => exact ⟨_, (true), (by first | rfl | (simp; done) | (simp [*]; done)), H', ⟨by first | omega | exact Nat.le_refl _⟩, ⟨by (with_reducible repeat (first | refine Bn_ ?_ _ | refine Bd_ ?_ | refine Ba_ ?_ _)); exact BK472.out⟩, ⟨by repeat (first | (with_reducible first | exact HB.out | apply Pa_ | apply Pn_ | apply Pd_ | refine Bs_ ?_ GE472.out) | exact HB.out)⟩⟩
   ·rw [if_neg c11] at H
    have c11b0 : decide (300 < (a3.size : Int)) = false := Df_ c11
    have c11b1 : decide (300 < a3.size) = false := Df_ (by omega)
    clear c11
    (first | rw [c11b0] | (simp only [i64_w, i32_w]; rw [c11b0]) | skip)
    replace H := Option.bind_eq_some_iff.mp H
    obtain ⟨t474, A140, H⟩ := H
    replace H : (flagstonelaw09_ContentBack.j0 k a1 a2 a3 a4 a5 (!t474) l0_0 a0_1 a0_2) = some r := H
    have A14 := Am_ A140
    clear A140
    have H' := Am_ H
    clear H
    have hcz15_0 : w8.cell? ⟨gb472, 0, none⟩ = some (.slice A0_0 l0_0.length c0_0) := (Bc_ BK472.out 0).trans rfl
    have hcz15_1 : w8.cell? ⟨gb472, 1, none⟩ = some (.int .i64 a0_1) := (Bc_ BK472.out 1).trans rfl
    have hcz15_2 : w8.cell? ⟨gb472, 2, none⟩ = some (.int .i64 a0_2) := (Bc_ BK472.out 2).trans rfl
    have hfz15_0 := Bf_ BK472.out 0
    have hfz15_1 := Bf_ BK472.out 1
    have hfz15_2 := Bf_ BK472.out 2
    go_wp2_with (first | ((with_reducible refine gate_callee (f := 9) rfl ?_); refine goesL_ (some 22) rfl rfl Try.func9 (by kernel_rfl) rfl #[.agg #[.slice A0_0 l0_0.length c0_0, .int .i64 a0_1, .int .i64 a0_2]] rfl (by (try simp only [List.map_toArray, List.map_cons, List.map_nil]); first | done | rfl | (simp only [List.length_drop, List.length_take]; rfl)) ?_; (with_reducible refine (flagstonelaw09_small.calls k _ _ l0_0 a0_1 a0_2 true _ ?side1 ?side2 A9.out).mono ?_); (case side1 => repeat (first | exact (Kd.C_below HR0_0.out HB.out) | (with_reducible refine Kd.C_alloc ?_ _) | (with_reducible refine Kd.C_drewN ?_ _) | (with_reducible refine Kd.C_drew ?_))); (case side2 => exact HC0_0.out); rintro e w16 ⟨rfl, hb⟩; refine ⟨_, rfl, ?_⟩; have n0_ := Am_ (Bb_ (g := gb472) (o := .cells #[.slice A0_0 l0_0.length c0_0, .int .i64 a0_1, .int .i64 a0_2] 24 (0, 0)) (by (with_reducible repeat (first | refine Bn_ ?_ _ | refine Bd_ ?_ | refine Ba_ ?_ _)); exact BK472.out) hb); have n1_ := Am_ (Be_ (by repeat (first | (with_reducible first | exact HB.out | apply Pa_ | apply Pn_ | apply Pd_ | refine Bs_ ?_ GE472.out) | exact HB.out)) hb); clear BK472; clear HB; have BK472 := n0_; have HB := n1_; clear n0_ n1_; (try clear hb); (try clear hb2); (try clear hk); (try clear hi)) | (go_at_call 10; (with_reducible refine (flagstonelaw09_shown.calls  t474 _ A14.out).mono ?_); rintro e w17 ⟨rfl, hb⟩; have n0_ := Am_ (Bb_ (g := gb472) (o := .cells #[.slice A0_0 l0_0.length c0_0, .int .i64 a0_1, .int .i64 a0_2] 24 (0, 0)) (by (with_reducible repeat (first | refine Bn_ ?_ _ | refine Bd_ ?_ | refine Ba_ ?_ _)); exact BK472.out) hb); have n1_ := Am_ (Be_ (by repeat (first | (with_reducible first | exact HB.out | apply Pa_ | apply Pn_ | apply Pd_ | refine Bs_ ?_ GE472.out) | exact HB.out)) hb); clear BK472; clear HB; have BK472 := n0_; have HB := n1_; clear n0_ n1_; (try clear hb); (try clear hb2); (try clear hk); (try clear hi)))
    go_meet
    case rel => exact ⟨_, (!t474), (by first | rfl | (simp; done) | (simp [*]; done)), H', ⟨by first | omega | exact Nat.le_refl _⟩, ⟨by (with_reducible repeat (first | refine Bn_ ?_ _ | refine Bd_ ?_ | refine Ba_ ?_ _)); exact BK472.out⟩, ⟨by repeat (first | (with_reducible first | exact HB.out | apply Pa_ | apply Pn_ | apply Pd_ | refine Bs_ ?_ GE472.out) | exact HB.out)⟩⟩
  ·replace c10 := Bool.eq_false_iff.mpr c10
   subst c10
   have H1 : (flagstonelaw09_ContentBack.j0 k a1 a2 a3 a4 a5 true l0_0 a0_1 a0_2) = some r := by rw [if_neg (show ¬ (false = true) by decide)] at H; exact H
   clear H
   have H := H1
   clear H1
   have H' := Am_ H
   clear H
   have hcz18_0 : w8.cell? ⟨gb472, 0, none⟩ = some (.slice A0_0 l0_0.length c0_0) := (Bc_ BK472.out 0).trans rfl
   have hcz18_1 : w8.cell? ⟨gb472, 1, none⟩ = some (.int .i64 a0_1) := (Bc_ BK472.out 1).trans rfl
   have hcz18_2 : w8.cell? ⟨gb472, 2, none⟩ = some (.int .i64 a0_2) := (Bc_ BK472.out 2).trans rfl
   have hfz18_0 := Bf_ BK472.out 0
   have hfz18_1 := Bf_ BK472.out 1
   have hfz18_2 := Bf_ BK472.out 2
   go_wp2_with (first | ((with_reducible refine gate_callee (f := 9) rfl ?_); refine goesL_ (some 22) rfl rfl Try.func9 (by kernel_rfl) rfl #[.agg #[.slice A0_0 l0_0.length c0_0, .int .i64 a0_1, .int .i64 a0_2]] rfl (by (try simp only [List.map_toArray, List.map_cons, List.map_nil]); first | done | rfl | (simp only [List.length_drop, List.length_take]; rfl)) ?_; (with_reducible refine (flagstonelaw09_small.calls k _ _ l0_0 a0_1 a0_2 false _ ?side1 ?side2 A9.out).mono ?_); (case side1 => repeat (first | exact (Kd.C_below HR0_0.out HB.out) | (with_reducible refine Kd.C_alloc ?_ _) | (with_reducible refine Kd.C_drewN ?_ _) | (with_reducible refine Kd.C_drew ?_))); (case side2 => exact HC0_0.out); rintro e w19 ⟨rfl, hb⟩; refine ⟨_, rfl, ?_⟩; have n0_ := Am_ (Bb_ (g := gb472) (o := .cells #[.slice A0_0 l0_0.length c0_0, .int .i64 a0_1, .int .i64 a0_2] 24 (0, 0)) (by (with_reducible repeat (first | refine Bn_ ?_ _ | refine Bd_ ?_ | refine Ba_ ?_ _)); exact BK472.out) hb); have n1_ := Am_ (Be_ (by repeat (first | (with_reducible first | exact HB.out | apply Pa_ | apply Pn_ | apply Pd_ | refine Bs_ ?_ GE472.out) | exact HB.out)) hb); clear BK472; clear HB; have BK472 := n0_; have HB := n1_; clear n0_ n1_; (try clear hb); (try clear hb2); (try clear hk); (try clear hi)))
   go_meet
   case rel => exact ⟨_, (true), (by first | rfl | (simp; done) | (simp [*]; done)), H', ⟨by first | omega | exact Nat.le_refl _⟩, ⟨by (with_reducible repeat (first | refine Bn_ ?_ _ | refine Bd_ ?_ | refine Ba_ ?_ _)); exact BK472.out⟩, ⟨by repeat (first | (with_reducible first | exact HB.out | apply Pa_ | apply Pn_ | apply Pd_ | refine Bs_ ?_ GE472.out) | exact HB.out)⟩⟩
 case rest =>
  clear HC7
  try clear c1
  try clear p2
  try clear c5
  try clear c9
  try clear c10
  try clear c11
  try clear c11b0
  try clear c11b1
  try clear hcz12_0
  try clear hcz12_1
  try clear hcz12_2
  try clear hcz15_0
  try clear hcz15_1
  try clear hcz15_2
  try clear hcz18_0
  try clear hcz18_1
  try clear hcz18_2
  try clear hfz12_0
  try clear hfz12_1
  try clear hfz12_2
  try clear hfz15_0
  try clear hfz15_1
  try clear hfz15_2
  try clear hfz18_0
  try clear hfz18_1
  try clear hfz18_2
  obtain ⟨kq, x32_6, rfl, HA, HJ6, BK472, HB⟩ := hcut
  cases kq with
  | zero => exact absurd HA.out (by simp [flagstonelaw09_ContentBack.j0])
  | succ kj6 =>
   have H := HA.out
   clear HA
   simp only [flagstonelaw09_ContentBack.j0] at H
   by_cases c20 : x32_6 = true
   ·subst c20
    have H1 : ((flagstonelaw09_shown.f).bind fun t475 => (some t475)) = some r := by rw [if_pos rfl] at H; exact H
    clear H
    have H := H1
    clear H1
    replace H := Option.bind_eq_some_iff.mp H
    obtain ⟨t475, A210, H⟩ := H
    replace H : (some t475) = some r := H
    have A21 := Am_ A210
    clear A210
    obtain rfl := Option.some.inj H
    go_wp2_with (first | ((with_reducible refine gate_callee (f := 10) rfl ?_); refine goesL_ (some 33) rfl rfl Try.func10 (by kernel_rfl) rfl #[] rfl (by (try simp only [List.map_toArray, List.map_cons, List.map_nil]); first | done | rfl | (simp only [List.length_drop, List.length_take]; rfl)) ?_; (with_reducible refine (flagstonelaw09_shown.calls  t475 _ A21.out).mono ?_); rintro e w22 ⟨rfl, hb⟩; refine ⟨_, rfl, ?_⟩; have n0_ := Am_ (Bb_ (g := gb472) (o := .cells #[.slice A0_0 l0_0.length c0_0, .int .i64 a0_1, .int .i64 a0_2] 24 (0, 0)) (by (with_reducible repeat (first | refine Bn_ ?_ _ | refine Bd_ ?_ | refine Ba_ ?_ _)); exact BK472.out) hb); have n1_ := Am_ (Be_ (by repeat (first | (with_reducible first | exact HB.out | apply Pa_ | apply Pn_ | apply Pd_ | refine Bs_ ?_ GE472.out) | exact HB.out)) hb); clear BK472; clear HB; have BK472 := n0_; have HB := n1_; clear n0_ n1_; (try clear hb); (try clear hb2); (try clear hk); (try clear hi)))
    go_ret
    exact ⟨by first | rfl | (simp [errW_none, errW_some] <;> rfl) | (simp [*, errW_none, errW_some] <;> rfl), by repeat (first | (with_reducible first | exact HB.out | apply Pa_ | apply Pn_ | apply Pd_ | refine Bs_ ?_ GE472.out) | exact HB.out)⟩
   ·replace c20 := Bool.eq_false_iff.mpr c20
    subst c20
    have H1 : ((content_Write.f l0_0 a0_1 a0_2 a1 a2 a3).bind fun bt476 => (if bt476.2.2.2 = 0 then ((content_Read.f bt476.1 bt476.2.1 bt476.2.2.1 a1 a2 (a3.size : Int)).bind fun bt494 => ((content_Read.f l0_0 a0_1 a0_2 a1 (wrap64 (a4)) (wrap64 (a5))).bind fun bt496 => ((content_Read.f bt476.1 bt476.2.1 bt476.2.2.1 a1 (wrap64 (a4)) (wrap64 (a5))).bind fun bt498 => (if bt494.2 = 0 then (if bt494.1.toList = a3.toList then (if bt496.2 = 0 then (flagstonelaw09_ContentBack.j1 kj6 a2 a3 a4 a5 bt496.1 bt498.1 (bt498.2 != 0)) else (flagstonelaw09_ContentBack.j1 kj6 a2 a3 a4 a5 bt496.1 bt498.1 true)) else (flagstonelaw09_ContentBack.j1 kj6 a2 a3 a4 a5 bt496.1 bt498.1 true)) else (flagstonelaw09_ContentBack.j1 kj6 a2 a3 a4 a5 bt496.1 bt498.1 true))))) else ((flagstonelaw09_its.f kj6 bt476.1 bt476.2.1 bt476.2.2.1).bind fun bt483 => ((flagstonelaw09_its.f kj6 l0_0 a0_1 a0_2).bind fun bt488 => ((flagstoneref06_Same.f kj6 bt483.1 bt483.2.1 bt483.2.2 bt488.1 bt488.2.1 bt488.2.2).bind fun t493 => (some t493)))))) = some r := by rw [if_neg (show ¬ (false = true) by decide)] at H; exact H
    clear H
    have H := H1
    clear H1
    replace H := Option.bind_eq_some_iff.mp H
    obtain ⟨⟨t476, t479, t480, t481⟩, A230, H⟩ := H
    replace H : (if t481 = 0 then ((content_Read.f t476 t479 t480 a1 a2 (a3.size : Int)).bind fun bt494 => ((content_Read.f l0_0 a0_1 a0_2 a1 (wrap64 (a4)) (wrap64 (a5))).bind fun bt496 => ((content_Read.f t476 t479 t480 a1 (wrap64 (a4)) (wrap64 (a5))).bind fun bt498 => (if bt494.2 = 0 then (if bt494.1.toList = a3.toList then (if bt496.2 = 0 then (flagstonelaw09_ContentBack.j1 kj6 a2 a3 a4 a5 bt496.1 bt498.1 (bt498.2 != 0)) else (flagstonelaw09_ContentBack.j1 kj6 a2 a3 a4 a5 bt496.1 bt498.1 true)) else (flagstonelaw09_ContentBack.j1 kj6 a2 a3 a4 a5 bt496.1 bt498.1 true)) else (flagstonelaw09_ContentBack.j1 kj6 a2 a3 a4 a5 bt496.1 bt498.1 true))))) else ((flagstonelaw09_its.f kj6 t476 t479 t480).bind fun bt483 => ((flagstonelaw09_its.f kj6 l0_0 a0_1 a0_2).bind fun bt488 => ((flagstoneref06_Same.f kj6 bt483.1 bt483.2.1 bt483.2.2 bt488.1 bt488.2.1 bt488.2.2).bind fun t493 => (some t493))))) = some r := H
    have A23 := Am_ A230
    clear A230
    by_cases c24 : t481 = 0
    ·rw [if_pos c24] at H
     have c24b0 : (t481 == 0) = true := beq_iff_eq.mpr c24
     have c24b1 : (t481 != 0) = false := bne_eq_false_iff_eq.mpr c24
     clear c24
     replace H := Option.bind_eq_some_iff.mp H
     obtain ⟨⟨t494, t495⟩, A250, H⟩ := H
     replace H : ((content_Read.f l0_0 a0_1 a0_2 a1 (wrap64 (a4)) (wrap64 (a5))).bind fun bt496 => ((content_Read.f t476 t479 t480 a1 (wrap64 (a4)) (wrap64 (a5))).bind fun bt498 => (if t495 = 0 then (if t494.toList = a3.toList then (if bt496.2 = 0 then (flagstonelaw09_ContentBack.j1 kj6 a2 a3 a4 a5 bt496.1 bt498.1 (bt498.2 != 0)) else (flagstonelaw09_ContentBack.j1 kj6 a2 a3 a4 a5 bt496.1 bt498.1 true)) else (flagstonelaw09_ContentBack.j1 kj6 a2 a3 a4 a5 bt496.1 bt498.1 true)) else (flagstonelaw09_ContentBack.j1 kj6 a2 a3 a4 a5 bt496.1 bt498.1 true)))) = some r := H
     have A25 := Am_ A250
     clear A250
     replace H := Option.bind_eq_some_iff.mp H
     obtain ⟨⟨t496, t497⟩, A260, H⟩ := H
     replace H : ((content_Read.f t476 t479 t480 a1 (wrap64 (a4)) (wrap64 (a5))).bind fun bt498 => (if t495 = 0 then (if t494.toList = a3.toList then (if t497 = 0 then (flagstonelaw09_ContentBack.j1 kj6 a2 a3 a4 a5 t496 bt498.1 (bt498.2 != 0)) else (flagstonelaw09_ContentBack.j1 kj6 a2 a3 a4 a5 t496 bt498.1 true)) else (flagstonelaw09_ContentBack.j1 kj6 a2 a3 a4 a5 t496 bt498.1 true)) else (flagstonelaw09_ContentBack.j1 kj6 a2 a3 a4 a5 t496 bt498.1 true))) = some r := H
     have A26 := Am_ A260
     clear A260
     replace H := Option.bind_eq_some_iff.mp H
     obtain ⟨⟨t498, t499⟩, A270, H⟩ := H
     replace H : (if t495 = 0 then (if t494.toList = a3.toList then (if t497 = 0 then (flagstonelaw09_ContentBack.j1 kj6 a2 a3 a4 a5 t496 t498 (t499 != 0)) else (flagstonelaw09_ContentBack.j1 kj6 a2 a3 a4 a5 t496 t498 true)) else (flagstonelaw09_ContentBack.j1 kj6 a2 a3 a4 a5 t496 t498 true)) else (flagstonelaw09_ContentBack.j1 kj6 a2 a3 a4 a5 t496 t498 true)) = some r := H
     have A27 := Am_ A270
     clear A270
     have HC28 := Am_ H
     clear H
     have hcz29_0 : wc.cell? ⟨gb472, 0, none⟩ = some (.slice A0_0 l0_0.length c0_0) := (Bc_ BK472.out 0).trans rfl
     have hcz29_1 : wc.cell? ⟨gb472, 1, none⟩ = some (.int .i64 a0_1) := (Bc_ BK472.out 1).trans rfl
     have hcz29_2 : wc.cell? ⟨gb472, 2, none⟩ = some (.int .i64 a0_2) := (Bc_ BK472.out 2).trans rfl
     have hfz29_0 := Bf_ BK472.out 0
     have hfz29_1 := Bf_ BK472.out 1
     have hfz29_2 := Bf_ BK472.out 2
     go_upto_region 9 with (first | ((with_reducible refine gate_callee (f := 16) rfl ?_); refine goesL_ (some 39) rfl rfl Try.func16 (by kernel_rfl) rfl #[.agg #[.slice A0_0 l0_0.length c0_0, .int .i64 a0_1, .int .i64 a0_2], .int .i64 a1, .int .i64 a2, .string a3] rfl (by (try simp only [List.map_toArray, List.map_cons, List.map_nil]); first | done | rfl | (simp only [List.length_drop, List.length_take]; rfl)) ?_; (with_reducible refine (content_Write.calls (fun k_ => k_ < w.heap.size) _ _ l0_0 a0_1 a0_2 a1 a2 a3 t476 t479 t480 t481 _ ?side1 A23.out).mono ?_); (case side1 => exact Kd.V_mk HC0_0.out (Kd.F_below (Kd.C_F k59_heap HR0_0.out) (by repeat (first | (with_reducible first | exact HB.out | apply Pa_ | apply Pn_ | apply Pd_ | refine Bs_ ?_ GE472.out) | exact HB.out)))); rintro e w30 ⟨v477, rfl, ho0, hb⟩; refine ⟨_, rfl, ?_⟩; have n0_ := Am_ (Vl_ (Vm_ (ok' := fun k_ => k_ ≠ gb472) ho0 (fun k_ hk_ => Or.elim hk_ (fun hs_ => fun e_ => Nat.not_le.2 hs_ (by rw [e_]; exact GW472.out)) (fun hn_ => (Kd.freshB (g := gb472) (o := .cells #[.slice A0_0 l0_0.length c0_0, .int .i64 a0_1, .int .i64 a0_2] 24 (0, 0)) (by (with_reducible repeat (first | refine Bn_ ?_ _ | refine Bd_ ?_ | refine Ba_ ?_ _)); exact BK472.out) k_ hn_)))) (Bz_ (by repeat (first | (with_reducible first | exact HB.out | apply Pa_ | apply Pn_ | apply Pd_ | refine Bs_ ?_ GE472.out) | exact HB.out)))); have n1_ := Am_ (Bb_ (g := gb472) (o := .cells #[.slice A0_0 l0_0.length c0_0, .int .i64 a0_1, .int .i64 a0_2] 24 (0, 0)) (by (with_reducible repeat (first | refine Bn_ ?_ _ | refine Bd_ ?_ | refine Ba_ ?_ _)); exact BK472.out) hb); have n2_ := Am_ (Be_ (by repeat (first | (with_reducible first | exact HB.out | apply Pa_ | apply Pn_ | apply Pd_ | refine Bs_ ?_ GE472.out) | exact HB.out)) hb); clear BK472; clear HB; have HO478 := n0_; have BK472 := n1_; have HB := n2_; clear n0_ n1_ n2_; (try clear hb); (try clear hb2); (try clear hk); (try clear hi); (try clear ho0)) | ((with_reducible refine gate_dst (N := 13) rfl ?_); (try (refine gate_guard (by rfl) ?_; dsimp only)); refine box_event ?hg (N := 13) ?hd (cs := #[.slice none 0 0, .int .i64 0, .int .i64 0]) (t := 24) ?hr ?_; (case hd => rfl); (case hg => rfl); (case hr => first | (go_simp; done) | (go_simp; rfl)); intro gb482 hg w31 hbox hb; have n0_ := Am_ (Vb_ (Ke_ (by (with_reducible repeat (first | apply Va_ | apply Vn_ | apply Vd_)); exact HO478.out) gb482 (Nat.le_of_eq hg.symm)) hb); have n1_ := Am_ (Bb_ (g := gb472) (o := .cells #[.slice A0_0 l0_0.length c0_0, .int .i64 a0_1, .int .i64 a0_2] 24 (0, 0)) (by (with_reducible repeat (first | refine Bn_ ?_ _ | refine Bd_ ?_ | refine Ba_ ?_ _)); exact BK472.out) hb); have n2_ := Am_ (Be_ (by repeat (first | (with_reducible first | exact HB.out | apply Pa_ | apply Pn_ | apply Pd_ | refine Bs_ ?_ GE472.out) | exact HB.out)) hb); have n3_ := Am_ (hbox); have n4_ := Am_ ((by rw [hg]; exact (Bz_ (by repeat (first | (with_reducible first | exact HB.out | apply Pa_ | apply Pn_ | apply Pd_ | refine Bs_ ?_ GE472.out) | exact HB.out))) : w.heap.size ≤ gb482)); have n5_ := Am_ ((by rw [hg]; exact (Bz_ (by repeat (first | (with_reducible first | exact HB.out | apply Pa_ | apply Pn_ | apply Pd_ | refine Bs_ ?_ GE472.out) | exact HB.out))) : w.heap.size ≤ gb482)); have n6_ := Am_ ((by rw [hg]; exact Nat.ne_of_lt (blk_lt (g := gb472) (o := .cells #[.slice A0_0 l0_0.length c0_0, .int .i64 a0_1, .int .i64 a0_2] 24 (0, 0)) (by (with_reducible repeat (first | refine Bn_ ?_ _ | refine Bd_ ?_ | refine Ba_ ?_ _)); exact BK472.out)) : gb472 ≠ gb482)); have n7_ := Am_ ((by rw [hg]; exact Nat.ne_of_gt (blk_lt (g := gb472) (o := .cells #[.slice A0_0 l0_0.length c0_0, .int .i64 a0_1, .int .i64 a0_2] 24 (0, 0)) (by (with_reducible repeat (first | refine Bn_ ?_ _ | refine Bd_ ?_ | refine Ba_ ?_ _)); exact BK472.out)) : gb482 ≠ gb472)); clear HO478; clear BK472; clear HB; have HO478 := n0_; have BK472 := n1_; have HB := n2_; have BK482 := n3_; have GW482 := n4_; have GE482 := n5_; have NB472_482 := n6_; have NB482_472 := n7_; clear n0_ n1_ n2_ n3_ n4_ n5_ n6_ n7_; clear hb hbox hg; obtain ⟨Ao32, co32, eo32⟩ := Vx_ HO478.out; subst eo32; have hnb33 := NB482_472.out; have hnc33 := NB472_482.out; have hcz34_0 : w31.cell? ⟨gb482, 0, none⟩ = some (.slice none 0 0) := (Bc_ BK482.out 0).trans rfl; have hcz34_1 : w31.cell? ⟨gb482, 1, none⟩ = some (.int .i64 0) := (Bc_ BK482.out 1).trans rfl; have hcz34_2 : w31.cell? ⟨gb482, 2, none⟩ = some (.int .i64 0) := (Bc_ BK482.out 2).trans rfl; have hfz34_0 := Bf_ BK482.out 0; have hfz34_1 := Bf_ BK482.out 1; have hfz34_2 := Bf_ BK482.out 2) | ((with_reducible refine gate_callee (f := 11) rfl ?_); refine goesL_ (some 55) rfl rfl Try.func11 (by kernel_rfl) rfl #[.agg #[.slice Ao32 t476.length co32, .int .i64 t479, .int .i64 t480], .int .i64 a1, .int .i64 a2, .int .i64 (a3.size : Int)] rfl (by (try simp only [List.map_toArray, List.map_cons, List.map_nil]); first | done | rfl | (simp only [List.length_drop, List.length_take]; rfl)) ?_; (with_reducible refine (content_Read.calls _ _ t476 t479 t480 a1 a2 (a3.size : Int) t494 t495 _ ?side1 ?side2 A25.out).mono ?_); (case side1 => refine (Vr_ (e := 59) (base := w.heap.size) (ok := fun k_ => (k_ ≠ gb472 ∧ k_ ≠ gb482)) (n := t476.length) (c := co32) ?_).2.2; exact (by (with_reducible repeat (first | apply Va_ | apply Vn_ | apply Vd_)); exact (Vm_ (Vf_ (p := ⟨gb482, 2, none⟩) (Vf_ (p := ⟨gb482, 1, none⟩) (Vf_ (p := ⟨gb482, 0, none⟩) (Vm_ HO478.out (fun k_ hk => (⟨hk, hk.2⟩ : _ ∧ k_ ≠ gb482))) (fun _ hk => hk.2) (.slice Ao32 t476.length co32)) (fun _ hk => hk.2) (.int .i64 t479)) (fun _ hk => hk.2) (.int .i64 t480)) (fun _ h_ => h_.1)))); (case side2 => exact (Vr_ HO478.out).2.1); rintro e w35 ⟨rfl, hb⟩; refine ⟨_, rfl, ?_⟩; have n0_ := Am_ (Vb_ (by (with_reducible repeat (first | apply Va_ | apply Vn_ | apply Vd_)); exact (Vm_ (Vf_ (p := ⟨gb482, 2, none⟩) (Vf_ (p := ⟨gb482, 1, none⟩) (Vf_ (p := ⟨gb482, 0, none⟩) (Vm_ HO478.out (fun k_ hk => (⟨hk, hk.2⟩ : _ ∧ k_ ≠ gb482))) (fun _ hk => hk.2) (.slice Ao32 t476.length co32)) (fun _ hk => hk.2) (.int .i64 t479)) (fun _ hk => hk.2) (.int .i64 t480)) (fun _ h_ => h_.1))) hb); have n1_ := Am_ (Bb_ (g := gb472) (o := .cells #[.slice A0_0 l0_0.length c0_0, .int .i64 a0_1, .int .i64 a0_2] 24 (0, 0)) (by (with_reducible repeat (first | refine Bn_ ?_ _ | refine Bd_ ?_ | refine Ba_ ?_ _)); refine blk_far ?_ NB472_482.out _; (with_reducible repeat (first | refine Bn_ ?_ _ | refine Bd_ ?_ | refine Ba_ ?_ _)); refine blk_far ?_ NB472_482.out _; (with_reducible repeat (first | refine Bn_ ?_ _ | refine Bd_ ?_ | refine Ba_ ?_ _)); refine blk_far ?_ NB472_482.out _; (with_reducible repeat (first | refine Bn_ ?_ _ | refine Bd_ ?_ | refine Ba_ ?_ _)); exact BK472.out) hb); have n2_ := Am_ (Bb_ (g := gb482) (o := .cells #[.slice Ao32 t476.length co32, .int .i64 t479, .int .i64 t480] 24 (0, 0)) (by (with_reducible repeat (first | refine Bn_ ?_ _ | refine Bd_ ?_ | refine Ba_ ?_ _)); refine Bp_ (cs := #[.slice Ao32 t476.length co32, .int .i64 t479, .int .i64 0]) ?_ 2 _ rfl; (with_reducible repeat (first | refine Bn_ ?_ _ | refine Bd_ ?_ | refine Ba_ ?_ _)); refine Bp_ (cs := #[.slice Ao32 t476.length co32, .int .i64 0, .int .i64 0]) ?_ 1 _ rfl; (with_reducible repeat (first | refine Bn_ ?_ _ | refine Bd_ ?_ | refine Ba_ ?_ _)); refine Bp_ (cs := #[.slice none 0 0, .int .i64 0, .int .i64 0]) ?_ 0 _ rfl; (with_reducible repeat (first | refine Bn_ ?_ _ | refine Bd_ ?_ | refine Ba_ ?_ _)); exact BK482.out) hb); have n3_ := Am_ (Be_ (by repeat (first | (with_reducible first | exact HB.out | apply Pa_ | apply Pn_ | apply Pd_ | refine Bs_ ?_ GE472.out | refine Bs_ ?_ GE482.out) | exact HB.out)) hb); clear HO478; clear BK472; clear BK482; clear HB; have HO478 := n0_; have BK472 := n1_; have BK482 := n2_; have HB := n3_; clear n0_ n1_ n2_ n3_; (try clear hb); (try clear hb2); (try clear hk); (try clear hi); have hcz36_0 : w35.cell? ⟨gb472, 0, none⟩ = some (.slice A0_0 l0_0.length c0_0) := (Bc_ BK472.out 0).trans rfl; have hcz36_1 : w35.cell? ⟨gb472, 1, none⟩ = some (.int .i64 a0_1) := (Bc_ BK472.out 1).trans rfl; have hcz36_2 : w35.cell? ⟨gb472, 2, none⟩ = some (.int .i64 a0_2) := (Bc_ BK472.out 2).trans rfl; have hfz36_0 := Bf_ BK472.out 0; have hfz36_1 := Bf_ BK472.out 1; have hfz36_2 := Bf_ BK472.out 2) | ((with_reducible refine gate_callee (f := 11) rfl ?_); refine goesL_ (some 65) rfl rfl Try.func11 (by kernel_rfl) rfl #[.agg #[.slice A0_0 l0_0.length c0_0, .int .i64 a0_1, .int .i64 a0_2], .int .i64 a1, .int .i64 (wrap64 (a4)), .int .i64 (wrap64 (a5))] rfl (by (try simp only [List.map_toArray, List.map_cons, List.map_nil]); first | done | rfl | (simp only [List.length_drop, List.length_take]; rfl)) ?_; (with_reducible refine (content_Read.calls _ _ l0_0 a0_1 a0_2 a1 (wrap64 (a4)) (wrap64 (a5)) t496 t497 _ ?side1 ?side2 A26.out).mono ?_); (case side1 => repeat (first | exact (Kd.C_below HR0_0.out HB.out) | (with_reducible refine Kd.C_alloc ?_ _) | (with_reducible refine Kd.C_drewN ?_ _) | (with_reducible refine Kd.C_drew ?_))); (case side2 => exact HC0_0.out); rintro e w37 ⟨rfl, hb⟩; refine ⟨_, rfl, ?_⟩; have n0_ := Am_ (Vb_ (by (with_reducible repeat (first | apply Va_ | apply Vn_ | apply Vd_)); exact HO478.out) hb); have n1_ := Am_ (Bb_ (g := gb472) (o := .cells #[.slice A0_0 l0_0.length c0_0, .int .i64 a0_1, .int .i64 a0_2] 24 (0, 0)) (by (with_reducible repeat (first | refine Bn_ ?_ _ | refine Bd_ ?_ | refine Ba_ ?_ _)); exact BK472.out) hb); have n2_ := Am_ (Bb_ (g := gb482) (o := .cells #[.slice Ao32 t476.length co32, .int .i64 t479, .int .i64 t480] 24 (0, 0)) (by (with_reducible repeat (first | refine Bn_ ?_ _ | refine Bd_ ?_ | refine Ba_ ?_ _)); exact BK482.out) hb); have n3_ := Am_ (Be_ (by repeat (first | (with_reducible first | exact HB.out | apply Pa_ | apply Pn_ | apply Pd_ | refine Bs_ ?_ GE472.out | refine Bs_ ?_ GE482.out) | exact HB.out)) hb); clear HO478; clear BK472; clear BK482; clear HB; have HO478 := n0_; have BK472 := n1_; have BK482 := n2_; have HB := n3_; clear n0_ n1_ n2_ n3_; (try clear hb); (try clear hb2); (try clear hk); (try clear hi); have hcz38_0 : w37.cell? ⟨gb482, 0, none⟩ = some (.slice Ao32 t476.length co32) := (Bc_ BK482.out 0).trans rfl; have hcz38_1 : w37.cell? ⟨gb482, 1, none⟩ = some (.int .i64 t479) := (Bc_ BK482.out 1).trans rfl; have hcz38_2 : w37.cell? ⟨gb482, 2, none⟩ = some (.int .i64 t480) := (Bc_ BK482.out 2).trans rfl; have hfz38_0 := Bf_ BK482.out 0; have hfz38_1 := Bf_ BK482.out 1; have hfz38_2 := Bf_ BK482.out 2) | ((with_reducible refine gate_callee (f := 11) rfl ?_); refine goesL_ (some 75) rfl rfl Try.func11 (by kernel_rfl) rfl #[.agg #[.slice Ao32 t476.length co32, .int .i64 t479, .int .i64 t480], .int .i64 a1, .int .i64 (wrap64 (a4)), .int .i64 (wrap64 (a5))] rfl (by (try simp only [List.map_toArray, List.map_cons, List.map_nil]); first | done | rfl | (simp only [List.length_drop, List.length_take]; rfl)) ?_; (with_reducible refine (content_Read.calls _ _ t476 t479 t480 a1 (wrap64 (a4)) (wrap64 (a5)) t498 t499 _ ?side1 ?side2 A27.out).mono ?_); (case side1 => repeat (first | exact (Vr_ HO478.out).2.2 | (with_reducible refine Kd.C_alloc ?_ _) | (with_reducible refine Kd.C_drewN ?_ _) | (with_reducible refine Kd.C_drew ?_))); (case side2 => exact (Vr_ HO478.out).2.1); rintro e w39 ⟨rfl, hb⟩; refine ⟨_, rfl, ?_⟩; have n0_ := Am_ (Vb_ (by (with_reducible repeat (first | apply Va_ | apply Vn_ | apply Vd_)); exact HO478.out) hb); have n1_ := Am_ (Bb_ (g := gb472) (o := .cells #[.slice A0_0 l0_0.length c0_0, .int .i64 a0_1, .int .i64 a0_2] 24 (0, 0)) (by (with_reducible repeat (first | refine Bn_ ?_ _ | refine Bd_ ?_ | refine Ba_ ?_ _)); exact BK472.out) hb); have n2_ := Am_ (Bb_ (g := gb482) (o := .cells #[.slice Ao32 t476.length co32, .int .i64 t479, .int .i64 t480] 24 (0, 0)) (by (with_reducible repeat (first | refine Bn_ ?_ _ | refine Bd_ ?_ | refine Ba_ ?_ _)); exact BK482.out) hb); have n3_ := Am_ (Be_ (by repeat (first | (with_reducible first | exact HB.out | apply Pa_ | apply Pn_ | apply Pd_ | refine Bs_ ?_ GE472.out | refine Bs_ ?_ GE482.out) | exact HB.out)) hb); clear HO478; clear BK472; clear BK482; clear HB; have HO478 := n0_; have BK472 := n1_; have BK482 := n2_; have HB := n3_; clear n0_ n1_ n2_ n3_; (try clear hb); (try clear hb2); (try clear hk); (try clear hi)))
     (try simp only [Act.put, La_, Lb_, Lc_])
     go_cut [92] (fun v92 wc => ∃ (kq : Nat) (x92_27 : Bool), v92 = .bool x92_27 ∧ Aside0 (flagstonelaw09_ContentBack.j1 kq a2 a3 a4 a5 t496 t498 x92_27 = some r) ∧ Aside0 (kq ≤ kj6) ∧ Aside0 (Kd.V k59 59 wc w.heap.size (fun k_ => k_ ≠ gb472 ∧ k_ ≠ gb482) (.slice Ao32 t476.length co32) t476) ∧ Aside0 (wc.heap[gb472]? = some (.cells #[(.slice A0_0 l0_0.length c0_0), .int .i64 a0_1, .int .i64 a0_2] 24 (0, 0))) ∧ Aside0 (wc.heap[gb482]? = some (.cells #[(.slice Ao32 t476.length co32), .int .i64 t479, .int .i64 t480] 24 (0, 0))) ∧ Aside0 (Below w.heap.size w wc))
     case first =>
      have H := HC28.out
      clear HC28
      by_cases c40 : t495 = 0
      ·rw [if_pos c40] at H
       have c40b0 : (t495 == 0) = true := beq_iff_eq.mpr c40
       have c40b1 : (t495 != 0) = false := bne_eq_false_iff_eq.mpr c40
       clear c40
       (first | rw [c40b0] | (simp only [i64_w, i32_w]; rw [c40b0]) | skip)
       by_cases c41 : t494.toList = a3.toList
       ·rw [if_pos c41] at H
        have c41b0 : (t494.toList == a3.toList) = true := beq_iff_eq.mpr c41
        have c41b1 : (t494.toList != a3.toList) = false := bne_eq_false_iff_eq.mpr c41
        clear c41
        by_cases c42 : t497 = 0
        ·rw [if_pos c42] at H
         have c42b0 : (t497 == 0) = true := beq_iff_eq.mpr c42
         have c42b1 : (t497 != 0) = false := bne_eq_false_iff_eq.mpr c42
         clear c42
         have H' := Am_ H
         clear H
         go_wp2
         go_meet
         case rel => exact ⟨_, ((t499 != 0)), (by first | rfl | (simp; done) | (simp [*]; done)), H', ⟨by have := HJ6.out; first | omega | exact Nat.le_refl _⟩, ⟨by (with_reducible repeat (first | apply Va_ | apply Vn_ | apply Vd_)); exact HO478.out⟩, ⟨by (with_reducible repeat (first | refine Bn_ ?_ _ | refine Bd_ ?_ | refine Ba_ ?_ _)); exact BK472.out⟩, ⟨by (with_reducible repeat (first | refine Bn_ ?_ _ | refine Bd_ ?_ | refine Ba_ ?_ _)); exact BK482.out⟩, ⟨by repeat (first | (with_reducible first | exact HB.out | apply Pa_ | apply Pn_ | apply Pd_ | refine Bs_ ?_ GE472.out | refine Bs_ ?_ GE482.out) | exact HB.out)⟩⟩
        ·rw [if_neg c42] at H
         have c42b0 : (t497 == 0) = false := beq_eq_false_iff_ne.mpr c42
         have c42b1 : (t497 != 0) = true := bne_iff_ne.mpr c42
         have H' := Am_ H
         clear H
         go_wp2
         go_meet
         case rel => exact ⟨_, (true), (by first | rfl | (simp; done) | (simp [*]; done)), H', ⟨by have := HJ6.out; first | omega | exact Nat.le_refl _⟩, ⟨by (with_reducible repeat (first | apply Va_ | apply Vn_ | apply Vd_)); exact HO478.out⟩, ⟨by (with_reducible repeat (first | refine Bn_ ?_ _ | refine Bd_ ?_ | refine Ba_ ?_ _)); exact BK472.out⟩, ⟨by (with_reducible repeat (first | refine Bn_ ?_ _ | refine Bd_ ?_ | refine Ba_ ?_ _)); exact BK482.out⟩, ⟨by repeat (first | (with_reducible first | exact HB.out | apply Pa_ | apply Pn_ | apply Pd_ | refine Bs_ ?_ GE472.out | refine Bs_ ?_ GE482.out) | exact HB.out)⟩⟩
       ·rw [if_neg c41] at H
        have c41b0 : (t494.toList == a3.toList) = false := beq_eq_false_iff_ne.mpr c41
        have c41b1 : (t494.toList != a3.toList) = true := bne_iff_ne.mpr c41
        have H' := Am_ H
        clear H
        go_wp2
        go_meet
        case rel => exact ⟨_, (true), (by first | rfl | (simp; done) | (simp [*]; done)), H', ⟨by have := HJ6.out; first | omega | exact Nat.le_refl _⟩, ⟨by (with_reducible repeat (first | apply Va_ | apply Vn_ | apply Vd_)); exact HO478.out⟩, ⟨by (with_reducible repeat (first | refine Bn_ ?_ _ | refine Bd_ ?_ | refine Ba_ ?_ _)); exact BK472.out⟩, ⟨by (with_reducible repeat (first | refine Bn_ ?_ _ | refine Bd_ ?_ | refine Ba_ ?_ _)); exact BK482.out⟩, ⟨by repeat (first | (with_reducible first | exact HB.out | apply Pa_ | apply Pn_ | apply Pd_ | refine Bs_ ?_ GE472.out | refine Bs_ ?_ GE482.out) | exact HB.out)⟩⟩
      ·rw [if_neg c40] at H
       have c40b0 : (t495 == 0) = false := beq_eq_false_iff_ne.mpr c40
       have c40b1 : (t495 != 0) = true := bne_iff_ne.mpr c40
       (first | rw [c40b0] | (simp only [i64_w, i32_w]; rw [c40b0]) | skip)
       have H' := Am_ H
       clear H
       go_wp2
       go_meet
       case rel => exact ⟨_, (true), (by first | rfl | (simp; done) | (simp [*]; done)), H', ⟨by have := HJ6.out; first | omega | exact Nat.le_refl _⟩, ⟨by (with_reducible repeat (first | apply Va_ | apply Vn_ | apply Vd_)); exact HO478.out⟩, ⟨by (with_reducible repeat (first | refine Bn_ ?_ _ | refine Bd_ ?_ | refine Ba_ ?_ _)); exact BK472.out⟩, ⟨by (with_reducible repeat (first | refine Bn_ ?_ _ | refine Bd_ ?_ | refine Ba_ ?_ _)); exact BK482.out⟩, ⟨by repeat (first | (with_reducible first | exact HB.out | apply Pa_ | apply Pn_ | apply Pd_ | refine Bs_ ?_ GE472.out | refine Bs_ ?_ GE482.out) | exact HB.out)⟩⟩
     case rest =>
      clear HC28
      try clear c1
      try clear c2
      try clear p2
      try clear c3
      try clear c4
      try clear c5
      try clear p6
      try clear c9
      try clear c10
      try clear c11
      try clear c11b0
      try clear c11b1
      try clear c16
      try clear c20
      try clear c24
      try clear c24b0
      try clear c24b1
      try clear c33
      try clear c40
      try clear c40b0
      try clear c40b1
      try clear c41
      try clear c41b0
      try clear c41b1
      try clear c42
      try clear c42b0
      try clear c42b1
      try clear hcz12_0
      try clear hcz12_1
      try clear hcz12_2
      try clear hcz15_0
      try clear hcz15_1
      try clear hcz15_2
      try clear hcz18_0
      try clear hcz18_1
      try clear hcz18_2
      try clear hcz29_0
      try clear hcz29_1
      try clear hcz29_2
      try clear hcz34_0
      try clear hcz34_1
      try clear hcz34_2
      try clear hcz36_0
      try clear hcz36_1
      try clear hcz36_2
      try clear hcz38_0
      try clear hcz38_1
      try clear hcz38_2
      try clear hfz12_0
      try clear hfz12_1
      try clear hfz12_2
      try clear hfz15_0
      try clear hfz15_1
      try clear hfz15_2
      try clear hfz18_0
      try clear hfz18_1
      try clear hfz18_2
      try clear hfz29_0
      try clear hfz29_1
      try clear hfz29_2
      try clear hfz34_0
      try clear hfz34_1
      try clear hfz34_2
      try clear hfz36_0
      try clear hfz36_1
      try clear hfz36_2
      try clear hfz38_0
      try clear hfz38_1
      try clear hfz38_2
      try clear p2
      obtain ⟨kq, x92_27, rfl, HA, HJ27, HO_483000, BK472, BK482, HB⟩ := hcut
      cases kq with
      | zero => exact absurd HA.out (by simp [flagstonelaw09_ContentBack.j1])
      | succ kj27 =>
       have H := HA.out
       clear HA
       simp only [flagstonelaw09_ContentBack.j1] at H
       by_cases c43 : x92_27 = true
       ·subst c43
        have H1 : (none) = some r := by rw [if_pos rfl] at H; exact H
        clear H
        have H := H1
        clear H1
        exact absurd H (by simp)
       ·replace c43 := Bool.eq_false_iff.mpr c43
        subst c43
        have H1 : (if a3.toList = ([] : List UInt8) then (if (t498.size : Int) ≥ (t496.size : Int) then (if 0 ≤ (t496.size : Int) then (if (t496.size : Int) ≤ (t498.size : Int) then (some ((t498.extract 0 ((t496.size : Int) : Int).toNat).toList == t496.toList)) else (none)) else (none)) else (none)) else (if (wrap64 ((wrap64 (a4)) + (wrap64 (a5)))) ≤ a2 then (if (t498.size : Int) ≥ (t496.size : Int) then (if 0 ≤ (t496.size : Int) then (if (t496.size : Int) ≤ (t498.size : Int) then (some ((t498.extract 0 ((t496.size : Int) : Int).toNat).toList == t496.toList)) else (none)) else (none)) else (none)) else (if (wrap64 (a4)) < (wrap64 (a2 + (a3.size : Int))) then (some true) else (some (t496.toList == t498.toList))))) = some r := by rw [if_neg (show ¬ (false = true) by decide)] at H; exact H
        clear H
        have H := H1
        clear H1
        by_cases c44 : a3.toList = ([] : List UInt8)
        ·rw [if_pos c44] at H
         have c44b0 : (a3.toList == ([] : List UInt8)) = true := beq_iff_eq.mpr c44
         have c44b1 : (a3.toList != ([] : List UInt8)) = false := bne_eq_false_iff_eq.mpr c44
         clear c44
         by_cases c45 : (t498.size : Int) ≥ (t496.size : Int)
         ·rw [if_pos c45] at H
          have c45b0 : decide ((t496.size : Int) ≤ (t498.size : Int)) = true := Dt_ c45
          have c45b1 : decide (t496.size ≤ t498.size) = true := Dt_ (Int.ofNat_le.mp c45)
          clear c45
          by_cases c46 : 0 ≤ (t496.size : Int)
          ·rw [if_pos c46] at H
           have c46b0 := eq_true c46
           have c46b1 : decide (0 ≤ (t496.size : Int)) = true := Dt_ c46
           clear c46
           by_cases c47 : (t496.size : Int) ≤ (t498.size : Int)
           ·rw [if_pos c47] at H
            have c47b0 := eq_true c47
            have c47b1 : decide ((t496.size : Int) ≤ (t498.size : Int)) = true := Dt_ c47
            clear c47
            obtain rfl := Option.some.inj H
            go_wp2
            go_ret
            exact ⟨by first | rfl | (simp [errW_none, errW_some] <;> rfl) | (simp [*, errW_none, errW_some] <;> rfl), by repeat (first | (with_reducible first | exact HB.out | apply Pa_ | apply Pn_ | apply Pd_ | refine Bs_ ?_ GE472.out | refine Bs_ ?_ GE482.out) | exact HB.out)⟩
           ·rw [if_neg c47] at H
            exact absurd H (by simp)
          ·rw [if_neg c46] at H
           exact absurd H (by simp)
         ·rw [if_neg c45] at H
          exact absurd H (by simp)
        ·rw [if_neg c44] at H
         have c44b0 : (a3.toList == ([] : List UInt8)) = false := beq_eq_false_iff_ne.mpr c44
         have c44b1 : (a3.toList != ([] : List UInt8)) = true := bne_iff_ne.mpr c44
         by_cases c48 : (wrap64 ((wrap64 (a4)) + (wrap64 (a5)))) ≤ a2
         ·rw [if_pos c48] at H
          have c48b0 : decide ((wrap64 ((wrap64 (a4)) + (wrap64 (a5)))) ≤ a2) = true := Dt_ c48
          clear c48
          by_cases c49 : (t498.size : Int) ≥ (t496.size : Int)
          ·rw [if_pos c49] at H
           have c49b0 : decide ((t496.size : Int) ≤ (t498.size : Int)) = true := Dt_ c49
           have c49b1 : decide (t496.size ≤ t498.size) = true := Dt_ (Int.ofNat_le.mp c49)
           clear c49
           by_cases c50 : 0 ≤ (t496.size : Int)
           ·rw [if_pos c50] at H
            have c50b0 := eq_true c50
            have c50b1 : decide (0 ≤ (t496.size : Int)) = true := Dt_ c50
            clear c50
            by_cases c51 : (t496.size : Int) ≤ (t498.size : Int)
            ·rw [if_pos c51] at H
             have c51b0 := eq_true c51
             have c51b1 : decide ((t496.size : Int) ≤ (t498.size : Int)) = true := Dt_ c51
             clear c51
             obtain rfl := Option.some.inj H
             go_wp2
             go_ret
             exact ⟨by first | rfl | (simp [errW_none, errW_some] <;> rfl) | (simp [*, errW_none, errW_some] <;> rfl), by repeat (first | (with_reducible first | exact HB.out | apply Pa_ | apply Pn_ | apply Pd_ | refine Bs_ ?_ GE472.out | refine Bs_ ?_ GE482.out) | exact HB.out)⟩
            ·rw [if_neg c51] at H
             exact absurd H (by simp)
           ·rw [if_neg c50] at H
            exact absurd H (by simp)
          ·rw [if_neg c49] at H
           exact absurd H (by simp)
         ·rw [if_neg c48] at H
          have c48b0 : decide ((wrap64 ((wrap64 (a4)) + (wrap64 (a5)))) ≤ a2) = false := Df_ c48
          clear c48
          by_cases c52 : (wrap64 (a4)) < (wrap64 (a2 + (a3.size : Int)))
          ·rw [if_pos c52] at H
           have c52b0 : decide ((wrap64 (a4)) < (wrap64 (a2 + (a3.size : Int)))) = true := Dt_ c52
           clear c52
           obtain rfl := Option.some.inj H
           go_wp2
           go_ret
           exact ⟨by first | rfl | (simp [errW_none, errW_some] <;> rfl) | (simp [*, errW_none, errW_some] <;> rfl), by repeat (first | (with_reducible first | exact HB.out | apply Pa_ | apply Pn_ | apply Pd_ | refine Bs_ ?_ GE472.out | refine Bs_ ?_ GE482.out) | exact HB.out)⟩
          ·rw [if_neg c52] at H
           have c52b0 : decide ((wrap64 (a4)) < (wrap64 (a2 + (a3.size : Int)))) = false := Df_ c52
           clear c52
           obtain rfl := Option.some.inj H
           go_wp2
           go_ret
           exact ⟨by first | rfl | (simp [errW_none, errW_some] <;> rfl) | (simp [*, errW_none, errW_some] <;> rfl), by repeat (first | (with_reducible first | exact HB.out | apply Pa_ | apply Pn_ | apply Pd_ | refine Bs_ ?_ GE472.out | refine Bs_ ?_ GE482.out) | exact HB.out)⟩
    ·rw [if_neg c24] at H
     have c24b0 : (t481 == 0) = false := beq_eq_false_iff_ne.mpr c24
     have c24b1 : (t481 != 0) = true := bne_iff_ne.mpr c24
     replace H := Option.bind_eq_some_iff.mp H
     obtain ⟨⟨t483, t486, t487⟩, A530, H⟩ := H
     replace H : ((flagstonelaw09_its.f kj6 l0_0 a0_1 a0_2).bind fun bt488 => ((flagstoneref06_Same.f kj6 t483 t486 t487 bt488.1 bt488.2.1 bt488.2.2).bind fun t493 => (some t493))) = some r := H
     have A53 := Am_ A530
     clear A530
     replace H := Option.bind_eq_some_iff.mp H
     obtain ⟨⟨t488, t491, t492⟩, A540, H⟩ := H
     replace H : ((flagstoneref06_Same.f kj6 t483 t486 t487 t488 t491 t492).bind fun t493 => (some t493)) = some r := H
     have A54 := Am_ A540
     clear A540
     replace H := Option.bind_eq_some_iff.mp H
     obtain ⟨t493, A550, H⟩ := H
     replace H : (some t493) = some r := H
     have A55 := Am_ A550
     clear A550
     obtain rfl := Option.some.inj H
     have hcz56_0 : wc.cell? ⟨gb472, 0, none⟩ = some (.slice A0_0 l0_0.length c0_0) := (Bc_ BK472.out 0).trans rfl
     have hcz56_1 : wc.cell? ⟨gb472, 1, none⟩ = some (.int .i64 a0_1) := (Bc_ BK472.out 1).trans rfl
     have hcz56_2 : wc.cell? ⟨gb472, 2, none⟩ = some (.int .i64 a0_2) := (Bc_ BK472.out 2).trans rfl
     have hfz56_0 := Bf_ BK472.out 0
     have hfz56_1 := Bf_ BK472.out 1
     have hfz56_2 := Bf_ BK472.out 2
     try go_wp2_with (first | ((with_reducible refine gate_callee (f := 16) rfl ?_); refine goesL_ (some 39) rfl rfl Try.func16 (by kernel_rfl) rfl #[.agg #[.slice A0_0 l0_0.length c0_0, .int .i64 a0_1, .int .i64 a0_2], .int .i64 a1, .int .i64 a2, .string a3] rfl (by (try simp only [List.map_toArray, List.map_cons, List.map_nil]); first | done | rfl | (simp only [List.length_drop, List.length_take]; rfl)) ?_; (with_reducible refine (content_Write.calls (fun k_ => k_ < w.heap.size) _ _ l0_0 a0_1 a0_2 a1 a2 a3 t476 t479 t480 t481 _ ?side1 A23.out).mono ?_); (case side1 => exact Kd.V_mk HC0_0.out (Kd.F_below (Kd.C_F k59_heap HR0_0.out) (by repeat (first | (with_reducible first | exact HB.out | apply Pa_ | apply Pn_ | apply Pd_ | refine Bs_ ?_ GE472.out) | exact HB.out)))); rintro e w57 ⟨v477, rfl, ho0, hb⟩; refine ⟨_, rfl, ?_⟩; have n0_ := Am_ (Vl_ (Vm_ (ok' := fun k_ => k_ ≠ gb472) ho0 (fun k_ hk_ => Or.elim hk_ (fun hs_ => fun e_ => Nat.not_le.2 hs_ (by rw [e_]; exact GW472.out)) (fun hn_ => (Kd.freshB (g := gb472) (o := .cells #[.slice A0_0 l0_0.length c0_0, .int .i64 a0_1, .int .i64 a0_2] 24 (0, 0)) (by (with_reducible repeat (first | refine Bn_ ?_ _ | refine Bd_ ?_ | refine Ba_ ?_ _)); exact BK472.out) k_ hn_)))) (Bz_ (by repeat (first | (with_reducible first | exact HB.out | apply Pa_ | apply Pn_ | apply Pd_ | refine Bs_ ?_ GE472.out) | exact HB.out)))); have n1_ := Am_ (Bb_ (g := gb472) (o := .cells #[.slice A0_0 l0_0.length c0_0, .int .i64 a0_1, .int .i64 a0_2] 24 (0, 0)) (by (with_reducible repeat (first | refine Bn_ ?_ _ | refine Bd_ ?_ | refine Ba_ ?_ _)); exact BK472.out) hb); have n2_ := Am_ (Be_ (by repeat (first | (with_reducible first | exact HB.out | apply Pa_ | apply Pn_ | apply Pd_ | refine Bs_ ?_ GE472.out) | exact HB.out)) hb); clear BK472; clear HB; have HO478 := n0_; have BK472 := n1_; have HB := n2_; clear n0_ n1_ n2_; (try clear hb); (try clear hb2); (try clear hk); (try clear hi); (try clear ho0)) | ((with_reducible refine gate_dst (N := 13) rfl ?_); (try (refine gate_guard (by rfl) ?_; dsimp only)); refine box_event ?hg (N := 13) ?hd (cs := #[.slice none 0 0, .int .i64 0, .int .i64 0]) (t := 24) ?hr ?_; (case hd => rfl); (case hg => rfl); (case hr => first | (go_simp; done) | (go_simp; rfl)); intro gb482 hg w58 hbox hb; have n0_ := Am_ (Vb_ (Ke_ (by (with_reducible repeat (first | apply Va_ | apply Vn_ | apply Vd_)); exact HO478.out) gb482 (Nat.le_of_eq hg.symm)) hb); have n1_ := Am_ (Bb_ (g := gb472) (o := .cells #[.slice A0_0 l0_0.length c0_0, .int .i64 a0_1, .int .i64 a0_2] 24 (0, 0)) (by (with_reducible repeat (first | refine Bn_ ?_ _ | refine Bd_ ?_ | refine Ba_ ?_ _)); exact BK472.out) hb); have n2_ := Am_ (Be_ (by repeat (first | (with_reducible first | exact HB.out | apply Pa_ | apply Pn_ | apply Pd_ | refine Bs_ ?_ GE472.out) | exact HB.out)) hb); have n3_ := Am_ (hbox); have n4_ := Am_ ((by rw [hg]; exact (Bz_ (by repeat (first | (with_reducible first | exact HB.out | apply Pa_ | apply Pn_ | apply Pd_ | refine Bs_ ?_ GE472.out) | exact HB.out))) : w.heap.size ≤ gb482)); have n5_ := Am_ ((by rw [hg]; exact (Bz_ (by repeat (first | (with_reducible first | exact HB.out | apply Pa_ | apply Pn_ | apply Pd_ | refine Bs_ ?_ GE472.out) | exact HB.out))) : w.heap.size ≤ gb482)); have n6_ := Am_ ((by rw [hg]; exact Nat.ne_of_lt (blk_lt (g := gb472) (o := .cells #[.slice A0_0 l0_0.length c0_0, .int .i64 a0_1, .int .i64 a0_2] 24 (0, 0)) (by (with_reducible repeat (first | refine Bn_ ?_ _ | refine Bd_ ?_ | refine Ba_ ?_ _)); exact BK472.out)) : gb472 ≠ gb482)); have n7_ := Am_ ((by rw [hg]; exact Nat.ne_of_gt (blk_lt (g := gb472) (o := .cells #[.slice A0_0 l0_0.length c0_0, .int .i64 a0_1, .int .i64 a0_2] 24 (0, 0)) (by (with_reducible repeat (first | refine Bn_ ?_ _ | refine Bd_ ?_ | refine Ba_ ?_ _)); exact BK472.out)) : gb482 ≠ gb472)); clear HO478; clear BK472; clear HB; have HO478 := n0_; have BK472 := n1_; have HB := n2_; have BK482 := n3_; have GW482 := n4_; have GE482 := n5_; have NB472_482 := n6_; have NB482_472 := n7_; clear n0_ n1_ n2_ n3_ n4_ n5_ n6_ n7_; clear hb hbox hg; obtain ⟨Ao59, co59, eo59⟩ := Vx_ HO478.out; subst eo59; have hnb60 := NB482_472.out; have hnc60 := NB472_482.out; have hcz61_0 : w58.cell? ⟨gb482, 0, none⟩ = some (.slice none 0 0) := (Bc_ BK482.out 0).trans rfl; have hcz61_1 : w58.cell? ⟨gb482, 1, none⟩ = some (.int .i64 0) := (Bc_ BK482.out 1).trans rfl; have hcz61_2 : w58.cell? ⟨gb482, 2, none⟩ = some (.int .i64 0) := (Bc_ BK482.out 2).trans rfl; have hfz61_0 := Bf_ BK482.out 0; have hfz61_1 := Bf_ BK482.out 1; have hfz61_2 := Bf_ BK482.out 2))
     have n0_ : Aside0 (Kd.V k59 59 (((w58.setCell ⟨gb482, 0, none⟩ (.slice Ao59 t476.length co59)).setCell ⟨gb482, 1, none⟩ (.int .i64 t479)).setCell ⟨gb482, 2, none⟩ (.int .i64 t480)) w.heap.size (fun k_ => k_ ≠ gb472 ∧ k_ ≠ gb482) (.slice Ao59 t476.length co59) t476) := ⟨by (with_reducible repeat (first | apply Va_ | apply Vn_ | apply Vd_)); exact Vm_ (Vf_ (p := ⟨gb482, 2, none⟩) (Vf_ (p := ⟨gb482, 1, none⟩) (Vf_ (p := ⟨gb482, 0, none⟩) (Vm_ HO478.out (fun k_ hk => (⟨hk, hk.2⟩ : _ ∧ k_ ≠ gb482))) (fun _ hk => hk.2) (.slice Ao59 t476.length co59)) (fun _ hk => hk.2) (.int .i64 t479)) (fun _ hk => hk.2) (.int .i64 t480)) (fun _ hk => ⟨hk.1.1, hk.1.2⟩)⟩
     have n1_ : Aside0 ((((w58.setCell ⟨gb482, 0, none⟩ (.slice Ao59 t476.length co59)).setCell ⟨gb482, 1, none⟩ (.int .i64 t479)).setCell ⟨gb482, 2, none⟩ (.int .i64 t480)).heap[gb472]? = some (.cells #[.slice A0_0 l0_0.length c0_0, .int .i64 a0_1, .int .i64 a0_2] 24 (0, 0))) := ⟨by (with_reducible repeat (first | refine Bn_ ?_ _ | refine Bd_ ?_ | refine Ba_ ?_ _)); refine blk_far ?_ NB472_482.out _; (with_reducible repeat (first | refine Bn_ ?_ _ | refine Bd_ ?_ | refine Ba_ ?_ _)); refine blk_far ?_ NB472_482.out _; (with_reducible repeat (first | refine Bn_ ?_ _ | refine Bd_ ?_ | refine Ba_ ?_ _)); refine blk_far ?_ NB472_482.out _; (with_reducible repeat (first | refine Bn_ ?_ _ | refine Bd_ ?_ | refine Ba_ ?_ _)); exact BK472.out⟩
     have n2_ : Aside0 ((((w58.setCell ⟨gb482, 0, none⟩ (.slice Ao59 t476.length co59)).setCell ⟨gb482, 1, none⟩ (.int .i64 t479)).setCell ⟨gb482, 2, none⟩ (.int .i64 t480)).heap[gb482]? = some (.cells #[.slice Ao59 t476.length co59, .int .i64 t479, .int .i64 t480] 24 (0, 0))) := ⟨by (with_reducible repeat (first | refine Bn_ ?_ _ | refine Bd_ ?_ | refine Ba_ ?_ _)); refine Bp_ (cs := #[.slice Ao59 t476.length co59, .int .i64 t479, .int .i64 0]) ?_ 2 _ rfl; (with_reducible repeat (first | refine Bn_ ?_ _ | refine Bd_ ?_ | refine Ba_ ?_ _)); refine Bp_ (cs := #[.slice Ao59 t476.length co59, .int .i64 0, .int .i64 0]) ?_ 1 _ rfl; (with_reducible repeat (first | refine Bn_ ?_ _ | refine Bd_ ?_ | refine Ba_ ?_ _)); refine Bp_ (cs := #[.slice none 0 0, .int .i64 0, .int .i64 0]) ?_ 0 _ rfl; (with_reducible repeat (first | refine Bn_ ?_ _ | refine Bd_ ?_ | refine Ba_ ?_ _)); exact BK482.out⟩
     have n3_ : Aside0 (Below w.heap.size w (((w58.setCell ⟨gb482, 0, none⟩ (.slice Ao59 t476.length co59)).setCell ⟨gb482, 1, none⟩ (.int .i64 t479)).setCell ⟨gb482, 2, none⟩ (.int .i64 t480))) := ⟨by repeat (first | (with_reducible first | exact HB.out | apply Pa_ | apply Pn_ | apply Pd_ | refine Bs_ ?_ GE472.out | refine Bs_ ?_ GE482.out) | exact HB.out)⟩
     (try clear HO478)
     (try clear BK472)
     (try clear BK482)
     (try clear HB)
     generalize (((w58.setCell ⟨gb482, 0, none⟩ (.slice Ao59 t476.length co59)).setCell ⟨gb482, 1, none⟩ (.int .i64 t479)).setCell ⟨gb482, 2, none⟩ (.int .i64 t480)) = w62 at n0_ n1_ n2_ n3_ ⊢
     have HO478 := n0_
     have BK472 := n1_
     have BK482 := n2_
     have HB := n3_
     clear n0_ n1_ n2_ n3_
     have n0_ := Am_ (Vd_ HO478.out)
     have n1_ := Am_ (Bd_ BK472.out)
     have n2_ := Am_ (Bd_ BK482.out)
     have n3_ := Am_ (Pd_ HB.out)
     clear HO478
     clear BK472
     clear BK482
     clear HB
     have HO478 := n0_
     have BK472 := n1_
     have BK482 := n2_
     have HB := n3_
     clear n0_ n1_ n2_ n3_
     refine start_ (n := 6) (S := fun w' => w'.cell? ⟨gb482, 0, none⟩ = some (.slice Ao59 t476.length co59) ∧ w'.cell? ⟨gb482, 1, none⟩ = some (.int .i64 t479) ∧ w'.cell? ⟨gb482, 2, none⟩ = some (.int .i64 t480) ∧ w'.cell? ⟨gb472, 0, none⟩ = some (.slice A0_0 l0_0.length c0_0) ∧ w'.cell? ⟨gb472, 1, none⟩ = some (.int .i64 a0_1) ∧ w'.cell? ⟨gb472, 2, none⟩ = some (.int .i64 a0_2)) (ds := []) #[f_,f_,f_,f_,f_,f_] (by kernel_rfl) rfl rfl ⟨(Bc_ BK482.out 0).trans rfl, (Bc_ BK482.out 1).trans rfl, (Bc_ BK482.out 2).trans rfl, (Bc_ BK472.out 0).trans rfl, (Bc_ BK472.out 1).trans rfl, (Bc_ BK472.out 2).trans rfl⟩ (fun hHeld => ?_)
     generalize w62.drew = w63 at HO478 BK472 BK482 HB hHeld ⊢
     refine take_ (i := 0) (N := some 44) (v := ?_) (a' := ?_) #[t_,f_,f_,f_,f_,f_] rfl rfl (by kernel_rfl) (fun _ _ _ h => h) (Or.inl ⟨by rfl, ?_⟩) hHeld ?_ ?_
     rotate_left
     ·rintro w' ⟨s0, s1, s2, s3, s4, s5⟩
      go_simp
      with_reducible rfl
     rotate_left
     ·simp only [Act.put, La_, Lb_, Lc_, i64_w, i32_w]
      rfl
     refine take_ (i := 2) (N := some 46) (v := ?_) (a' := ?_) #[t_,f_,t_,f_,f_,f_] rfl rfl (by kernel_rfl) (fun _ _ _ h => h) (Or.inl ⟨by rfl, ?_⟩) hHeld ?_ ?_
     rotate_left
     ·rintro w' ⟨s0, s1, s2, s3, s4, s5⟩
      go_simp
      with_reducible rfl
     rotate_left
     ·simp only [Act.put, La_, Lb_, Lc_, i64_w, i32_w]
      rfl
     refine one_ (i := 1) (N := some 45) #[t_,t_,t_,f_,f_,f_] rfl rfl (by kernel_rfl) (by decide) (fun K hK => ?_)
     refine goes_ Try.func13 (by kernel_rfl) rfl #[.agg #[.slice Ao59 t476.length co59, .int .i64 t479, .int .i64 t480]] (by rfl) rfl rfl (by (try simp only [List.map_toArray, List.map_cons, List.map_nil]); first | done | rfl | (simp only [List.length_drop, List.length_take]; rfl)) ?_
     with_reducible refine (flagstonelaw09_its.calls kj6 _ _ t476 t479 t480 t483 t486 t487 _ ?side1 ?side2 A53.out).mono ?_
     (case side1 => repeat (first | exact (Vr_ HO478.out).2.2 | (with_reducible refine Kd.C_alloc ?_ _) | (with_reducible refine Kd.C_drewN ?_ _) | (with_reducible refine Kd.C_drew ?_)))
     (case side2 => exact (Vr_ HO478.out).2.1)
     rintro e w64 ⟨v484, rfl, ho0, hb⟩
     refine ⟨_, rfl, ?_⟩
     have n0_ := Am_ (Kd.V_elder' (by (with_reducible repeat (first | apply Va_ | apply Vn_ | apply Vd_)); exact HO478.out) (Kd.S_base ho0) hb)
     have n1_ := Am_ (Kd.S_lower ho0 (Bz_ (by repeat (first | (with_reducible first | exact HB.out | apply Pa_ | apply Pn_ | apply Pd_ | refine Bs_ ?_ GE472.out | refine Bs_ ?_ GE482.out) | exact HB.out))))
     have n2_ := Am_ (Bb_ (g := gb472) (o := .cells #[.slice A0_0 l0_0.length c0_0, .int .i64 a0_1, .int .i64 a0_2] 24 (0, 0)) (by (with_reducible repeat (first | refine Bn_ ?_ _ | refine Bd_ ?_ | refine Ba_ ?_ _)); exact BK472.out) hb)
     have n3_ := Am_ (Bb_ (g := gb482) (o := .cells #[.slice Ao59 t476.length co59, .int .i64 t479, .int .i64 t480] 24 (0, 0)) (by (with_reducible repeat (first | refine Bn_ ?_ _ | refine Bd_ ?_ | refine Ba_ ?_ _)); exact BK482.out) hb)
     have n4_ := Am_ (Be_ (by repeat (first | (with_reducible first | exact HB.out | apply Pa_ | apply Pn_ | apply Pd_ | refine Bs_ ?_ GE472.out | refine Bs_ ?_ GE482.out) | exact HB.out)) hb)
     clear HO478
     clear BK472
     clear BK482
     clear HB
     have HO478 := n0_
     have HO485 := n1_
     have BK472 := n2_
     have BK482 := n3_
     have HB := n4_
     clear n0_ n1_ n2_ n3_ n4_
     (try clear hb)
     (try clear hb2)
     (try clear hk)
     (try clear hi)
     (try clear ho0)
     refine hK.out _ _ ⟨(Bc_ BK482.out 0).trans rfl, (Bc_ BK482.out 1).trans rfl, (Bc_ BK482.out 2).trans rfl, (Bc_ BK472.out 0).trans rfl, (Bc_ BK472.out 1).trans rfl, (Bc_ BK472.out 2).trans rfl⟩ (fun hHeld => ?_)
     clear hK K
     refine norm_ (a' := ?_) ?_ ?_
     rotate_left
     ·show Act.put _ (some 45) _ = _
      simp only [Act.put, La_, Lb_, Lc_, i64_w, i32_w]
      rfl
     refine one_ (i := 3) (N := some 47) #[t_,t_,t_,t_,f_,f_] rfl rfl (by kernel_rfl) (by decide) (fun K hK => ?_)
     refine goes_ Try.func13 (by kernel_rfl) rfl #[.agg #[.slice A0_0 l0_0.length c0_0, .int .i64 a0_1, .int .i64 a0_2]] (by rfl) rfl rfl (by (try simp only [List.map_toArray, List.map_cons, List.map_nil]); first | done | rfl | (simp only [List.length_drop, List.length_take]; rfl)) ?_
     with_reducible refine (flagstonelaw09_its.calls kj6 _ _ l0_0 a0_1 a0_2 t488 t491 t492 _ ?side1 ?side2 A54.out).mono ?_
     (case side1 => repeat (first | exact (Kd.C_below HR0_0.out HB.out) | (with_reducible refine Kd.C_alloc ?_ _) | (with_reducible refine Kd.C_drewN ?_ _) | (with_reducible refine Kd.C_drew ?_)))
     (case side2 => exact HC0_0.out)
     rintro e w65 ⟨v489, rfl, ho0, hb⟩
     refine ⟨_, rfl, ?_⟩
     have n0_ := Am_ (Kd.V_elder' (by (with_reducible repeat (first | apply Va_ | apply Vn_ | apply Vd_)); exact HO478.out) (Kd.S_base ho0) hb)
     have n1_ := Am_ (Kd.S_elder' (by (with_reducible repeat (first | apply Kd.S_alloc | apply Kd.S_drewN | apply Kd.S_drew)); exact HO485.out) (Kd.S_base ho0) hb)
     have n2_ := Am_ (Kd.S_lower (Kd.S_new' ho0 (Kd.S_lt (by (with_reducible repeat (first | apply Kd.S_alloc | apply Kd.S_drewN | apply Kd.S_drew)); exact HO485.out))) (Bz_ (by repeat (first | (with_reducible first | exact HB.out | apply Pa_ | apply Pn_ | apply Pd_ | refine Bs_ ?_ GE472.out | refine Bs_ ?_ GE482.out) | exact HB.out))))
     have n3_ := Am_ (Bb_ (g := gb472) (o := .cells #[.slice A0_0 l0_0.length c0_0, .int .i64 a0_1, .int .i64 a0_2] 24 (0, 0)) (by (with_reducible repeat (first | refine Bn_ ?_ _ | refine Bd_ ?_ | refine Ba_ ?_ _)); exact BK472.out) hb)
     have n4_ := Am_ (Bb_ (g := gb482) (o := .cells #[.slice Ao59 t476.length co59, .int .i64 t479, .int .i64 t480] 24 (0, 0)) (by (with_reducible repeat (first | refine Bn_ ?_ _ | refine Bd_ ?_ | refine Ba_ ?_ _)); exact BK482.out) hb)
     have n5_ := Am_ (Be_ (by repeat (first | (with_reducible first | exact HB.out | apply Pa_ | apply Pn_ | apply Pd_ | refine Bs_ ?_ GE472.out | refine Bs_ ?_ GE482.out) | exact HB.out)) hb)
     clear HO478
     clear HO485
     clear BK472
     clear BK482
     clear HB
     have HO478 := n0_
     have HO485 := n1_
     have HO490 := n2_
     have BK472 := n3_
     have BK482 := n4_
     have HB := n5_
     clear n0_ n1_ n2_ n3_ n4_ n5_
     (try clear hb)
     (try clear hb2)
     (try clear hk)
     (try clear hi)
     (try clear ho0)
     obtain ⟨Ao66, co66, eo66⟩ := Kd.S_slice HO485.out
     (first | subst eo66 | (injection eo66 with f1_ f2_ f3_; have f4_ := f1_.symm; have f5_ := f3_.symm; clear f1_ f2_ f3_; subst f4_; subst f5_))
     obtain ⟨Ao67, co67, eo67⟩ := Kd.S_slice HO490.out
     (first | subst eo67 | (injection eo67 with f1_ f2_ f3_; have f4_ := f1_.symm; have f5_ := f3_.symm; clear f1_ f2_ f3_; subst f4_; subst f5_))
     refine hK.out _ _ ⟨(Bc_ BK482.out 0).trans rfl, (Bc_ BK482.out 1).trans rfl, (Bc_ BK482.out 2).trans rfl, (Bc_ BK472.out 0).trans rfl, (Bc_ BK472.out 1).trans rfl, (Bc_ BK472.out 2).trans rfl⟩ (fun hHeld => ?_)
     clear hK K
     refine norm_ (a' := ?_) ?_ ?_
     rotate_left
     ·show Act.put _ (some 47) _ = _
      simp only [Act.put, La_, Lb_, Lc_, i64_w, i32_w]
      rfl
     refine one_ (i := 4) (N := some 48) #[t_,t_,t_,t_,t_,f_] rfl rfl (by kernel_rfl) (by decide) (fun K hK => ?_)
     refine goes_ Try.func20 (by kernel_rfl) rfl #[.agg #[.slice Ao66 t483.length co66, .int .i64 t486, .int .i64 t487], .agg #[.slice Ao67 t488.length co67, .int .i64 t491, .int .i64 t492]] (by rfl) rfl rfl (by (try simp only [List.map_toArray, List.map_cons, List.map_nil]); first | done | rfl | (simp only [List.length_drop, List.length_take]; rfl)) ?_
     with_reducible refine (flagstoneref06_Same.calls kj6 _ _ t483 t486 t487 _ _ t488 t491 t492 t493 _ ?side1 ?side2 ?side3 ?side4 A55.out).mono ?_
     (case side1 => repeat (first | exact (Kd.S_reads' HO485.out).2.2 | (with_reducible refine Kd.C_alloc ?_ _) | (with_reducible refine Kd.C_drewN ?_ _) | (with_reducible refine Kd.C_drew ?_)))
     (case side2 => exact (Kd.S_reads' HO485.out).2.1)
     (case side3 => repeat (first | exact (Kd.S_reads' HO490.out).2.2 | (with_reducible refine Kd.C_alloc ?_ _) | (with_reducible refine Kd.C_drewN ?_ _) | (with_reducible refine Kd.C_drew ?_)))
     (case side4 => exact (Kd.S_reads' HO490.out).2.1)
     rintro e w68 ⟨rfl, hb⟩
     refine ⟨_, rfl, ?_⟩
     have n0_ := Am_ (Vb_ (by (with_reducible repeat (first | apply Va_ | apply Vn_ | apply Vd_)); exact HO478.out) hb)
     have n1_ := Am_ (Kd.S_below (by (with_reducible repeat (first | apply Kd.S_alloc | apply Kd.S_drewN | apply Kd.S_drew)); exact HO485.out) hb)
     have n2_ := Am_ (Kd.S_below (by (with_reducible repeat (first | apply Kd.S_alloc | apply Kd.S_drewN | apply Kd.S_drew)); exact HO490.out) hb)
     have n3_ := Am_ (Bb_ (g := gb472) (o := .cells #[.slice A0_0 l0_0.length c0_0, .int .i64 a0_1, .int .i64 a0_2] 24 (0, 0)) (by (with_reducible repeat (first | refine Bn_ ?_ _ | refine Bd_ ?_ | refine Ba_ ?_ _)); exact BK472.out) hb)
     have n4_ := Am_ (Bb_ (g := gb482) (o := .cells #[.slice Ao59 t476.length co59, .int .i64 t479, .int .i64 t480] 24 (0, 0)) (by (with_reducible repeat (first | refine Bn_ ?_ _ | refine Bd_ ?_ | refine Ba_ ?_ _)); exact BK482.out) hb)
     have n5_ := Am_ (Be_ (by repeat (first | (with_reducible first | exact HB.out | apply Pa_ | apply Pn_ | apply Pd_ | refine Bs_ ?_ GE472.out | refine Bs_ ?_ GE482.out) | exact HB.out)) hb)
     clear HO478
     clear HO485
     clear HO490
     clear BK472
     clear BK482
     clear HB
     have HO478 := n0_
     have HO485 := n1_
     have HO490 := n2_
     have BK472 := n3_
     have BK482 := n4_
     have HB := n5_
     clear n0_ n1_ n2_ n3_ n4_ n5_
     (try clear hb)
     (try clear hb2)
     (try clear hk)
     (try clear hi)
     refine hK.out _ _ ⟨(Bc_ BK482.out 0).trans rfl, (Bc_ BK482.out 1).trans rfl, (Bc_ BK482.out 2).trans rfl, (Bc_ BK472.out 0).trans rfl, (Bc_ BK472.out 1).trans rfl, (Bc_ BK472.out 2).trans rfl⟩ (fun hHeld => ?_)
     clear hK K
     refine norm_ (a' := ?_) ?_ ?_
     rotate_left
     ·show Act.put _ (some 48) _ = _
      simp only [Act.put, La_, Lb_, Lc_, i64_w, i32_w]
      rfl
     refine pure_ (i := 5) (N := some 12) (v := ?_) (a' := ?_) #[t_,t_,t_,t_,t_,t_] rfl rfl (by kernel_rfl) (fun _ _ _ h => h) (Or.inl ⟨by rfl, ?_⟩) ?_ ?_
     rotate_left
     ·intro w'
      go_simp
      with_reducible rfl
     rotate_left
     ·simp only [Act.put, La_, Lb_, Lc_, i64_w, i32_w]
      rfl
     refine done_ (by kernel_rfl) ?_
     try go_wp2
     go_ret
     exact ⟨by first | rfl | (simp [errW_none, errW_some] <;> rfl) | (simp [*, errW_none, errW_some] <;> rfl), by repeat (first | (with_reducible first | exact HB.out | apply Pa_ | apply Pn_ | apply Pd_ | refine Bs_ ?_ GE472.out | refine Bs_ ?_ GE482.out) | exact HB.out)⟩

end Go.Proofs.Ytpeelfambaedkaa.P
