-- Printed by a program of this session (inject.py) over the kit's print, with functions that were proved by hand in their places.
import Derived.Test.YtpeelfambaedkaaPK
import Derived.Test.YtpeelfambaedkaaPlaw09small
import Derived.Test.YtpeelfambaedkaaPcontentRead
import Derived.Test.YtpeelfambaedkaaPcontentSize
import Derived.Test.YtpeelfambaedkaaPlaw09shown
import Derived.Test.YtpeelfambaedkaaPref09Read
import Derived.Test.YtpeelfambaedkaaPlaw09its
import Derived.Test.YtpeelfambaedkaaPref09Size
namespace Go.Proofs.Ytpeelfambaedkaa.P
open Go.RowKit Go.Proofs.YtpeelfambaedkaaW.PrintWords Go.Proofs.YtpeelfambaedkaaW.PrintLast Go.Proofs.YtpeelfambaedkaaW.PrintMore
attribute [local go_sem] max2_int min2_int max_two min_two max_three min_three max_four min_four   -- for this text's walks alone
set_option linter.unusedVariables false
set_option linter.unusedSimpArgs false

/-! ### flagstonelaw09_ContentReads: function 3 -/
def flagstonelaw09_ContentReads.j0 : Nat → Int → Int → Int → Bool → List (S59) → Int → Int → Option (Bool)
 | 0, _, _, _, _, _, _, _ => none
 | k + 1, x1, x2, x3, x23, x244000, x244001, x244002 => if x23 = true then ((flagstonelaw09_shown.f).bind fun t246 => (some t246)) else ((content_Read.f x244000 x244001 x244002 x1 x2 x3).bind fun bt247 => ((flagstonelaw09_its.f k x244000 x244001 x244002).bind fun bt249 => ((flagstoneref09_Read.f k bt249.1 bt249.2.1 bt249.2.2 x1 x2 x3).bind fun bt254 => ((content_Size.f x244000 x244001 x244002 x1).bind fun bt256 => ((flagstonelaw09_its.f k x244000 x244001 x244002).bind fun bt258 => ((flagstoneref09_Size.f bt258.1 bt258.2.1 bt258.2.2 x1).bind fun bt263 => (if bt247.1.toList = bt254.1.toList then (if bt247.2 = bt254.2 then (if bt256.1 = bt263.1 then (some (bt256.2 == bt263.2)) else (none)) else (none)) else (none))))))))
def flagstonelaw09_ContentReads.f (k : Nat) (l0_0 : List (S59)) (a0_1 : Int) (a0_2 : Int) (a1 : Int) (a2 : Int) (a3 : Int) : Option (Bool) := (flagstonelaw09_small.f k l0_0 a0_1 a0_2).bind fun t244 => (if t244 = true then ((flagstonelaw09_shown.f).bind fun t245 => (flagstonelaw09_ContentReads.j0 k a1 a2 a3 (!t245) l0_0 a0_1 a0_2)) else (flagstonelaw09_ContentReads.j0 k a1 a2 a3 true l0_0 a0_1 a0_2))
theorem flagstonelaw09_ContentReads.mono_l : ∀ k, (∀ y0 y1 y2 y3 y4 y5 y6, LeO (flagstonelaw09_ContentReads.j0 k y0 y1 y2 y3 y4 y5 y6) (flagstonelaw09_ContentReads.j0 (k + 1) y0 y1 y2 y3 y4 y5 y6))
 | 0 => fun _ _ _ _ _ _ _ r h => by simp [flagstonelaw09_ContentReads.j0] at h
 | k + 1 => by
  have ih0 := flagstonelaw09_ContentReads.mono_l k
  ·intro y0 y1 y2 y3 y4 y5 y6
   unfold flagstonelaw09_ContentReads.j0
   repeat' first
   | (with_reducible exact ih0 _ _ _ _ _ _ _)
   | (with_reducible exact flagstonelaw09_its.mono _ _ _ _)
   | (with_reducible exact flagstonelaw09_small.mono _ _ _ _)
   | (with_reducible exact flagstoneref09_Read.mono _ _ _ _ _ _ _)
   | (with_reducible exact LeO.refl _)
   | (with_reducible exact LeO.none _)
   | (with_reducible refine LeO.ite ?_ ?_)
   | (with_reducible refine LeO.bind ?_ (fun _ => ?_))
   | exact ih0 _ _ _ _ _ _ _
   | exact flagstonelaw09_its.mono _ _ _ _
   | exact flagstonelaw09_small.mono _ _ _ _
   | exact flagstoneref09_Read.mono _ _ _ _ _ _ _
   | exact LeO.none _
   | refine LeO.ite ?_ ?_
   | refine LeO.bind ?_ (fun _ => ?_)
theorem flagstonelaw09_ContentReads.mono : ∀ a0 a1 a2 a3 a4 a5 k, LeO (flagstonelaw09_ContentReads.f k a0 a1 a2 a3 a4 a5) (flagstonelaw09_ContentReads.f (k + 1) a0 a1 a2 a3 a4 a5) := by
 intro a0 a1 a2 a3 a4 a5 k
 have ih0 := flagstonelaw09_ContentReads.mono_l k
 unfold flagstonelaw09_ContentReads.f
 repeat' first
   | (with_reducible exact ih0 _ _ _ _ _ _ _)
   | (with_reducible exact flagstonelaw09_its.mono _ _ _ _)
   | (with_reducible exact flagstonelaw09_small.mono _ _ _ _)
   | (with_reducible exact flagstoneref09_Read.mono _ _ _ _ _ _ _)
   | (with_reducible exact LeO.refl _)
   | (with_reducible exact LeO.none _)
   | (with_reducible refine LeO.ite ?_ ?_)
   | (with_reducible refine LeO.bind ?_ (fun _ => ?_))
   | exact ih0 _ _ _ _ _ _ _
   | exact flagstonelaw09_its.mono _ _ _ _
   | exact flagstonelaw09_small.mono _ _ _ _
   | exact flagstoneref09_Read.mono _ _ _ _ _ _ _
   | exact LeO.none _
   | refine LeO.ite ?_ ?_
   | refine LeO.bind ?_ (fun _ => ?_)
set_option maxHeartbeats 8000000 in
set_option maxRecDepth 100000 in
theorem flagstonelaw09_ContentReads.calls (k : Nat) (A0_0 : Option Addr) (c0_0 : Nat) (l0_0 : List (S59)) (a0_1 : Int) (a0_2 : Int) (a1 : Int) (a2 : Int) (a3 : Int) (r : Bool) (w : World) (hr0_0 : Kd.C k59 w A0_0 l0_0.length l0_0) (hc0_0 : l0_0.length ≤ c0_0) (h : flagstonelaw09_ContentReads.f k l0_0 a0_1 a0_2 a1 a2 a3 = some r) :
  Calls Try.prog 3 #[.agg #[.slice A0_0 l0_0.length c0_0, .int .i64 a0_1, .int .i64 a0_2], .int .i64 a1, .int .i64 a2, .int .i64 a3] w fun e w' => e = .returned (.bool r) ∧ Below w.heap.size w w' := by
 have hu24 := Try.underlying24
 have HR0_0 := Am_ hr0_0
 have HC0_0 := Am_ hc0_0
 clear hr0_0 hc0_0
 have HB := Am_ (Below.refl w.heap.size w)
 have H : ((flagstonelaw09_small.f k l0_0 a0_1 a0_2).bind fun t244 => (if t244 = true then ((flagstonelaw09_shown.f).bind fun t245 => (flagstonelaw09_ContentReads.j0 k a1 a2 a3 (!t245) l0_0 a0_1 a0_2)) else (flagstonelaw09_ContentReads.j0 k a1 a2 a3 true l0_0 a0_1 a0_2))) = some r := h
 clear h
 have HC5 := Am_ H
 clear H
 go_enter Try.func3, Try.ntmps3
 go_upto_region 1 with (first | ((with_reducible refine gate_dst (N := 4) rfl ?_); refine box_event ?hg (N := 4) ?hd (cs := #[.slice A0_0 l0_0.length c0_0, .int .i64 a0_1, .int .i64 a0_2]) (t := 24) ?hr ?_; (case hd => rfl); (case hg => rfl); (case hr => first | (go_simp; done) | (go_simp; rfl)); intro gb243 hg w6 hbox hb; have n0_ := Am_ (Be_ (by repeat (first | (with_reducible first | exact HB.out | apply Pa_ | apply Pn_ | apply Pd_) | exact HB.out)) hb); have n1_ := Am_ (hbox); have n2_ := Am_ ((by rw [hg]; exact (Bz_ (by repeat (first | (with_reducible first | exact HB.out | apply Pa_ | apply Pn_ | apply Pd_) | exact HB.out))) : w.heap.size ≤ gb243)); have n3_ := Am_ ((by rw [hg]; exact (Bz_ (by repeat (first | (with_reducible first | exact HB.out | apply Pa_ | apply Pn_ | apply Pd_) | exact HB.out))) : w.heap.size ≤ gb243)); clear HB; have HB := n0_; have BK243 := n1_; have GW243 := n2_; have GE243 := n3_; clear n0_ n1_ n2_ n3_; clear hb hbox hg))
 (try simp only [Act.put, La_, Lb_, Lc_])
 go_cut [23] (fun v23 wc => ∃ (kq : Nat) (x23_4 : Bool), v23 = .bool x23_4 ∧ Aside0 (flagstonelaw09_ContentReads.j0 kq a1 a2 a3 x23_4 l0_0 a0_1 a0_2 = some r) ∧ Aside0 (kq ≤ k) ∧ Aside0 (wc.heap[gb243]? = some (.cells #[(.slice A0_0 l0_0.length c0_0), .int .i64 a0_1, .int .i64 a0_2] 24 (0, 0))) ∧ Aside0 (Below w.heap.size w wc))
 case first =>
  have H := HC5.out
  clear HC5
  replace H := Option.bind_eq_some_iff.mp H
  obtain ⟨t244, A70, H⟩ := H
  replace H : (if t244 = true then ((flagstonelaw09_shown.f).bind fun t245 => (flagstonelaw09_ContentReads.j0 k a1 a2 a3 (!t245) l0_0 a0_1 a0_2)) else (flagstonelaw09_ContentReads.j0 k a1 a2 a3 true l0_0 a0_1 a0_2)) = some r := H
  have A7 := Am_ A70
  clear A70
  by_cases c8 : t244 = true
  ·subst c8
   have H1 : ((flagstonelaw09_shown.f).bind fun t245 => (flagstonelaw09_ContentReads.j0 k a1 a2 a3 (!t245) l0_0 a0_1 a0_2)) = some r := by rw [if_pos rfl] at H; exact H
   clear H
   have H := H1
   clear H1
   replace H := Option.bind_eq_some_iff.mp H
   obtain ⟨t245, A90, H⟩ := H
   replace H : (flagstonelaw09_ContentReads.j0 k a1 a2 a3 (!t245) l0_0 a0_1 a0_2) = some r := H
   have A9 := Am_ A90
   clear A90
   have H' := Am_ H
   clear H
   have hcz10_0 : w6.cell? ⟨gb243, 0, none⟩ = some (.slice A0_0 l0_0.length c0_0) := (Bc_ BK243.out 0).trans rfl
   have hcz10_1 : w6.cell? ⟨gb243, 1, none⟩ = some (.int .i64 a0_1) := (Bc_ BK243.out 1).trans rfl
   have hcz10_2 : w6.cell? ⟨gb243, 2, none⟩ = some (.int .i64 a0_2) := (Bc_ BK243.out 2).trans rfl
   have hfz10_0 := Bf_ BK243.out 0
   have hfz10_1 := Bf_ BK243.out 1
   have hfz10_2 := Bf_ BK243.out 2
   go_wp2_with (first | ((with_reducible refine gate_callee (f := 9) rfl ?_); refine goesL_ (some 18) rfl rfl Try.func9 (by kernel_rfl) rfl #[.agg #[.slice A0_0 l0_0.length c0_0, .int .i64 a0_1, .int .i64 a0_2]] rfl (by (try simp only [List.map_toArray, List.map_cons, List.map_nil]); first | done | rfl | (simp only [List.length_drop, List.length_take]; rfl)) ?_; (with_reducible refine (flagstonelaw09_small.calls k _ _ l0_0 a0_1 a0_2 true _ ?side1 ?side2 A7.out).mono ?_); (case side1 => repeat (first | exact (Kd.C_below HR0_0.out HB.out) | (with_reducible refine Kd.C_alloc ?_ _) | (with_reducible refine Kd.C_drewN ?_ _) | (with_reducible refine Kd.C_drew ?_))); (case side2 => exact HC0_0.out); rintro e w11 ⟨rfl, hb⟩; refine ⟨_, rfl, ?_⟩; have n0_ := Am_ (Bb_ (g := gb243) (o := .cells #[.slice A0_0 l0_0.length c0_0, .int .i64 a0_1, .int .i64 a0_2] 24 (0, 0)) (by (with_reducible repeat (first | refine Bn_ ?_ _ | refine Bd_ ?_ | refine Ba_ ?_ _)); exact BK243.out) hb); have n1_ := Am_ (Be_ (by repeat (first | (with_reducible first | exact HB.out | apply Pa_ | apply Pn_ | apply Pd_ | refine Bs_ ?_ GE243.out) | exact HB.out)) hb); clear BK243; clear HB; have BK243 := n0_; have HB := n1_; clear n0_ n1_; (try clear hb); (try clear hb2); (try clear hk); (try clear hi)) | (go_at_call 10; (with_reducible refine (flagstonelaw09_shown.calls  t245 _ A9.out).mono ?_); rintro e w12 ⟨rfl, hb⟩; have n0_ := Am_ (Bb_ (g := gb243) (o := .cells #[.slice A0_0 l0_0.length c0_0, .int .i64 a0_1, .int .i64 a0_2] 24 (0, 0)) (by (with_reducible repeat (first | refine Bn_ ?_ _ | refine Bd_ ?_ | refine Ba_ ?_ _)); exact BK243.out) hb); have n1_ := Am_ (Be_ (by repeat (first | (with_reducible first | exact HB.out | apply Pa_ | apply Pn_ | apply Pd_ | refine Bs_ ?_ GE243.out) | exact HB.out)) hb); clear BK243; clear HB; have BK243 := n0_; have HB := n1_; clear n0_ n1_; (try clear hb); (try clear hb2); (try clear hk); (try clear hi)))
   go_meet
   case rel => exact ⟨_, (!t245), (by first | rfl | (simp; done) | (simp [*]; done)), H', ⟨by first | omega | exact Nat.le_refl _⟩, ⟨by (with_reducible repeat (first | refine Bn_ ?_ _ | refine Bd_ ?_ | refine Ba_ ?_ _)); exact BK243.out⟩, ⟨by repeat (first | (with_reducible first | exact HB.out | apply Pa_ | apply Pn_ | apply Pd_ | refine Bs_ ?_ GE243.out) | exact HB.out)⟩⟩
  ·replace c8 := Bool.eq_false_iff.mpr c8
   subst c8
   have H1 : (flagstonelaw09_ContentReads.j0 k a1 a2 a3 true l0_0 a0_1 a0_2) = some r := by rw [if_neg (show ¬ (false = true) by decide)] at H; exact H
   clear H
   have H := H1
   clear H1
   have H' := Am_ H
   clear H
   have hcz13_0 : w6.cell? ⟨gb243, 0, none⟩ = some (.slice A0_0 l0_0.length c0_0) := (Bc_ BK243.out 0).trans rfl
   have hcz13_1 : w6.cell? ⟨gb243, 1, none⟩ = some (.int .i64 a0_1) := (Bc_ BK243.out 1).trans rfl
   have hcz13_2 : w6.cell? ⟨gb243, 2, none⟩ = some (.int .i64 a0_2) := (Bc_ BK243.out 2).trans rfl
   have hfz13_0 := Bf_ BK243.out 0
   have hfz13_1 := Bf_ BK243.out 1
   have hfz13_2 := Bf_ BK243.out 2
   go_wp2_with (first | ((with_reducible refine gate_callee (f := 9) rfl ?_); refine goesL_ (some 18) rfl rfl Try.func9 (by kernel_rfl) rfl #[.agg #[.slice A0_0 l0_0.length c0_0, .int .i64 a0_1, .int .i64 a0_2]] rfl (by (try simp only [List.map_toArray, List.map_cons, List.map_nil]); first | done | rfl | (simp only [List.length_drop, List.length_take]; rfl)) ?_; (with_reducible refine (flagstonelaw09_small.calls k _ _ l0_0 a0_1 a0_2 false _ ?side1 ?side2 A7.out).mono ?_); (case side1 => repeat (first | exact (Kd.C_below HR0_0.out HB.out) | (with_reducible refine Kd.C_alloc ?_ _) | (with_reducible refine Kd.C_drewN ?_ _) | (with_reducible refine Kd.C_drew ?_))); (case side2 => exact HC0_0.out); rintro e w14 ⟨rfl, hb⟩; refine ⟨_, rfl, ?_⟩; have n0_ := Am_ (Bb_ (g := gb243) (o := .cells #[.slice A0_0 l0_0.length c0_0, .int .i64 a0_1, .int .i64 a0_2] 24 (0, 0)) (by (with_reducible repeat (first | refine Bn_ ?_ _ | refine Bd_ ?_ | refine Ba_ ?_ _)); exact BK243.out) hb); have n1_ := Am_ (Be_ (by repeat (first | (with_reducible first | exact HB.out | apply Pa_ | apply Pn_ | apply Pd_ | refine Bs_ ?_ GE243.out) | exact HB.out)) hb); clear BK243; clear HB; have BK243 := n0_; have HB := n1_; clear n0_ n1_; (try clear hb); (try clear hb2); (try clear hk); (try clear hi)))
   go_meet
   case rel => exact ⟨_, (true), (by first | rfl | (simp; done) | (simp [*]; done)), H', ⟨by first | omega | exact Nat.le_refl _⟩, ⟨by (with_reducible repeat (first | refine Bn_ ?_ _ | refine Bd_ ?_ | refine Ba_ ?_ _)); exact BK243.out⟩, ⟨by repeat (first | (with_reducible first | exact HB.out | apply Pa_ | apply Pn_ | apply Pd_ | refine Bs_ ?_ GE243.out) | exact HB.out)⟩⟩
 case rest =>
  clear HC5
  try clear p2
  try clear c3
  try clear c8
  try clear c9
  try clear hcz10_0
  try clear hcz10_1
  try clear hcz10_2
  try clear hcz13_0
  try clear hcz13_1
  try clear hcz13_2
  try clear hfz10_0
  try clear hfz10_1
  try clear hfz10_2
  try clear hfz13_0
  try clear hfz13_1
  try clear hfz13_2
  obtain ⟨kq, x23_4, rfl, HA, HJ4, BK243, HB⟩ := hcut
  cases kq with
  | zero => exact absurd HA.out (by simp [flagstonelaw09_ContentReads.j0])
  | succ kj4 =>
   have H := HA.out
   clear HA
   simp only [flagstonelaw09_ContentReads.j0] at H
   by_cases c15 : x23_4 = true
   ·subst c15
    have H1 : ((flagstonelaw09_shown.f).bind fun t246 => (some t246)) = some r := by rw [if_pos rfl] at H; exact H
    clear H
    have H := H1
    clear H1
    replace H := Option.bind_eq_some_iff.mp H
    obtain ⟨t246, A160, H⟩ := H
    replace H : (some t246) = some r := H
    have A16 := Am_ A160
    clear A160
    obtain rfl := Option.some.inj H
    go_wp2_with (first | ((with_reducible refine gate_callee (f := 10) rfl ?_); refine goesL_ (some 24) rfl rfl Try.func10 (by kernel_rfl) rfl #[] rfl (by (try simp only [List.map_toArray, List.map_cons, List.map_nil]); first | done | rfl | (simp only [List.length_drop, List.length_take]; rfl)) ?_; (with_reducible refine (flagstonelaw09_shown.calls  t246 _ A16.out).mono ?_); rintro e w17 ⟨rfl, hb⟩; refine ⟨_, rfl, ?_⟩; have n0_ := Am_ (Bb_ (g := gb243) (o := .cells #[.slice A0_0 l0_0.length c0_0, .int .i64 a0_1, .int .i64 a0_2] 24 (0, 0)) (by (with_reducible repeat (first | refine Bn_ ?_ _ | refine Bd_ ?_ | refine Ba_ ?_ _)); exact BK243.out) hb); have n1_ := Am_ (Be_ (by repeat (first | (with_reducible first | exact HB.out | apply Pa_ | apply Pn_ | apply Pd_ | refine Bs_ ?_ GE243.out) | exact HB.out)) hb); clear BK243; clear HB; have BK243 := n0_; have HB := n1_; clear n0_ n1_; (try clear hb); (try clear hb2); (try clear hk); (try clear hi)))
    go_ret
    exact ⟨by first | rfl | (simp [errW_none, errW_some] <;> rfl) | (simp [*, errW_none, errW_some] <;> rfl), by repeat (first | (with_reducible first | exact HB.out | apply Pa_ | apply Pn_ | apply Pd_ | refine Bs_ ?_ GE243.out) | exact HB.out)⟩
   ·replace c15 := Bool.eq_false_iff.mpr c15
    subst c15
    have H1 : ((content_Read.f l0_0 a0_1 a0_2 a1 a2 a3).bind fun bt247 => ((flagstonelaw09_its.f kj4 l0_0 a0_1 a0_2).bind fun bt249 => ((flagstoneref09_Read.f kj4 bt249.1 bt249.2.1 bt249.2.2 a1 a2 a3).bind fun bt254 => ((content_Size.f l0_0 a0_1 a0_2 a1).bind fun bt256 => ((flagstonelaw09_its.f kj4 l0_0 a0_1 a0_2).bind fun bt258 => ((flagstoneref09_Size.f bt258.1 bt258.2.1 bt258.2.2 a1).bind fun bt263 => (if bt247.1.toList = bt254.1.toList then (if bt247.2 = bt254.2 then (if bt256.1 = bt263.1 then (some (bt256.2 == bt263.2)) else (none)) else (none)) else (none)))))))) = some r := by rw [if_neg (show ¬ (false = true) by decide)] at H; exact H
    clear H
    have H := H1
    clear H1
    replace H := Option.bind_eq_some_iff.mp H
    obtain ⟨⟨t247, t248⟩, A180, H⟩ := H
    replace H : ((flagstonelaw09_its.f kj4 l0_0 a0_1 a0_2).bind fun bt249 => ((flagstoneref09_Read.f kj4 bt249.1 bt249.2.1 bt249.2.2 a1 a2 a3).bind fun bt254 => ((content_Size.f l0_0 a0_1 a0_2 a1).bind fun bt256 => ((flagstonelaw09_its.f kj4 l0_0 a0_1 a0_2).bind fun bt258 => ((flagstoneref09_Size.f bt258.1 bt258.2.1 bt258.2.2 a1).bind fun bt263 => (if t247.toList = bt254.1.toList then (if t248 = bt254.2 then (if bt256.1 = bt263.1 then (some (bt256.2 == bt263.2)) else (none)) else (none)) else (none))))))) = some r := H
    have A18 := Am_ A180
    clear A180
    replace H := Option.bind_eq_some_iff.mp H
    obtain ⟨⟨t249, t252, t253⟩, A190, H⟩ := H
    replace H : ((flagstoneref09_Read.f kj4 t249 t252 t253 a1 a2 a3).bind fun bt254 => ((content_Size.f l0_0 a0_1 a0_2 a1).bind fun bt256 => ((flagstonelaw09_its.f kj4 l0_0 a0_1 a0_2).bind fun bt258 => ((flagstoneref09_Size.f bt258.1 bt258.2.1 bt258.2.2 a1).bind fun bt263 => (if t247.toList = bt254.1.toList then (if t248 = bt254.2 then (if bt256.1 = bt263.1 then (some (bt256.2 == bt263.2)) else (none)) else (none)) else (none)))))) = some r := H
    have A19 := Am_ A190
    clear A190
    replace H := Option.bind_eq_some_iff.mp H
    obtain ⟨⟨t254, t255⟩, A200, H⟩ := H
    replace H : ((content_Size.f l0_0 a0_1 a0_2 a1).bind fun bt256 => ((flagstonelaw09_its.f kj4 l0_0 a0_1 a0_2).bind fun bt258 => ((flagstoneref09_Size.f bt258.1 bt258.2.1 bt258.2.2 a1).bind fun bt263 => (if t247.toList = t254.toList then (if t248 = t255 then (if bt256.1 = bt263.1 then (some (bt256.2 == bt263.2)) else (none)) else (none)) else (none))))) = some r := H
    have A20 := Am_ A200
    clear A200
    replace H := Option.bind_eq_some_iff.mp H
    obtain ⟨⟨t256, t257⟩, A210, H⟩ := H
    replace H : ((flagstonelaw09_its.f kj4 l0_0 a0_1 a0_2).bind fun bt258 => ((flagstoneref09_Size.f bt258.1 bt258.2.1 bt258.2.2 a1).bind fun bt263 => (if t247.toList = t254.toList then (if t248 = t255 then (if t256 = bt263.1 then (some (t257 == bt263.2)) else (none)) else (none)) else (none)))) = some r := H
    have A21 := Am_ A210
    clear A210
    replace H := Option.bind_eq_some_iff.mp H
    obtain ⟨⟨t258, t261, t262⟩, A220, H⟩ := H
    replace H : ((flagstoneref09_Size.f t258 t261 t262 a1).bind fun bt263 => (if t247.toList = t254.toList then (if t248 = t255 then (if t256 = bt263.1 then (some (t257 == bt263.2)) else (none)) else (none)) else (none))) = some r := H
    have A22 := Am_ A220
    clear A220
    replace H := Option.bind_eq_some_iff.mp H
    obtain ⟨⟨t263, t264⟩, A230, H⟩ := H
    replace H : (if t247.toList = t254.toList then (if t248 = t255 then (if t256 = t263 then (some (t257 == t264)) else (none)) else (none)) else (none)) = some r := H
    have A23 := Am_ A230
    clear A230
    by_cases c24 : t247.toList = t254.toList
    ·rw [if_pos c24] at H
     have c24b0 : (t247.toList == t254.toList) = true := beq_iff_eq.mpr c24
     have c24b1 : (t247.toList != t254.toList) = false := bne_eq_false_iff_eq.mpr c24
     clear c24
     by_cases c25 : t248 = t255
     ·rw [if_pos c25] at H
      have c25b0 : (t248 == t255) = true := beq_iff_eq.mpr c25
      have c25b1 : (t248 != t255) = false := bne_eq_false_iff_eq.mpr c25
      clear c25
      by_cases c26 : t256 = t263
      ·rw [if_pos c26] at H
       have c26b0 : (t256 == t263) = true := beq_iff_eq.mpr c26
       have c26b1 : (t256 != t263) = false := bne_eq_false_iff_eq.mpr c26
       clear c26
       obtain rfl := Option.some.inj H
       have hcz27_0 : wc.cell? ⟨gb243, 0, none⟩ = some (.slice A0_0 l0_0.length c0_0) := (Bc_ BK243.out 0).trans rfl
       have hcz27_1 : wc.cell? ⟨gb243, 1, none⟩ = some (.int .i64 a0_1) := (Bc_ BK243.out 1).trans rfl
       have hcz27_2 : wc.cell? ⟨gb243, 2, none⟩ = some (.int .i64 a0_2) := (Bc_ BK243.out 2).trans rfl
       have hfz27_0 := Bf_ BK243.out 0
       have hfz27_1 := Bf_ BK243.out 1
       have hfz27_2 := Bf_ BK243.out 2
       go_wp2_with (first | ((with_reducible refine gate_callee (f := 11) rfl ?_); refine goesL_ (some 30) rfl rfl Try.func11 (by kernel_rfl) rfl #[.agg #[.slice A0_0 l0_0.length c0_0, .int .i64 a0_1, .int .i64 a0_2], .int .i64 a1, .int .i64 a2, .int .i64 a3] rfl (by (try simp only [List.map_toArray, List.map_cons, List.map_nil]); first | done | rfl | (simp only [List.length_drop, List.length_take]; rfl)) ?_; (with_reducible refine (content_Read.calls _ _ l0_0 a0_1 a0_2 a1 a2 a3 t247 t248 _ ?side1 ?side2 A18.out).mono ?_); (case side1 => repeat (first | exact (Kd.C_below HR0_0.out HB.out) | (with_reducible refine Kd.C_alloc ?_ _) | (with_reducible refine Kd.C_drewN ?_ _) | (with_reducible refine Kd.C_drew ?_))); (case side2 => exact HC0_0.out); rintro e w28 ⟨rfl, hb⟩; refine ⟨_, rfl, ?_⟩; have n0_ := Am_ (Bb_ (g := gb243) (o := .cells #[.slice A0_0 l0_0.length c0_0, .int .i64 a0_1, .int .i64 a0_2] 24 (0, 0)) (by (with_reducible repeat (first | refine Bn_ ?_ _ | refine Bd_ ?_ | refine Ba_ ?_ _)); exact BK243.out) hb); have n1_ := Am_ (Be_ (by repeat (first | (with_reducible first | exact HB.out | apply Pa_ | apply Pn_ | apply Pd_ | refine Bs_ ?_ GE243.out) | exact HB.out)) hb); clear BK243; clear HB; have BK243 := n0_; have HB := n1_; clear n0_ n1_; (try clear hb); (try clear hb2); (try clear hk); (try clear hi); have hcz29_0 : w28.cell? ⟨gb243, 0, none⟩ = some (.slice A0_0 l0_0.length c0_0) := (Bc_ BK243.out 0).trans rfl; have hcz29_1 : w28.cell? ⟨gb243, 1, none⟩ = some (.int .i64 a0_1) := (Bc_ BK243.out 1).trans rfl; have hcz29_2 : w28.cell? ⟨gb243, 2, none⟩ = some (.int .i64 a0_2) := (Bc_ BK243.out 2).trans rfl; have hfz29_0 := Bf_ BK243.out 0; have hfz29_1 := Bf_ BK243.out 1; have hfz29_2 := Bf_ BK243.out 2) | ((with_reducible refine gate_callee (f := 13) rfl ?_); refine goesL_ (some 35) rfl rfl Try.func13 (by kernel_rfl) rfl #[.agg #[.slice A0_0 l0_0.length c0_0, .int .i64 a0_1, .int .i64 a0_2]] rfl (by (try simp only [List.map_toArray, List.map_cons, List.map_nil]); first | done | rfl | (simp only [List.length_drop, List.length_take]; rfl)) ?_; (with_reducible refine (flagstonelaw09_its.calls kj4 _ _ l0_0 a0_1 a0_2 t249 t252 t253 _ ?side1 ?side2 A19.out).mono ?_); (case side1 => repeat (first | exact (Kd.C_below HR0_0.out HB.out) | (with_reducible refine Kd.C_alloc ?_ _) | (with_reducible refine Kd.C_drewN ?_ _) | (with_reducible refine Kd.C_drew ?_))); (case side2 => exact HC0_0.out); rintro e w30 ⟨v250, rfl, ho0, hb⟩; refine ⟨_, rfl, ?_⟩; have n0_ := Am_ (Kd.S_lower ho0 (Bz_ (by repeat (first | (with_reducible first | exact HB.out | apply Pa_ | apply Pn_ | apply Pd_ | refine Bs_ ?_ GE243.out) | exact HB.out)))); have n1_ := Am_ (Bb_ (g := gb243) (o := .cells #[.slice A0_0 l0_0.length c0_0, .int .i64 a0_1, .int .i64 a0_2] 24 (0, 0)) (by (with_reducible repeat (first | refine Bn_ ?_ _ | refine Bd_ ?_ | refine Ba_ ?_ _)); exact BK243.out) hb); have n2_ := Am_ (Be_ (by repeat (first | (with_reducible first | exact HB.out | apply Pa_ | apply Pn_ | apply Pd_ | refine Bs_ ?_ GE243.out) | exact HB.out)) hb); clear BK243; clear HB; have HO251 := n0_; have BK243 := n1_; have HB := n2_; clear n0_ n1_ n2_; (try clear hb); (try clear hb2); (try clear hk); (try clear hi); (try clear ho0); obtain ⟨Ao31, co31, eo31⟩ := Kd.S_slice HO251.out; subst eo31) | ((with_reducible refine gate_callee (f := 12) rfl ?_); refine goesL_ (some 39) rfl rfl Try.func12 (by kernel_rfl) rfl #[.agg #[.slice Ao31 t249.length co31, .int .i64 t252, .int .i64 t253], .int .i64 a1, .int .i64 a2, .int .i64 a3] rfl (by (try simp only [List.map_toArray, List.map_cons, List.map_nil]); first | done | rfl | (simp only [List.length_drop, List.length_take]; rfl)) ?_; (with_reducible refine (flagstoneref09_Read.calls kj4 _ _ t249 t252 t253 a1 a2 a3 t254 t255 _ ?side1 ?side2 A20.out).mono ?_); (case side1 => repeat (first | exact (Kd.S_reads' HO251.out).2.2 | (with_reducible refine Kd.C_alloc ?_ _) | (with_reducible refine Kd.C_drewN ?_ _) | (with_reducible refine Kd.C_drew ?_))); (case side2 => exact (Kd.S_reads' HO251.out).2.1); rintro e w32 ⟨rfl, hb⟩; refine ⟨_, rfl, ?_⟩; have n0_ := Am_ (Kd.S_below (by (with_reducible repeat (first | apply Kd.S_alloc | apply Kd.S_drewN | apply Kd.S_drew)); exact HO251.out) hb); have n1_ := Am_ (Bb_ (g := gb243) (o := .cells #[.slice A0_0 l0_0.length c0_0, .int .i64 a0_1, .int .i64 a0_2] 24 (0, 0)) (by (with_reducible repeat (first | refine Bn_ ?_ _ | refine Bd_ ?_ | refine Ba_ ?_ _)); exact BK243.out) hb); have n2_ := Am_ (Be_ (by repeat (first | (with_reducible first | exact HB.out | apply Pa_ | apply Pn_ | apply Pd_ | refine Bs_ ?_ GE243.out) | exact HB.out)) hb); clear HO251; clear BK243; clear HB; have HO251 := n0_; have BK243 := n1_; have HB := n2_; clear n0_ n1_ n2_; (try clear hb); (try clear hb2); (try clear hk); (try clear hi); have hcz33_0 : w32.cell? ⟨gb243, 0, none⟩ = some (.slice A0_0 l0_0.length c0_0) := (Bc_ BK243.out 0).trans rfl; have hcz33_1 : w32.cell? ⟨gb243, 1, none⟩ = some (.int .i64 a0_1) := (Bc_ BK243.out 1).trans rfl; have hcz33_2 : w32.cell? ⟨gb243, 2, none⟩ = some (.int .i64 a0_2) := (Bc_ BK243.out 2).trans rfl; have hfz33_0 := Bf_ BK243.out 0; have hfz33_1 := Bf_ BK243.out 1; have hfz33_2 := Bf_ BK243.out 2) | ((with_reducible refine gate_callee (f := 14) rfl ?_); refine goesL_ (some 45) rfl rfl Try.func14 (by kernel_rfl) rfl #[.agg #[.slice A0_0 l0_0.length c0_0, .int .i64 a0_1, .int .i64 a0_2], .int .i64 a1] rfl (by (try simp only [List.map_toArray, List.map_cons, List.map_nil]); first | done | rfl | (simp only [List.length_drop, List.length_take]; rfl)) ?_; (with_reducible refine (content_Size.calls _ _ l0_0 a0_1 a0_2 a1 t256 t257 _ ?side1 ?side2 A21.out).mono ?_); (case side1 => repeat (first | exact (Kd.C_below HR0_0.out HB.out) | (with_reducible refine Kd.C_alloc ?_ _) | (with_reducible refine Kd.C_drewN ?_ _) | (with_reducible refine Kd.C_drew ?_))); (case side2 => exact HC0_0.out); rintro e w34 ⟨rfl, hb⟩; refine ⟨_, rfl, ?_⟩; have n0_ := Am_ (Kd.S_below (by (with_reducible repeat (first | apply Kd.S_alloc | apply Kd.S_drewN | apply Kd.S_drew)); exact HO251.out) hb); have n1_ := Am_ (Bb_ (g := gb243) (o := .cells #[.slice A0_0 l0_0.length c0_0, .int .i64 a0_1, .int .i64 a0_2] 24 (0, 0)) (by (with_reducible repeat (first | refine Bn_ ?_ _ | refine Bd_ ?_ | refine Ba_ ?_ _)); exact BK243.out) hb); have n2_ := Am_ (Be_ (by repeat (first | (with_reducible first | exact HB.out | apply Pa_ | apply Pn_ | apply Pd_ | refine Bs_ ?_ GE243.out) | exact HB.out)) hb); clear HO251; clear BK243; clear HB; have HO251 := n0_; have BK243 := n1_; have HB := n2_; clear n0_ n1_ n2_; (try clear hb); (try clear hb2); (try clear hk); (try clear hi); have hcz35_0 : w34.cell? ⟨gb243, 0, none⟩ = some (.slice A0_0 l0_0.length c0_0) := (Bc_ BK243.out 0).trans rfl; have hcz35_1 : w34.cell? ⟨gb243, 1, none⟩ = some (.int .i64 a0_1) := (Bc_ BK243.out 1).trans rfl; have hcz35_2 : w34.cell? ⟨gb243, 2, none⟩ = some (.int .i64 a0_2) := (Bc_ BK243.out 2).trans rfl; have hfz35_0 := Bf_ BK243.out 0; have hfz35_1 := Bf_ BK243.out 1; have hfz35_2 := Bf_ BK243.out 2) | ((with_reducible refine gate_callee (f := 13) rfl ?_); refine goesL_ (some 50) rfl rfl Try.func13 (by kernel_rfl) rfl #[.agg #[.slice A0_0 l0_0.length c0_0, .int .i64 a0_1, .int .i64 a0_2]] rfl (by (try simp only [List.map_toArray, List.map_cons, List.map_nil]); first | done | rfl | (simp only [List.length_drop, List.length_take]; rfl)) ?_; (with_reducible refine (flagstonelaw09_its.calls kj4 _ _ l0_0 a0_1 a0_2 t258 t261 t262 _ ?side1 ?side2 A22.out).mono ?_); (case side1 => repeat (first | exact (Kd.C_below HR0_0.out HB.out) | (with_reducible refine Kd.C_alloc ?_ _) | (with_reducible refine Kd.C_drewN ?_ _) | (with_reducible refine Kd.C_drew ?_))); (case side2 => exact HC0_0.out); rintro e w36 ⟨v259, rfl, ho0, hb⟩; refine ⟨_, rfl, ?_⟩; have n0_ := Am_ (Kd.S_elder' (by (with_reducible repeat (first | apply Kd.S_alloc | apply Kd.S_drewN | apply Kd.S_drew)); exact HO251.out) (Kd.S_base ho0) hb); have n1_ := Am_ (Kd.S_lower (Kd.S_new' ho0 (Kd.S_lt (by (with_reducible repeat (first | apply Kd.S_alloc | apply Kd.S_drewN | apply Kd.S_drew)); exact HO251.out))) (Bz_ (by repeat (first | (with_reducible first | exact HB.out | apply Pa_ | apply Pn_ | apply Pd_ | refine Bs_ ?_ GE243.out) | exact HB.out)))); have n2_ := Am_ (Bb_ (g := gb243) (o := .cells #[.slice A0_0 l0_0.length c0_0, .int .i64 a0_1, .int .i64 a0_2] 24 (0, 0)) (by (with_reducible repeat (first | refine Bn_ ?_ _ | refine Bd_ ?_ | refine Ba_ ?_ _)); exact BK243.out) hb); have n3_ := Am_ (Be_ (by repeat (first | (with_reducible first | exact HB.out | apply Pa_ | apply Pn_ | apply Pd_ | refine Bs_ ?_ GE243.out) | exact HB.out)) hb); clear HO251; clear BK243; clear HB; have HO251 := n0_; have HO260 := n1_; have BK243 := n2_; have HB := n3_; clear n0_ n1_ n2_ n3_; (try clear hb); (try clear hb2); (try clear hk); (try clear hi); (try clear ho0); obtain ⟨Ao37, co37, eo37⟩ := Kd.S_slice HO260.out; subst eo37) | ((with_reducible refine gate_callee (f := 15) rfl ?_); refine goesL_ (some 52) rfl rfl Try.func15 (by kernel_rfl) rfl #[.agg #[.slice Ao37 t258.length co37, .int .i64 t261, .int .i64 t262], .int .i64 a1] rfl (by (try simp only [List.map_toArray, List.map_cons, List.map_nil]); first | done | rfl | (simp only [List.length_drop, List.length_take]; rfl)) ?_; (with_reducible refine (flagstoneref09_Size.calls _ _ t258 t261 t262 a1 t263 t264 _ ?side1 ?side2 A23.out).mono ?_); (case side1 => repeat (first | exact (Kd.S_reads' HO260.out).2.2 | (with_reducible refine Kd.C_alloc ?_ _) | (with_reducible refine Kd.C_drewN ?_ _) | (with_reducible refine Kd.C_drew ?_))); (case side2 => exact (Kd.S_reads' HO260.out).2.1); rintro e w38 ⟨rfl, hb⟩; refine ⟨_, rfl, ?_⟩; have n0_ := Am_ (Kd.S_below (by (with_reducible repeat (first | apply Kd.S_alloc | apply Kd.S_drewN | apply Kd.S_drew)); exact HO251.out) hb); have n1_ := Am_ (Kd.S_below (by (with_reducible repeat (first | apply Kd.S_alloc | apply Kd.S_drewN | apply Kd.S_drew)); exact HO260.out) hb); have n2_ := Am_ (Bb_ (g := gb243) (o := .cells #[.slice A0_0 l0_0.length c0_0, .int .i64 a0_1, .int .i64 a0_2] 24 (0, 0)) (by (with_reducible repeat (first | refine Bn_ ?_ _ | refine Bd_ ?_ | refine Ba_ ?_ _)); exact BK243.out) hb); have n3_ := Am_ (Be_ (by repeat (first | (with_reducible first | exact HB.out | apply Pa_ | apply Pn_ | apply Pd_ | refine Bs_ ?_ GE243.out) | exact HB.out)) hb); clear HO251; clear HO260; clear BK243; clear HB; have HO251 := n0_; have HO260 := n1_; have BK243 := n2_; have HB := n3_; clear n0_ n1_ n2_ n3_; (try clear hb); (try clear hb2); (try clear hk); (try clear hi)))
       go_ret
       exact ⟨by first | rfl | (simp [errW_none, errW_some] <;> rfl) | (simp [*, errW_none, errW_some] <;> rfl), by repeat (first | (with_reducible first | exact HB.out | apply Pa_ | apply Pn_ | apply Pd_ | refine Bs_ ?_ GE243.out) | exact HB.out)⟩
      ·rw [if_neg c26] at H
       exact absurd H (by simp)
     ·rw [if_neg c25] at H
      exact absurd H (by simp)
    ·rw [if_neg c24] at H
     exact absurd H (by simp)

end Go.Proofs.Ytpeelfambaedkaa.P
