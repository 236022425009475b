-- Printed by a program of this session (inject.py) over the kit's print, with functions that were proved by hand in their places.
import Derived.Test.YtpeelfambaedkaaPK
import Derived.Test.YtpeelfambaedkaaPlaw09small
import Derived.Test.YtpeelfambaedkaaPcontentWrite
import Derived.Test.YtpeelfambaedkaaPcontentCut
import Derived.Test.YtpeelfambaedkaaPlaw09shown
import Derived.Test.YtpeelfambaedkaaPlaw09its
import Derived.Test.YtpeelfambaedkaaPref06Same
import Derived.Test.YtpeelfambaedkaaPref09Write
import Derived.Test.YtpeelfambaedkaaPref09Cut
namespace Go.Proofs.Ytpeelfambaedkaa.P
open Go.RowKit Go.Proofs.YtpeelfambaedkaaW.PrintWords Go.Proofs.YtpeelfambaedkaaW.PrintLast Go.Proofs.YtpeelfambaedkaaW.PrintMore
attribute [local go_sem] max2_int min2_int max_two min_two max_three min_three max_four min_four   -- for this text's walks alone
set_option linter.unusedVariables false
set_option linter.unusedSimpArgs false

/-! ### flagstonelaw09_ContentWrites: function 4 -/
def flagstonelaw09_ContentWrites.j0 : Nat → Int → Int → ByteArray → Int → Bool → List (S59) → Int → Int → Option (Bool)
 | 0, _, _, _, _, _, _, _, _ => none
 | k + 1, x1, x2, x3, x4, x30, x419000, x419001, x419002 => if x30 = true then ((flagstonelaw09_shown.f).bind fun t421 => (some t421)) else ((content_Write.f x419000 x419001 x419002 x1 x2 x3).bind fun bt422 => ((flagstonelaw09_its.f k x419000 x419001 x419002).bind fun bt429 => ((flagstoneref09_Write.f k bt429.1 bt429.2.1 bt429.2.2 x1 x2 x3).bind fun bt434 => ((content_Cut.f x419000 x419001 x419002 x1 x4).bind fun bt441 => ((flagstonelaw09_its.f k x419000 x419001 x419002).bind fun bt448 => ((flagstoneref09_Cut.f k bt448.1 bt448.2.1 bt448.2.2 x1 x4).bind fun bt453 => ((flagstonelaw09_its.f k bt422.1 bt422.2.1 bt422.2.2.1).bind fun bt460 => ((flagstoneref06_Same.f k bt460.1 bt460.2.1 bt460.2.2 bt434.1 bt434.2.1 bt434.2.2.1).bind fun t465 => (if t465 = true then (if bt422.2.2.2 = bt434.2.2.2 then ((flagstonelaw09_its.f k bt441.1 bt441.2.1 bt441.2.2.1).bind fun bt466 => ((flagstoneref06_Same.f k bt466.1 bt466.2.1 bt466.2.2 bt453.1 bt453.2.1 bt453.2.2.1).bind fun t471 => (if t471 = true then (some (bt441.2.2.2 == bt453.2.2.2)) else (none)))) else (none)) else (none))))))))))
def flagstonelaw09_ContentWrites.f (k : Nat) (l0_0 : List (S59)) (a0_1 : Int) (a0_2 : Int) (a1 : Int) (a2 : Int) (a3 : ByteArray) (a4 : Int) : Option (Bool) := (flagstonelaw09_small.f k l0_0 a0_1 a0_2).bind fun t419 => (if t419 = true then (if (a3.size : Int) > 300 then (flagstonelaw09_ContentWrites.j0 k a1 a2 a3 a4 true l0_0 a0_1 a0_2) else ((flagstonelaw09_shown.f).bind fun t420 => (flagstonelaw09_ContentWrites.j0 k a1 a2 a3 a4 (!t420) l0_0 a0_1 a0_2))) else (flagstonelaw09_ContentWrites.j0 k a1 a2 a3 a4 true l0_0 a0_1 a0_2))
theorem flagstonelaw09_ContentWrites.mono_l : ∀ k, (∀ y0 y1 y2 y3 y4 y5 y6 y7, LeO (flagstonelaw09_ContentWrites.j0 k y0 y1 y2 y3 y4 y5 y6 y7) (flagstonelaw09_ContentWrites.j0 (k + 1) y0 y1 y2 y3 y4 y5 y6 y7))
 | 0 => fun _ _ _ _ _ _ _ _ r h => by simp [flagstonelaw09_ContentWrites.j0] at h
 | k + 1 => by
  have ih0 := flagstonelaw09_ContentWrites.mono_l k
  ·intro y0 y1 y2 y3 y4 y5 y6 y7
   unfold flagstonelaw09_ContentWrites.j0
   repeat' first
   | (with_reducible exact ih0 _ _ _ _ _ _ _ _)
   | (with_reducible exact flagstonelaw09_its.mono _ _ _ _)
   | (with_reducible exact flagstonelaw09_small.mono _ _ _ _)
   | (with_reducible exact flagstoneref06_Same.mono _ _ _ _ _ _ _)
   | (with_reducible exact flagstoneref09_Cut.mono _ _ _ _ _ _)
   | (with_reducible exact flagstoneref09_Write.mono _ _ _ _ _ _ _)
   | (with_reducible exact LeO.refl _)
   | (with_reducible exact LeO.none _)
   | (with_reducible refine LeO.ite ?_ ?_)
   | (with_reducible refine LeO.bind ?_ (fun _ => ?_))
   | exact ih0 _ _ _ _ _ _ _ _
   | exact flagstonelaw09_its.mono _ _ _ _
   | exact flagstonelaw09_small.mono _ _ _ _
   | exact flagstoneref06_Same.mono _ _ _ _ _ _ _
   | exact flagstoneref09_Cut.mono _ _ _ _ _ _
   | exact flagstoneref09_Write.mono _ _ _ _ _ _ _
   | exact LeO.none _
   | refine LeO.ite ?_ ?_
   | refine LeO.bind ?_ (fun _ => ?_)
theorem flagstonelaw09_ContentWrites.mono : ∀ a0 a1 a2 a3 a4 a5 a6 k, LeO (flagstonelaw09_ContentWrites.f k a0 a1 a2 a3 a4 a5 a6) (flagstonelaw09_ContentWrites.f (k + 1) a0 a1 a2 a3 a4 a5 a6) := by
 intro a0 a1 a2 a3 a4 a5 a6 k
 have ih0 := flagstonelaw09_ContentWrites.mono_l k
 unfold flagstonelaw09_ContentWrites.f
 repeat' first
   | (with_reducible exact ih0 _ _ _ _ _ _ _ _)
   | (with_reducible exact flagstonelaw09_its.mono _ _ _ _)
   | (with_reducible exact flagstonelaw09_small.mono _ _ _ _)
   | (with_reducible exact flagstoneref06_Same.mono _ _ _ _ _ _ _)
   | (with_reducible exact flagstoneref09_Cut.mono _ _ _ _ _ _)
   | (with_reducible exact flagstoneref09_Write.mono _ _ _ _ _ _ _)
   | (with_reducible exact LeO.refl _)
   | (with_reducible exact LeO.none _)
   | (with_reducible refine LeO.ite ?_ ?_)
   | (with_reducible refine LeO.bind ?_ (fun _ => ?_))
   | exact ih0 _ _ _ _ _ _ _ _
   | exact flagstonelaw09_its.mono _ _ _ _
   | exact flagstonelaw09_small.mono _ _ _ _
   | exact flagstoneref06_Same.mono _ _ _ _ _ _ _
   | exact flagstoneref09_Cut.mono _ _ _ _ _ _
   | exact flagstoneref09_Write.mono _ _ _ _ _ _ _
   | exact LeO.none _
   | refine LeO.ite ?_ ?_
   | refine LeO.bind ?_ (fun _ => ?_)
def flagstonelaw09_ContentWrites.T7 : Bool × List (List Nat × List Nat) := (true, [([], []), ([0], [0]), ([], []), ([1, 2, 1], [1, 2]), ([3, 3], [3]), ([4], [4]), ([4], [4]), ([5, 6, 4], [4, 5, 6]), ([4, 7], [4, 7]), ([8, 4], [8]), ([9], [9]), ([10, 9, 9], [9, 10]), ([9], [9]), ([11, 12, 11, 9], [9, 11, 12]), ([9, 13], [9, 13]), ([14, 13], [14]), ([15], [15]), ([15], [15]), ([16, 17, 15], [15, 16, 17]), ([15, 18], [15, 18]), ([19, 15, 0, 1, 2, 3, 4, 5, 6, 7, 8, 9, 10, 11, 12, 13, 14, 15, 16, 17, 18, 19], [19])])
def flagstonelaw09_ContentWrites.B7 : List Nat := [0, 1, 0, 7, 15, 31, 31, 127, 255, 511, 1023, 2047, 1023, 8191, 16383, 32767, 65535, 65535, 262143, 524287, 1048575]
theorem flagstonelaw09_ContentWrites.tab7 : rtab .any (opsOf Try.f4 7) = flagstonelaw09_ContentWrites.T7 := by kernel_rfl
theorem flagstonelaw09_ContentWrites.bits7 : waitsOk flagstonelaw09_ContentWrites.T7.2 flagstonelaw09_ContentWrites.B7 = true := by kernel_rfl
set_option maxHeartbeats 8000000 in
set_option maxRecDepth 100000 in
theorem flagstonelaw09_ContentWrites.calls (k : Nat) (A0_0 : Option Addr) (c0_0 : Nat) (l0_0 : List (S59)) (a0_1 : Int) (a0_2 : Int) (a1 : Int) (a2 : Int) (a3 : ByteArray) (a4 : Int) (r : Bool) (w : World) (hr0_0 : Kd.C k59 w A0_0 l0_0.length l0_0) (hc0_0 : l0_0.length ≤ c0_0) (h : flagstonelaw09_ContentWrites.f k l0_0 a0_1 a0_2 a1 a2 a3 a4 = some r) :
  Calls Try.prog 4 #[.agg #[.slice A0_0 l0_0.length c0_0, .int .i64 a0_1, .int .i64 a0_2], .int .i64 a1, .int .i64 a2, .string a3, .int .i64 a4] w fun e w' => e = .returned (.bool r) ∧ Below w.heap.size w w' := by
 have hu24 := Try.underlying24
 have hu33 := Try.underlying33
 have HR0_0 := Am_ hr0_0
 have HC0_0 := Am_ hc0_0
 clear hr0_0 hc0_0
 have HB := Am_ (Below.refl w.heap.size w)
 have H : ((flagstonelaw09_small.f k l0_0 a0_1 a0_2).bind fun t419 => (if t419 = true then (if (a3.size : Int) > 300 then (flagstonelaw09_ContentWrites.j0 k a1 a2 a3 a4 true l0_0 a0_1 a0_2) else ((flagstonelaw09_shown.f).bind fun t420 => (flagstonelaw09_ContentWrites.j0 k a1 a2 a3 a4 (!t420) l0_0 a0_1 a0_2))) else (flagstonelaw09_ContentWrites.j0 k a1 a2 a3 a4 true l0_0 a0_1 a0_2))) = some r := h
 clear h
 have HC6 := Am_ H
 clear H
 go_enter Try.func4, Try.ntmps4
 go_upto_region 1 with (first | ((with_reducible refine gate_dst (N := 5) rfl ?_); (try (refine gate_guard (by rfl) ?_; dsimp only)); refine box_event ?hg (N := 5) ?hd (cs := #[.slice A0_0 l0_0.length c0_0, .int .i64 a0_1, .int .i64 a0_2]) (t := 24) ?hr ?_; (case hd => rfl); (case hg => rfl); (case hr => go_simp; try rfl); intro gb418 hg w7 hbox hb; have n0_ := Am_ (Be_ (Pb0_ HB.out) hb); have n1_ := Am_ (hbox); have n2_ := Am_ ((by rw [hg]; exact (Bz_ (Pb0_ HB.out)) : w.heap.size ≤ gb418)); have n3_ := Am_ ((by rw [hg]; exact (Bz_ (Pb0_ HB.out)) : w.heap.size ≤ gb418)); clear HB; have HB := n0_; have BK418 := n1_; have GW418 := n2_; have GE418 := n3_; clear n0_ n1_ n2_ n3_; clear hb hbox hg))
 (try simp only [Act.put, La_, Lb_, Lc_])
 go_cut [30] (fun v30 wc => ∃ (kq : Nat) (x30_5 : Bool), v30 = .bool x30_5 ∧ Aside0 (flagstonelaw09_ContentWrites.j0 kq a1 a2 a3 a4 x30_5 l0_0 a0_1 a0_2 = some r) ∧ Aside0 (kq ≤ k) ∧ Aside0 (wc.heap[gb418]? = some (.cells #[(.slice A0_0 l0_0.length c0_0), .int .i64 a0_1, .int .i64 a0_2] 24 (0, 0))) ∧ Aside0 (Below w.heap.size w wc))
 case first =>
  have H := HC6.out
  clear HC6
  replace H := Option.bind_eq_some_iff.mp H
  obtain ⟨t419, A80, H⟩ := H
  replace H : (if t419 = true then (if (a3.size : Int) > 300 then (flagstonelaw09_ContentWrites.j0 k a1 a2 a3 a4 true l0_0 a0_1 a0_2) else ((flagstonelaw09_shown.f).bind fun t420 => (flagstonelaw09_ContentWrites.j0 k a1 a2 a3 a4 (!t420) l0_0 a0_1 a0_2))) else (flagstonelaw09_ContentWrites.j0 k a1 a2 a3 a4 true l0_0 a0_1 a0_2)) = some r := H
  have A8 := Am_ A80
  clear A80
  by_cases c9 : t419 = true
  ·subst c9
   have H1 : (if (a3.size : Int) > 300 then (flagstonelaw09_ContentWrites.j0 k a1 a2 a3 a4 true l0_0 a0_1 a0_2) else ((flagstonelaw09_shown.f).bind fun t420 => (flagstonelaw09_ContentWrites.j0 k a1 a2 a3 a4 (!t420) l0_0 a0_1 a0_2))) = some r := by rw [if_pos rfl] at H; exact H
   clear H
   have H := H1
   clear H1
   by_cases c10 : (a3.size : Int) > 300
   ·rw [if_pos c10] at H
    have c10b0 : decide (300 < (a3.size : Int)) = true := Dt_ c10
    have c10b1 : decide (300 < a3.size) = true := Dt_ (by omega)
    clear c10
    (first | rw [c10b0] | (simp only [i64_w, i32_w]; rw [c10b0]) | skip)
    have H' := Am_ H
    clear H
    obtain ⟨hcz11_0, hcz11_1, hcz11_2, hfz11_0, hfz11_1, hfz11_2⟩ := Ce3_ BK418.out
    go_wp2_with (first | ((with_reducible refine gate_callee (f := 9) rfl ?_); refine goesL_ (some 20) rfl rfl Try.func9 (by kernel_rfl) rfl #[.agg #[.slice A0_0 l0_0.length c0_0, .int .i64 a0_1, .int .i64 a0_2]] rfl (by (try simp only [List.map_toArray, List.map_cons, List.map_nil]); first | done | rfl | (simp only [List.length_drop, List.length_take]; rfl)) ?_; (with_reducible refine (flagstonelaw09_small.calls k _ _ l0_0 a0_1 a0_2 true _ ?side1 ?side2 A8.out).mono ?_); (case side1 => repeat (first | exact (Kd.C_below HR0_0.out HB.out) | (with_reducible refine Kd.C_alloc ?_ _) | (with_reducible refine Kd.C_drewN ?_ _) | (with_reducible refine Kd.C_drew ?_))); (case side2 => exact HC0_0.out); rintro e w12 ⟨rfl, hb⟩; refine ⟨_, rfl, ?_⟩; have n0_ := Am_ (Bb_ (g := gb418) (o := .cells #[.slice A0_0 l0_0.length c0_0, .int .i64 a0_1, .int .i64 a0_2] 24 (0, 0)) (Pk_ BK418.out) hb); have n1_ := Am_ (Be_ (Pb1_ HB.out GE418.out) hb); clear BK418; clear HB; have BK418 := n0_; have HB := n1_; clear n0_ n1_; (try clear hb); (try clear hb2); (try clear hk); (try clear hi)))
    go_meet
    case rel => exact ⟨_, (true), (by first | rfl | (simp; done) | (simp [*]; done)), H', ⟨by first | omega | exact Nat.le_refl _⟩, ⟨by (with_reducible repeat (first | refine Bn_ ?_ _ | refine Bd_ ?_ | refine Ba_ ?_ _)); exact BK418.out⟩, ⟨by repeat (first | (with_reducible first | exact HB.out | apply Pa_ | apply Pn_ | apply Pd_ | refine Bs_ ?_ GE418.out) | exact HB.out)⟩⟩
   ·rw [if_neg c10] at H
    have c10b0 : decide (300 < (a3.size : Int)) = false := Df_ c10
    have c10b1 : decide (300 < a3.size) = false := Df_ (by omega)
    clear c10
    (first | rw [c10b0] | (simp only [i64_w, i32_w]; rw [c10b0]) | skip)
    replace H := Option.bind_eq_some_iff.mp H
    obtain ⟨t420, A130, H⟩ := H
    replace H : (flagstonelaw09_ContentWrites.j0 k a1 a2 a3 a4 (!t420) l0_0 a0_1 a0_2) = some r := H
    have A13 := Am_ A130
    clear A130
    have H' := Am_ H
    clear H
    obtain ⟨hcz14_0, hcz14_1, hcz14_2, hfz14_0, hfz14_1, hfz14_2⟩ := Ce3_ BK418.out
    go_wp2_with (first | ((with_reducible refine gate_callee (f := 9) rfl ?_); refine goesL_ (some 20) rfl rfl Try.func9 (by kernel_rfl) rfl #[.agg #[.slice A0_0 l0_0.length c0_0, .int .i64 a0_1, .int .i64 a0_2]] rfl (by (try simp only [List.map_toArray, List.map_cons, List.map_nil]); first | done | rfl | (simp only [List.length_drop, List.length_take]; rfl)) ?_; (with_reducible refine (flagstonelaw09_small.calls k _ _ l0_0 a0_1 a0_2 true _ ?side1 ?side2 A8.out).mono ?_); (case side1 => repeat (first | exact (Kd.C_below HR0_0.out HB.out) | (with_reducible refine Kd.C_alloc ?_ _) | (with_reducible refine Kd.C_drewN ?_ _) | (with_reducible refine Kd.C_drew ?_))); (case side2 => exact HC0_0.out); rintro e w15 ⟨rfl, hb⟩; refine ⟨_, rfl, ?_⟩; have n0_ := Am_ (Bb_ (g := gb418) (o := .cells #[.slice A0_0 l0_0.length c0_0, .int .i64 a0_1, .int .i64 a0_2] 24 (0, 0)) (Pk_ BK418.out) hb); have n1_ := Am_ (Be_ (Pb1_ HB.out GE418.out) hb); clear BK418; clear HB; have BK418 := n0_; have HB := n1_; clear n0_ n1_; (try clear hb); (try clear hb2); (try clear hk); (try clear hi)) | (go_at_call 10; (with_reducible refine (flagstonelaw09_shown.calls  t420 _ A13.out).mono ?_); rintro e w16 ⟨rfl, hb⟩; have n0_ := Am_ (Bb_ (g := gb418) (o := .cells #[.slice A0_0 l0_0.length c0_0, .int .i64 a0_1, .int .i64 a0_2] 24 (0, 0)) (Pk_ BK418.out) hb); have n1_ := Am_ (Be_ (Pb1_ HB.out GE418.out) hb); clear BK418; clear HB; have BK418 := n0_; have HB := n1_; clear n0_ n1_; (try clear hb); (try clear hb2); (try clear hk); (try clear hi)))
    go_meet
    case rel => exact ⟨_, (!t420), (by first | rfl | (simp; done) | (simp [*]; done)), H', ⟨by first | omega | exact Nat.le_refl _⟩, ⟨by (with_reducible repeat (first | refine Bn_ ?_ _ | refine Bd_ ?_ | refine Ba_ ?_ _)); exact BK418.out⟩, ⟨by repeat (first | (with_reducible first | exact HB.out | apply Pa_ | apply Pn_ | apply Pd_ | refine Bs_ ?_ GE418.out) | exact HB.out)⟩⟩
  ·replace c9 := Bool.eq_false_iff.mpr c9
   subst c9
   have H1 : (flagstonelaw09_ContentWrites.j0 k a1 a2 a3 a4 true l0_0 a0_1 a0_2) = some r := by rw [if_neg (show ¬ (false = true) by decide)] at H; exact H
   clear H
   have H := H1
   clear H1
   have H' := Am_ H
   clear H
   obtain ⟨hcz17_0, hcz17_1, hcz17_2, hfz17_0, hfz17_1, hfz17_2⟩ := Ce3_ BK418.out
   go_wp2_with (first | ((with_reducible refine gate_callee (f := 9) rfl ?_); refine goesL_ (some 20) rfl rfl Try.func9 (by kernel_rfl) rfl #[.agg #[.slice A0_0 l0_0.length c0_0, .int .i64 a0_1, .int .i64 a0_2]] rfl (by (try simp only [List.map_toArray, List.map_cons, List.map_nil]); first | done | rfl | (simp only [List.length_drop, List.length_take]; rfl)) ?_; (with_reducible refine (flagstonelaw09_small.calls k _ _ l0_0 a0_1 a0_2 false _ ?side1 ?side2 A8.out).mono ?_); (case side1 => repeat (first | exact (Kd.C_below HR0_0.out HB.out) | (with_reducible refine Kd.C_alloc ?_ _) | (with_reducible refine Kd.C_drewN ?_ _) | (with_reducible refine Kd.C_drew ?_))); (case side2 => exact HC0_0.out); rintro e w18 ⟨rfl, hb⟩; refine ⟨_, rfl, ?_⟩; have n0_ := Am_ (Bb_ (g := gb418) (o := .cells #[.slice A0_0 l0_0.length c0_0, .int .i64 a0_1, .int .i64 a0_2] 24 (0, 0)) (Pk_ BK418.out) hb); have n1_ := Am_ (Be_ (Pb1_ HB.out GE418.out) hb); clear BK418; clear HB; have BK418 := n0_; have HB := n1_; clear n0_ n1_; (try clear hb); (try clear hb2); (try clear hk); (try clear hi)))
   go_meet
   case rel => exact ⟨_, (true), (by first | rfl | (simp; done) | (simp [*]; done)), H', ⟨by first | omega | exact Nat.le_refl _⟩, ⟨by (with_reducible repeat (first | refine Bn_ ?_ _ | refine Bd_ ?_ | refine Ba_ ?_ _)); exact BK418.out⟩, ⟨by repeat (first | (with_reducible first | exact HB.out | apply Pa_ | apply Pn_ | apply Pd_ | refine Bs_ ?_ GE418.out) | exact HB.out)⟩⟩
 case rest =>
  clear HC6
  try clear c1
  try clear p2
  try clear c4
  try clear c9
  try clear c10
  try clear c10b0
  try clear c10b1
  try clear hcz11_0
  try clear hcz11_1
  try clear hcz11_2
  try clear hcz14_0
  try clear hcz14_1
  try clear hcz14_2
  try clear hcz17_0
  try clear hcz17_1
  try clear hcz17_2
  try clear hfz11_0
  try clear hfz11_1
  try clear hfz11_2
  try clear hfz14_0
  try clear hfz14_1
  try clear hfz14_2
  try clear hfz17_0
  try clear hfz17_1
  try clear hfz17_2
  obtain ⟨kq, x30_5, rfl, HA, HJ5, BK418, HB⟩ := hcut
  cases kq with
  | zero => exact absurd HA.out (by simp [flagstonelaw09_ContentWrites.j0])
  | succ kj5 =>
   have H := HA.out
   clear HA
   simp only [flagstonelaw09_ContentWrites.j0] at H
   by_cases c19 : x30_5 = true
   ·subst c19
    have H1 : ((flagstonelaw09_shown.f).bind fun t421 => (some t421)) = some r := by rw [if_pos rfl] at H; exact H
    clear H
    have H := H1
    clear H1
    replace H := Option.bind_eq_some_iff.mp H
    obtain ⟨t421, A200, H⟩ := H
    replace H : (some t421) = some r := H
    have A20 := Am_ A200
    clear A200
    obtain rfl := Option.some.inj H
    go_wp2_with (first | ((with_reducible refine gate_callee (f := 10) rfl ?_); refine goesL_ (some 31) rfl rfl Try.func10 (by kernel_rfl) rfl #[] rfl (by (try simp only [List.map_toArray, List.map_cons, List.map_nil]); first | done | rfl | (simp only [List.length_drop, List.length_take]; rfl)) ?_; (with_reducible refine (flagstonelaw09_shown.calls  t421 _ A20.out).mono ?_); rintro e w21 ⟨rfl, hb⟩; refine ⟨_, rfl, ?_⟩; have n0_ := Am_ (Bb_ (g := gb418) (o := .cells #[.slice A0_0 l0_0.length c0_0, .int .i64 a0_1, .int .i64 a0_2] 24 (0, 0)) (Pk_ BK418.out) hb); have n1_ := Am_ (Be_ (Pb1_ HB.out GE418.out) hb); clear BK418; clear HB; have BK418 := n0_; have HB := n1_; clear n0_ n1_; (try clear hb); (try clear hb2); (try clear hk); (try clear hi)))
    go_ret
    exact ⟨by first | rfl | (simp [errW_none, errW_some] <;> rfl) | (simp [*, errW_none, errW_some] <;> rfl), by repeat (first | (with_reducible first | exact HB.out | apply Pa_ | apply Pn_ | apply Pd_ | refine Bs_ ?_ GE418.out) | exact HB.out)⟩
   ·replace c19 := Bool.eq_false_iff.mpr c19
    subst c19
    have H1 : ((content_Write.f l0_0 a0_1 a0_2 a1 a2 a3).bind fun bt422 => ((flagstonelaw09_its.f kj5 l0_0 a0_1 a0_2).bind fun bt429 => ((flagstoneref09_Write.f kj5 bt429.1 bt429.2.1 bt429.2.2 a1 a2 a3).bind fun bt434 => ((content_Cut.f l0_0 a0_1 a0_2 a1 a4).bind fun bt441 => ((flagstonelaw09_its.f kj5 l0_0 a0_1 a0_2).bind fun bt448 => ((flagstoneref09_Cut.f kj5 bt448.1 bt448.2.1 bt448.2.2 a1 a4).bind fun bt453 => ((flagstonelaw09_its.f kj5 bt422.1 bt422.2.1 bt422.2.2.1).bind fun bt460 => ((flagstoneref06_Same.f kj5 bt460.1 bt460.2.1 bt460.2.2 bt434.1 bt434.2.1 bt434.2.2.1).bind fun t465 => (if t465 = true then (if bt422.2.2.2 = bt434.2.2.2 then ((flagstonelaw09_its.f kj5 bt441.1 bt441.2.1 bt441.2.2.1).bind fun bt466 => ((flagstoneref06_Same.f kj5 bt466.1 bt466.2.1 bt466.2.2 bt453.1 bt453.2.1 bt453.2.2.1).bind fun t471 => (if t471 = true then (some (bt441.2.2.2 == bt453.2.2.2)) else (none)))) else (none)) else (none)))))))))) = some r := by rw [if_neg (show ¬ (false = true) by decide)] at H; exact H
    clear H
    have H := H1
    clear H1
    replace H := Option.bind_eq_some_iff.mp H
    obtain ⟨⟨t422, t425, t426, t427⟩, A220, H⟩ := H
    replace H : ((flagstonelaw09_its.f kj5 l0_0 a0_1 a0_2).bind fun bt429 => ((flagstoneref09_Write.f kj5 bt429.1 bt429.2.1 bt429.2.2 a1 a2 a3).bind fun bt434 => ((content_Cut.f l0_0 a0_1 a0_2 a1 a4).bind fun bt441 => ((flagstonelaw09_its.f kj5 l0_0 a0_1 a0_2).bind fun bt448 => ((flagstoneref09_Cut.f kj5 bt448.1 bt448.2.1 bt448.2.2 a1 a4).bind fun bt453 => ((flagstonelaw09_its.f kj5 t422 t425 t426).bind fun bt460 => ((flagstoneref06_Same.f kj5 bt460.1 bt460.2.1 bt460.2.2 bt434.1 bt434.2.1 bt434.2.2.1).bind fun t465 => (if t465 = true then (if t427 = bt434.2.2.2 then ((flagstonelaw09_its.f kj5 bt441.1 bt441.2.1 bt441.2.2.1).bind fun bt466 => ((flagstoneref06_Same.f kj5 bt466.1 bt466.2.1 bt466.2.2 bt453.1 bt453.2.1 bt453.2.2.1).bind fun t471 => (if t471 = true then (some (bt441.2.2.2 == bt453.2.2.2)) else (none)))) else (none)) else (none))))))))) = some r := H
    have A22 := Am_ A220
    clear A220
    replace H := Option.bind_eq_some_iff.mp H
    obtain ⟨⟨t429, t432, t433⟩, A230, H⟩ := H
    replace H : ((flagstoneref09_Write.f kj5 t429 t432 t433 a1 a2 a3).bind fun bt434 => ((content_Cut.f l0_0 a0_1 a0_2 a1 a4).bind fun bt441 => ((flagstonelaw09_its.f kj5 l0_0 a0_1 a0_2).bind fun bt448 => ((flagstoneref09_Cut.f kj5 bt448.1 bt448.2.1 bt448.2.2 a1 a4).bind fun bt453 => ((flagstonelaw09_its.f kj5 t422 t425 t426).bind fun bt460 => ((flagstoneref06_Same.f kj5 bt460.1 bt460.2.1 bt460.2.2 bt434.1 bt434.2.1 bt434.2.2.1).bind fun t465 => (if t465 = true then (if t427 = bt434.2.2.2 then ((flagstonelaw09_its.f kj5 bt441.1 bt441.2.1 bt441.2.2.1).bind fun bt466 => ((flagstoneref06_Same.f kj5 bt466.1 bt466.2.1 bt466.2.2 bt453.1 bt453.2.1 bt453.2.2.1).bind fun t471 => (if t471 = true then (some (bt441.2.2.2 == bt453.2.2.2)) else (none)))) else (none)) else (none)))))))) = some r := H
    have A23 := Am_ A230
    clear A230
    replace H := Option.bind_eq_some_iff.mp H
    obtain ⟨⟨t434, t437, t438, t439⟩, A240, H⟩ := H
    replace H : ((content_Cut.f l0_0 a0_1 a0_2 a1 a4).bind fun bt441 => ((flagstonelaw09_its.f kj5 l0_0 a0_1 a0_2).bind fun bt448 => ((flagstoneref09_Cut.f kj5 bt448.1 bt448.2.1 bt448.2.2 a1 a4).bind fun bt453 => ((flagstonelaw09_its.f kj5 t422 t425 t426).bind fun bt460 => ((flagstoneref06_Same.f kj5 bt460.1 bt460.2.1 bt460.2.2 t434 t437 t438).bind fun t465 => (if t465 = true then (if t427 = t439 then ((flagstonelaw09_its.f kj5 bt441.1 bt441.2.1 bt441.2.2.1).bind fun bt466 => ((flagstoneref06_Same.f kj5 bt466.1 bt466.2.1 bt466.2.2 bt453.1 bt453.2.1 bt453.2.2.1).bind fun t471 => (if t471 = true then (some (bt441.2.2.2 == bt453.2.2.2)) else (none)))) else (none)) else (none))))))) = some r := H
    have A24 := Am_ A240
    clear A240
    replace H := Option.bind_eq_some_iff.mp H
    obtain ⟨⟨t441, t444, t445, t446⟩, A250, H⟩ := H
    replace H : ((flagstonelaw09_its.f kj5 l0_0 a0_1 a0_2).bind fun bt448 => ((flagstoneref09_Cut.f kj5 bt448.1 bt448.2.1 bt448.2.2 a1 a4).bind fun bt453 => ((flagstonelaw09_its.f kj5 t422 t425 t426).bind fun bt460 => ((flagstoneref06_Same.f kj5 bt460.1 bt460.2.1 bt460.2.2 t434 t437 t438).bind fun t465 => (if t465 = true then (if t427 = t439 then ((flagstonelaw09_its.f kj5 t441 t444 t445).bind fun bt466 => ((flagstoneref06_Same.f kj5 bt466.1 bt466.2.1 bt466.2.2 bt453.1 bt453.2.1 bt453.2.2.1).bind fun t471 => (if t471 = true then (some (t446 == bt453.2.2.2)) else (none)))) else (none)) else (none)))))) = some r := H
    have A25 := Am_ A250
    clear A250
    replace H := Option.bind_eq_some_iff.mp H
    obtain ⟨⟨t448, t451, t452⟩, A260, H⟩ := H
    replace H : ((flagstoneref09_Cut.f kj5 t448 t451 t452 a1 a4).bind fun bt453 => ((flagstonelaw09_its.f kj5 t422 t425 t426).bind fun bt460 => ((flagstoneref06_Same.f kj5 bt460.1 bt460.2.1 bt460.2.2 t434 t437 t438).bind fun t465 => (if t465 = true then (if t427 = t439 then ((flagstonelaw09_its.f kj5 t441 t444 t445).bind fun bt466 => ((flagstoneref06_Same.f kj5 bt466.1 bt466.2.1 bt466.2.2 bt453.1 bt453.2.1 bt453.2.2.1).bind fun t471 => (if t471 = true then (some (t446 == bt453.2.2.2)) else (none)))) else (none)) else (none))))) = some r := H
    have A26 := Am_ A260
    clear A260
    replace H := Option.bind_eq_some_iff.mp H
    obtain ⟨⟨t453, t456, t457, t458⟩, A270, H⟩ := H
    replace H : ((flagstonelaw09_its.f kj5 t422 t425 t426).bind fun bt460 => ((flagstoneref06_Same.f kj5 bt460.1 bt460.2.1 bt460.2.2 t434 t437 t438).bind fun t465 => (if t465 = true then (if t427 = t439 then ((flagstonelaw09_its.f kj5 t441 t444 t445).bind fun bt466 => ((flagstoneref06_Same.f kj5 bt466.1 bt466.2.1 bt466.2.2 t453 t456 t457).bind fun t471 => (if t471 = true then (some (t446 == t458)) else (none)))) else (none)) else (none)))) = some r := H
    have A27 := Am_ A270
    clear A270
    replace H := Option.bind_eq_some_iff.mp H
    obtain ⟨⟨t460, t463, t464⟩, A280, H⟩ := H
    replace H : ((flagstoneref06_Same.f kj5 t460 t463 t464 t434 t437 t438).bind fun t465 => (if t465 = true then (if t427 = t439 then ((flagstonelaw09_its.f kj5 t441 t444 t445).bind fun bt466 => ((flagstoneref06_Same.f kj5 bt466.1 bt466.2.1 bt466.2.2 t453 t456 t457).bind fun t471 => (if t471 = true then (some (t446 == t458)) else (none)))) else (none)) else (none))) = some r := H
    have A28 := Am_ A280
    clear A280
    replace H := Option.bind_eq_some_iff.mp H
    obtain ⟨t465, A290, H⟩ := H
    replace H : (if t465 = true then (if t427 = t439 then ((flagstonelaw09_its.f kj5 t441 t444 t445).bind fun bt466 => ((flagstoneref06_Same.f kj5 bt466.1 bt466.2.1 bt466.2.2 t453 t456 t457).bind fun t471 => (if t471 = true then (some (t446 == t458)) else (none)))) else (none)) else (none)) = some r := H
    have A29 := Am_ A290
    clear A290
    by_cases c30 : t465 = true
    ·subst c30
     have H1 : (if t427 = t439 then ((flagstonelaw09_its.f kj5 t441 t444 t445).bind fun bt466 => ((flagstoneref06_Same.f kj5 bt466.1 bt466.2.1 bt466.2.2 t453 t456 t457).bind fun t471 => (if t471 = true then (some (t446 == t458)) else (none)))) else (none)) = some r := by rw [if_pos rfl] at H; exact H
     clear H
     have H := H1
     clear H1
     by_cases c31 : t427 = t439
     ·rw [if_pos c31] at H
      have c31b0 : (t427 == t439) = true := beq_iff_eq.mpr c31
      have c31b1 : (t427 != t439) = false := bne_eq_false_iff_eq.mpr c31
      clear c31
      replace H := Option.bind_eq_some_iff.mp H
      obtain ⟨⟨t466, t469, t470⟩, A320, H⟩ := H
      replace H : ((flagstoneref06_Same.f kj5 t466 t469 t470 t453 t456 t457).bind fun t471 => (if t471 = true then (some (t446 == t458)) else (none))) = some r := H
      have A32 := Am_ A320
      clear A320
      replace H := Option.bind_eq_some_iff.mp H
      obtain ⟨t471, A330, H⟩ := H
      replace H : (if t471 = true then (some (t446 == t458)) else (none)) = some r := H
      have A33 := Am_ A330
      clear A330
      by_cases c34 : t471 = true
      ·subst c34
       have H1 : (some (t446 == t458)) = some r := by rw [if_pos rfl] at H; exact H
       clear H
       have H := H1
       clear H1
       obtain rfl := Option.some.inj H
       obtain ⟨hcz35_0, hcz35_1, hcz35_2, hfz35_0, hfz35_1, hfz35_2⟩ := Ce3_ BK418.out
       try go_wp2_with (first | ((with_reducible refine gate_callee (f := 16) rfl ?_); refine goesL_ (some 37) rfl rfl Try.func16 (by kernel_rfl) rfl #[.agg #[.slice A0_0 l0_0.length c0_0, .int .i64 a0_1, .int .i64 a0_2], .int .i64 a1, .int .i64 a2, .string a3] rfl (by (try simp only [List.map_toArray, List.map_cons, List.map_nil]); first | done | rfl | (simp only [List.length_drop, List.length_take]; rfl)) ?_; (with_reducible refine (content_Write.calls (fun k_ => k_ < w.heap.size) _ _ l0_0 a0_1 a0_2 a1 a2 a3 t422 t425 t426 t427 _ ?side1 A22.out).mono ?_); (case side1 => exact Kd.V_mk HC0_0.out (Kd.F_below (Kd.C_F k59_heap HR0_0.out) (Pb1_ HB.out GE418.out))); rintro e w36 ⟨v423, rfl, ho0, hb⟩; refine ⟨_, rfl, ?_⟩; have n0_ := Am_ (Vl_ (Vm_ (ok' := fun k_ => k_ ≠ gb418) ho0 (fun k_ hk_ => Or.elim hk_ (fun hs_ => fun e_ => Nat.not_le.2 hs_ (by rw [e_]; exact GW418.out)) (fun hn_ => (Kd.freshB (g := gb418) (o := .cells #[.slice A0_0 l0_0.length c0_0, .int .i64 a0_1, .int .i64 a0_2] 24 (0, 0)) (Pk_ BK418.out) k_ hn_)))) (Bz_ (Pb1_ HB.out GE418.out))); have n1_ := Am_ (Bb_ (g := gb418) (o := .cells #[.slice A0_0 l0_0.length c0_0, .int .i64 a0_1, .int .i64 a0_2] 24 (0, 0)) (Pk_ BK418.out) hb); have n2_ := Am_ (Be_ (Pb1_ HB.out GE418.out) hb); clear BK418; clear HB; have HO424 := n0_; have BK418 := n1_; have HB := n2_; clear n0_ n1_ n2_; (try clear hb); (try clear hb2); (try clear hk); (try clear hi); (try clear ho0)) | ((with_reducible refine gate_dst (N := 11) rfl ?_); (try (refine gate_guard (by rfl) ?_; dsimp only)); refine box_event ?hg (N := 11) ?hd (cs := #[.slice none 0 0, .int .i64 0, .int .i64 0]) (t := 24) ?hr ?_; (case hd => rfl); (case hg => rfl); (case hr => go_simp; try rfl); intro gb428 hg w37 hbox hb; have n0_ := Am_ (Vb_ (Ke_ (Pv_ HO424.out) gb428 (Nat.le_of_eq hg.symm)) hb); have n1_ := Am_ (Bb_ (g := gb418) (o := .cells #[.slice A0_0 l0_0.length c0_0, .int .i64 a0_1, .int .i64 a0_2] 24 (0, 0)) (Pk_ BK418.out) hb); have n2_ := Am_ (Be_ (Pb1_ HB.out GE418.out) hb); have n3_ := Am_ (hbox); have n4_ := Am_ ((by rw [hg]; exact (Bz_ (Pb1_ HB.out GE418.out)) : w.heap.size ≤ gb428)); have n5_ := Am_ ((by rw [hg]; exact (Bz_ (Pb1_ HB.out GE418.out)) : w.heap.size ≤ gb428)); have n6_ := Am_ ((by rw [hg]; exact Nat.ne_of_lt (blk_lt (g := gb418) (o := .cells #[.slice A0_0 l0_0.length c0_0, .int .i64 a0_1, .int .i64 a0_2] 24 (0, 0)) (Pk_ BK418.out)) : gb418 ≠ gb428)); have n7_ := Am_ ((by rw [hg]; exact Nat.ne_of_gt (blk_lt (g := gb418) (o := .cells #[.slice A0_0 l0_0.length c0_0, .int .i64 a0_1, .int .i64 a0_2] 24 (0, 0)) (Pk_ BK418.out)) : gb428 ≠ gb418)); clear HO424; clear BK418; clear HB; have HO424 := n0_; have BK418 := n1_; have HB := n2_; have BK428 := n3_; have GW428 := n4_; have GE428 := n5_; have NB418_428 := n6_; have NB428_418 := n7_; clear n0_ n1_ n2_ n3_ n4_ n5_ n6_ n7_; clear hb hbox hg; obtain ⟨Ao38, co38, eo38⟩ := Vx_ HO424.out; subst eo38; have hnb39 := NB428_418.out; have hnc39 := NB418_428.out; obtain ⟨hcz40_0, hcz40_1, hcz40_2, hfz40_0, hfz40_1, hfz40_2⟩ := Ce3_ BK428.out; obtain ⟨hcz41_0, hcz41_1, hcz41_2, hfz41_0, hfz41_1, hfz41_2⟩ := Ce3_ BK418.out) | ((with_reducible refine gate_callee (f := 13) rfl ?_); refine goesL_ (some 42) rfl rfl Try.func13 (by kernel_rfl) rfl #[.agg #[.slice A0_0 l0_0.length c0_0, .int .i64 a0_1, .int .i64 a0_2]] rfl (by (try simp only [List.map_toArray, List.map_cons, List.map_nil]); first | done | rfl | (simp only [List.length_drop, List.length_take]; rfl)) ?_; (with_reducible refine (flagstonelaw09_its.calls kj5 _ _ l0_0 a0_1 a0_2 t429 t432 t433 _ ?side1 ?side2 A23.out).mono ?_); (case side1 => exact Kd.C_below HR0_0.out (Pb2_ HB.out GE418.out GE428.out)); (case side2 => exact HC0_0.out); rintro e w42 ⟨v430, rfl, ho0, hb⟩; refine ⟨_, rfl, ?_⟩; have n0_ := Am_ (Kd.V_elder' (by (with_reducible repeat (first | apply Va_ | apply Vn_ | apply Vd_)); exact (Vm_ (Vf_ (p := ⟨gb428, 2, none⟩) (Vf_ (p := ⟨gb428, 1, none⟩) (Vf_ (p := ⟨gb428, 0, none⟩) (Vm_ HO424.out (fun k_ hk => (⟨hk, hk.2⟩ : _ ∧ k_ ≠ gb428))) (fun _ hk => hk.2) (.slice Ao38 t422.length co38)) (fun _ hk => hk.2) (.int .i64 t425)) (fun _ hk => hk.2) (.int .i64 t426)) (fun _ h_ => h_.1))) (Kd.S_base ho0) hb); have n1_ := Am_ (Kd.S_lower ho0 (Bz_ (Pb2_ HB.out GE418.out GE428.out))); have n2_ := Am_ (Bb_ (g := gb418) (o := .cells #[.slice A0_0 l0_0.length c0_0, .int .i64 a0_1, .int .i64 a0_2] 24 (0, 0)) (by (with_reducible repeat (first | refine Bn_ ?_ _ | refine Bd_ ?_ | refine Ba_ ?_ _)); refine blk_far ?_ NB418_428.out _; (with_reducible repeat (first | refine Bn_ ?_ _ | refine Bd_ ?_ | refine Ba_ ?_ _)); refine blk_far ?_ NB418_428.out _; (with_reducible repeat (first | refine Bn_ ?_ _ | refine Bd_ ?_ | refine Ba_ ?_ _)); refine blk_far ?_ NB418_428.out _; (with_reducible repeat (first | refine Bn_ ?_ _ | refine Bd_ ?_ | refine Ba_ ?_ _)); exact BK418.out) hb); have n3_ := Am_ (Bb_ (g := gb428) (o := .cells #[.slice Ao38 t422.length co38, .int .i64 t425, .int .i64 t426] 24 (0, 0)) (by (with_reducible repeat (first | refine Bn_ ?_ _ | refine Bd_ ?_ | refine Ba_ ?_ _)); refine Bp_ (cs := #[.slice Ao38 t422.length co38, .int .i64 t425, .int .i64 0]) ?_ 2 _ rfl; (with_reducible repeat (first | refine Bn_ ?_ _ | refine Bd_ ?_ | refine Ba_ ?_ _)); refine Bp_ (cs := #[.slice Ao38 t422.length co38, .int .i64 0, .int .i64 0]) ?_ 1 _ rfl; (with_reducible repeat (first | refine Bn_ ?_ _ | refine Bd_ ?_ | refine Ba_ ?_ _)); refine Bp_ (cs := #[.slice none 0 0, .int .i64 0, .int .i64 0]) ?_ 0 _ rfl; (with_reducible repeat (first | refine Bn_ ?_ _ | refine Bd_ ?_ | refine Ba_ ?_ _)); exact BK428.out) hb); have n4_ := Am_ (Be_ (Pb2_ HB.out GE418.out GE428.out) hb); clear HO424; clear BK418; clear BK428; clear HB; have HO424 := n0_; have HO431 := n1_; have BK418 := n2_; have BK428 := n3_; have HB := n4_; clear n0_ n1_ n2_ n3_ n4_; (try clear hb); (try clear hb2); (try clear hk); (try clear hi); (try clear ho0); obtain ⟨Ao43, co43, eo43⟩ := Kd.S_slice HO431.out; subst eo43) | ((with_reducible refine gate_callee (f := 17) rfl ?_); refine goesL_ (some 46) rfl rfl Try.func17 (by kernel_rfl) rfl #[.agg #[.slice Ao43 t429.length co43, .int .i64 t432, .int .i64 t433], .int .i64 a1, .int .i64 a2, .string a3] rfl (by (try simp only [List.map_toArray, List.map_cons, List.map_nil]); first | done | rfl | (simp only [List.length_drop, List.length_take]; rfl)) ?_; (with_reducible refine (flagstoneref09_Write.calls kj5 (fun k_ => ((True ∧ k_ ≠ gb418) ∧ k_ ≠ gb428)) _ _ t429 t432 t433 a1 a2 a3 t434 t437 t438 t439 _ ?side1 A24.out).mono ?_); (case side1 => exact Kd.S_V (Kd.S_types (Kd.S_types (HO431.out) BK418.out (by decide)) BK428.out (by decide))); rintro e w44 ⟨v435, rfl, ho0, hb⟩; refine ⟨_, rfl, ?_⟩; have n0_ := Am_ (Vb_ (Pv_ HO424.out) hb); have n1_ := Am_ (Kd.S_below (Py_ HO431.out) hb); have n2_ := Am_ (Vl_ (Vm_ (ok' := fun k_ => k_ ≠ gb418 ∧ k_ ≠ gb428) ho0 (fun k_ hk_ => ⟨Or.elim hk_ (fun hs_ => hs_.1.2) (fun hn_ => (Kd.freshB (g := gb418) (o := .cells #[.slice A0_0 l0_0.length c0_0, .int .i64 a0_1, .int .i64 a0_2] 24 (0, 0)) (Pk_ BK418.out) k_ hn_)), Or.elim hk_ (fun hs_ => hs_.2) (fun hn_ => (Kd.freshB (g := gb428) (o := .cells #[.slice Ao38 t422.length co38, .int .i64 t425, .int .i64 t426] 24 (0, 0)) (Pk_ BK428.out) k_ hn_))⟩)) (Bz_ (Pb2_ HB.out GE418.out GE428.out))); have n3_ := Am_ (Bb_ (g := gb418) (o := .cells #[.slice A0_0 l0_0.length c0_0, .int .i64 a0_1, .int .i64 a0_2] 24 (0, 0)) (Pk_ BK418.out) hb); have n4_ := Am_ (Bb_ (g := gb428) (o := .cells #[.slice Ao38 t422.length co38, .int .i64 t425, .int .i64 t426] 24 (0, 0)) (Pk_ BK428.out) hb); have n5_ := Am_ (Be_ (Pb2_ HB.out GE418.out GE428.out) hb); clear HO424; clear HO431; clear BK418; clear BK428; clear HB; have HO424 := n0_; have HO431 := n1_; have HO436 := n2_; have BK418 := n3_; have BK428 := n4_; have HB := n5_; clear n0_ n1_ n2_ n3_ n4_ n5_; (try clear hb); (try clear hb2); (try clear hk); (try clear hi); (try clear ho0)) | ((with_reducible refine gate_dst (N := 13) rfl ?_); (try (refine gate_guard (by rfl) ?_; dsimp only)); refine box_event ?hg (N := 13) ?hd (cs := #[.slice none 0 0, .int .i64 0, .int .i64 0]) (t := 33) ?hr ?_; (case hd => rfl); (case hg => rfl); (case hr => go_simp; try rfl); intro gb440 hg w45 hbox hb; have n0_ := Am_ (Vb_ (Ke_ (Pv_ HO424.out) gb440 (Nat.le_of_eq hg.symm)) hb); have n1_ := Am_ (Kd.S_below (Py_ HO431.out) hb); have n2_ := Am_ (Vb_ (Ke_ (Pv_ HO436.out) gb440 (Nat.le_of_eq hg.symm)) hb); have n3_ := Am_ (Bb_ (g := gb418) (o := .cells #[.slice A0_0 l0_0.length c0_0, .int .i64 a0_1, .int .i64 a0_2] 24 (0, 0)) (Pk_ BK418.out) hb); have n4_ := Am_ (Bb_ (g := gb428) (o := .cells #[.slice Ao38 t422.length co38, .int .i64 t425, .int .i64 t426] 24 (0, 0)) (Pk_ BK428.out) hb); have n5_ := Am_ (Be_ (Pb2_ HB.out GE418.out GE428.out) hb); have n6_ := Am_ (hbox); have n7_ := Am_ ((by rw [hg]; exact (Bz_ (Pb2_ HB.out GE418.out GE428.out)) : w.heap.size ≤ gb440)); have n8_ := Am_ ((by rw [hg]; exact (Bz_ (Pb2_ HB.out GE418.out GE428.out)) : w.heap.size ≤ gb440)); have n9_ := Am_ ((by rw [hg]; exact Nat.ne_of_lt (blk_lt (g := gb418) (o := .cells #[.slice A0_0 l0_0.length c0_0, .int .i64 a0_1, .int .i64 a0_2] 24 (0, 0)) (Pk_ BK418.out)) : gb418 ≠ gb440)); have n10_ := Am_ ((by rw [hg]; exact Nat.ne_of_gt (blk_lt (g := gb418) (o := .cells #[.slice A0_0 l0_0.length c0_0, .int .i64 a0_1, .int .i64 a0_2] 24 (0, 0)) (Pk_ BK418.out)) : gb440 ≠ gb418)); have n11_ := Am_ ((by rw [hg]; exact Nat.ne_of_lt (blk_lt (g := gb428) (o := .cells #[.slice Ao38 t422.length co38, .int .i64 t425, .int .i64 t426] 24 (0, 0)) (Pk_ BK428.out)) : gb428 ≠ gb440)); have n12_ := Am_ ((by rw [hg]; exact Nat.ne_of_gt (blk_lt (g := gb428) (o := .cells #[.slice Ao38 t422.length co38, .int .i64 t425, .int .i64 t426] 24 (0, 0)) (Pk_ BK428.out)) : gb440 ≠ gb428)); clear HO424; clear HO431; clear HO436; clear BK418; clear BK428; clear HB; have HO424 := n0_; have HO431 := n1_; have HO436 := n2_; have BK418 := n3_; have BK428 := n4_; have HB := n5_; have BK440 := n6_; have GW440 := n7_; have GE440 := n8_; have NB418_440 := n9_; have NB440_418 := n10_; have NB428_440 := n11_; have NB440_428 := n12_; clear n0_ n1_ n2_ n3_ n4_ n5_ n6_ n7_ n8_ n9_ n10_ n11_ n12_; clear hb hbox hg; obtain ⟨Ao46, co46, eo46⟩ := Vx_ HO436.out; subst eo46; have hnb47 := NB440_418.out; have hnc47 := NB418_440.out; have hnb48 := NB440_428.out; have hnc48 := NB428_440.out; obtain ⟨hcz49_0, hcz49_1, hcz49_2, hfz49_0, hfz49_1, hfz49_2⟩ := Ce3_ BK440.out) | ((with_reducible refine gate_store (t := 33) (p := 13) rfl ?_); refine store_event (t := 33) (p := 13) (v := ?vo_w50) (w1 := (((w45.setCell ⟨gb440, 0, none⟩ (.slice Ao46 t434.length co46)).setCell ⟨gb440, 1, none⟩ (.int .i64 t437)).setCell ⟨gb440, 2, none⟩ (.int .i64 t438))) ?hg ?ho ?hn ?hr ?_; (case ho => rfl); (case hg => rfl); (case hn => rfl); (case hr => go_simp; try rfl); intro w50 hw; have n0_ : Aside0 (Kd.V k59 59 w50 w.heap.size (fun k_ => some k_ ≠ (.slice Ao43 t429.length co43 : Value).ownBlock ∧ k_ ≠ gb418 ∧ k_ ≠ gb428 ∧ k_ ≠ gb440) (.slice Ao38 t422.length co38) t422) := ⟨(by rw [hw]; exact (by (with_reducible repeat (first | apply Va_ | apply Vn_ | apply Vd_)); exact Vm_ (Vf_ (p := ⟨gb440, 2, none⟩) (Vf_ (p := ⟨gb440, 1, none⟩) (Vf_ (p := ⟨gb440, 0, none⟩) (Vm_ HO424.out (fun k_ hk => (⟨hk, hk.2⟩ : _ ∧ k_ ≠ gb440))) (fun _ hk => hk.2) (.slice Ao46 t434.length co46)) (fun _ hk => hk.2) (.int .i64 t437)) (fun _ hk => hk.2) (.int .i64 t438)) (fun _ hk => ⟨hk.1.1.2, ⟨hk.1.1.1.1, ⟨hk.1.1.1.2, hk.1.2⟩⟩⟩)))⟩; have n1_ : Aside0 (Kd.S k53 53 w50 w.heap.size (fun _ => True) (.slice Ao43 t429.length co43) t429) := ⟨(by rw [hw]; exact (by (with_reducible repeat (first | apply Kd.S_alloc | apply Kd.S_drewN | apply Kd.S_drew)); exact Kd.S_mono (Kd.S_far (p := ⟨gb440, 2, none⟩) (Kd.S_far (p := ⟨gb440, 1, none⟩) (Kd.S_far (p := ⟨gb440, 0, none⟩) (Kd.S_types HO431.out BK440.out (by decide)) (fun _ hk => hk.2) (.slice Ao46 t434.length co46)) (fun _ hk => hk.2) (.int .i64 t437)) (fun _ hk => hk.2) (.int .i64 t438)) (fun _ hk => trivial)))⟩; have n2_ : Aside0 (Kd.V k53 53 w50 w.heap.size (fun k_ => k_ ≠ gb418 ∧ k_ ≠ gb428 ∧ k_ ≠ gb440) (.slice Ao46 t434.length co46) t434) := ⟨(by rw [hw]; exact (by (with_reducible repeat (first | apply Va_ | apply Vn_ | apply Vd_)); exact Vm_ (Vf_ (p := ⟨gb440, 2, none⟩) (Vf_ (p := ⟨gb440, 1, none⟩) (Vf_ (p := ⟨gb440, 0, none⟩) (Vm_ HO436.out (fun k_ hk => (⟨hk, hk.2⟩ : _ ∧ k_ ≠ gb440))) (fun _ hk => hk.2) (.slice Ao46 t434.length co46)) (fun _ hk => hk.2) (.int .i64 t437)) (fun _ hk => hk.2) (.int .i64 t438)) (fun _ hk => ⟨hk.1.1.1, ⟨hk.1.1.2, hk.1.2⟩⟩)))⟩; have n3_ : Aside0 (w50.heap[gb418]? = some (.cells #[.slice A0_0 l0_0.length c0_0, .int .i64 a0_1, .int .i64 a0_2] 24 (0, 0))) := ⟨(by rw [hw]; exact (by (with_reducible repeat (first | refine Bn_ ?_ _ | refine Bd_ ?_ | refine Ba_ ?_ _)); refine blk_far ?_ NB418_440.out _; (with_reducible repeat (first | refine Bn_ ?_ _ | refine Bd_ ?_ | refine Ba_ ?_ _)); refine blk_far ?_ NB418_440.out _; (with_reducible repeat (first | refine Bn_ ?_ _ | refine Bd_ ?_ | refine Ba_ ?_ _)); refine blk_far ?_ NB418_440.out _; (with_reducible repeat (first | refine Bn_ ?_ _ | refine Bd_ ?_ | refine Ba_ ?_ _)); exact BK418.out))⟩; have n4_ : Aside0 (w50.heap[gb428]? = some (.cells #[.slice Ao38 t422.length co38, .int .i64 t425, .int .i64 t426] 24 (0, 0))) := ⟨(by rw [hw]; exact (by (with_reducible repeat (first | refine Bn_ ?_ _ | refine Bd_ ?_ | refine Ba_ ?_ _)); refine blk_far ?_ NB428_440.out _; (with_reducible repeat (first | refine Bn_ ?_ _ | refine Bd_ ?_ | refine Ba_ ?_ _)); refine blk_far ?_ NB428_440.out _; (with_reducible repeat (first | refine Bn_ ?_ _ | refine Bd_ ?_ | refine Ba_ ?_ _)); refine blk_far ?_ NB428_440.out _; (with_reducible repeat (first | refine Bn_ ?_ _ | refine Bd_ ?_ | refine Ba_ ?_ _)); exact BK428.out))⟩; have n5_ : Aside0 (w50.heap[gb440]? = some (.cells #[.slice Ao46 t434.length co46, .int .i64 t437, .int .i64 t438] 33 (0, 0))) := ⟨(by rw [hw]; exact (by (with_reducible repeat (first | refine Bn_ ?_ _ | refine Bd_ ?_ | refine Ba_ ?_ _)); refine Bp_ (cs := #[.slice Ao46 t434.length co46, .int .i64 t437, .int .i64 0]) ?_ 2 _ rfl; (with_reducible repeat (first | refine Bn_ ?_ _ | refine Bd_ ?_ | refine Ba_ ?_ _)); refine Bp_ (cs := #[.slice Ao46 t434.length co46, .int .i64 0, .int .i64 0]) ?_ 1 _ rfl; (with_reducible repeat (first | refine Bn_ ?_ _ | refine Bd_ ?_ | refine Ba_ ?_ _)); refine Bp_ (cs := #[.slice none 0 0, .int .i64 0, .int .i64 0]) ?_ 0 _ rfl; (with_reducible repeat (first | refine Bn_ ?_ _ | refine Bd_ ?_ | refine Ba_ ?_ _)); exact BK440.out))⟩; have n6_ : Aside0 (Below w.heap.size w w50) := ⟨(by rw [hw]; exact (Pb3_ HB.out GE418.out GE428.out GE440.out))⟩; clear hw; clear HO424; clear HO431; clear HO436; clear BK418; clear BK428; clear BK440; clear HB; have HO424 := n0_; have HO431 := n1_; have HO436 := n2_; have BK418 := n3_; have BK428 := n4_; have BK440 := n5_; have HB := n6_; clear n0_ n1_ n2_ n3_ n4_ n5_ n6_; obtain ⟨hcz51_0, hcz51_1, hcz51_2, hfz51_0, hfz51_1, hfz51_2⟩ := Ce3_ BK418.out) | ((with_reducible refine gate_callee (f := 18) rfl ?_); refine goesL_ (some 53) rfl rfl Try.func18 (by kernel_rfl) rfl #[.agg #[.slice A0_0 l0_0.length c0_0, .int .i64 a0_1, .int .i64 a0_2], .int .i64 a1, .int .i64 a4] rfl (by (try simp only [List.map_toArray, List.map_cons, List.map_nil]); first | done | rfl | (simp only [List.length_drop, List.length_take]; rfl)) ?_; (with_reducible refine (content_Cut.calls (fun k_ => k_ < w.heap.size) _ _ l0_0 a0_1 a0_2 a1 a4 t441 t444 t445 t446 _ ?side1 A25.out).mono ?_); (case side1 => exact Kd.V_mk HC0_0.out (Kd.F_below (Kd.C_F k59_heap HR0_0.out) (Pb3_ HB.out GE418.out GE428.out GE440.out))); rintro e w52 ⟨v442, rfl, ho0, hb⟩; refine ⟨_, rfl, ?_⟩; have n0_ := Am_ (Vb_ (Pv_ HO424.out) hb); have n1_ := Am_ (Kd.S_below (Py_ HO431.out) hb); have n2_ := Am_ (Vb_ (Pv_ HO436.out) hb); have n3_ := Am_ (Vl_ (Vm_ (ok' := fun k_ => some k_ ≠ (.slice Ao43 t429.length co43 : Value).ownBlock ∧ k_ ≠ gb418 ∧ k_ ≠ gb428 ∧ k_ ≠ gb440) ho0 (fun k_ hk_ => ⟨Or.elim hk_ (fun hs_ => fun e_ => Nat.not_le.2 hs_ (Kd.S_base HO431.out k_ e_.symm)) (fun hn_ => (Kd.fresh' (Kd.S_lt (Py_ HO431.out)) k_ hn_)), Or.elim hk_ (fun hs_ => fun e_ => Nat.not_le.2 hs_ (by rw [e_]; exact GW418.out)) (fun hn_ => (Kd.freshB (g := gb418) (o := .cells #[.slice A0_0 l0_0.length c0_0, .int .i64 a0_1, .int .i64 a0_2] 24 (0, 0)) (Pk_ BK418.out) k_ hn_)), Or.elim hk_ (fun hs_ => fun e_ => Nat.not_le.2 hs_ (by rw [e_]; exact GW428.out)) (fun hn_ => (Kd.freshB (g := gb428) (o := .cells #[.slice Ao38 t422.length co38, .int .i64 t425, .int .i64 t426] 24 (0, 0)) (Pk_ BK428.out) k_ hn_)), Or.elim hk_ (fun hs_ => fun e_ => Nat.not_le.2 hs_ (by rw [e_]; exact GW440.out)) (fun hn_ => (Kd.freshB (g := gb440) (o := .cells #[.slice Ao46 t434.length co46, .int .i64 t437, .int .i64 t438] 33 (0, 0)) (Pk_ BK440.out) k_ hn_))⟩)) (Bz_ (Pb3_ HB.out GE418.out GE428.out GE440.out))); have n4_ := Am_ (Bb_ (g := gb418) (o := .cells #[.slice A0_0 l0_0.length c0_0, .int .i64 a0_1, .int .i64 a0_2] 24 (0, 0)) (Pk_ BK418.out) hb); have n5_ := Am_ (Bb_ (g := gb428) (o := .cells #[.slice Ao38 t422.length co38, .int .i64 t425, .int .i64 t426] 24 (0, 0)) (Pk_ BK428.out) hb); have n6_ := Am_ (Bb_ (g := gb440) (o := .cells #[.slice Ao46 t434.length co46, .int .i64 t437, .int .i64 t438] 33 (0, 0)) (Pk_ BK440.out) hb); have n7_ := Am_ (Be_ (Pb3_ HB.out GE418.out GE428.out GE440.out) hb); clear HO424; clear HO431; clear HO436; clear BK418; clear BK428; clear BK440; clear HB; have HO424 := n0_; have HO431 := n1_; have HO436 := n2_; have HO443 := n3_; have BK418 := n4_; have BK428 := n5_; have BK440 := n6_; have HB := n7_; clear n0_ n1_ n2_ n3_ n4_ n5_ n6_ n7_; (try clear hb); (try clear hb2); (try clear hk); (try clear hi); (try clear ho0)) | ((with_reducible refine gate_dst (N := 15) rfl ?_); (try (refine gate_guard (by rfl) ?_; dsimp only)); refine box_event ?hg (N := 15) ?hd (cs := #[.slice none 0 0, .int .i64 0, .int .i64 0]) (t := 24) ?hr ?_; (case hd => rfl); (case hg => rfl); (case hr => go_simp; try rfl); intro gb447 hg w53 hbox hb; have n0_ := Am_ (Vb_ (Ke_ (Pv_ HO424.out) gb447 (Nat.le_of_eq hg.symm)) hb); have n1_ := Am_ (Kd.S_below (Py_ HO431.out) hb); have n2_ := Am_ (Vb_ (Ke_ (Pv_ HO436.out) gb447 (Nat.le_of_eq hg.symm)) hb); have n3_ := Am_ (Vb_ (Ke_ (Pv_ HO443.out) gb447 (Nat.le_of_eq hg.symm)) hb); have n4_ := Am_ (Bb_ (g := gb418) (o := .cells #[.slice A0_0 l0_0.length c0_0, .int .i64 a0_1, .int .i64 a0_2] 24 (0, 0)) (Pk_ BK418.out) hb); have n5_ := Am_ (Bb_ (g := gb428) (o := .cells #[.slice Ao38 t422.length co38, .int .i64 t425, .int .i64 t426] 24 (0, 0)) (Pk_ BK428.out) hb); have n6_ := Am_ (Bb_ (g := gb440) (o := .cells #[.slice Ao46 t434.length co46, .int .i64 t437, .int .i64 t438] 33 (0, 0)) (Pk_ BK440.out) hb); have n7_ := Am_ (Be_ (Pb3_ HB.out GE418.out GE428.out GE440.out) hb); have n8_ := Am_ (hbox); have n9_ := Am_ ((by rw [hg]; exact (Bz_ (Pb3_ HB.out GE418.out GE428.out GE440.out)) : w.heap.size ≤ gb447)); have n10_ := Am_ ((by rw [hg]; exact (Bz_ (Pb3_ HB.out GE418.out GE428.out GE440.out)) : w.heap.size ≤ gb447)); have n11_ := Am_ ((by rw [hg]; exact Nat.ne_of_lt (blk_lt (g := gb418) (o := .cells #[.slice A0_0 l0_0.length c0_0, .int .i64 a0_1, .int .i64 a0_2] 24 (0, 0)) (Pk_ BK418.out)) : gb418 ≠ gb447)); have n12_ := Am_ ((by rw [hg]; exact Nat.ne_of_gt (blk_lt (g := gb418) (o := .cells #[.slice A0_0 l0_0.length c0_0, .int .i64 a0_1, .int .i64 a0_2] 24 (0, 0)) (Pk_ BK418.out)) : gb447 ≠ gb418)); have n13_ := Am_ ((by rw [hg]; exact Nat.ne_of_lt (blk_lt (g := gb428) (o := .cells #[.slice Ao38 t422.length co38, .int .i64 t425, .int .i64 t426] 24 (0, 0)) (Pk_ BK428.out)) : gb428 ≠ gb447)); have n14_ := Am_ ((by rw [hg]; exact Nat.ne_of_gt (blk_lt (g := gb428) (o := .cells #[.slice Ao38 t422.length co38, .int .i64 t425, .int .i64 t426] 24 (0, 0)) (Pk_ BK428.out)) : gb447 ≠ gb428)); have n15_ := Am_ ((by rw [hg]; exact Nat.ne_of_lt (blk_lt (g := gb440) (o := .cells #[.slice Ao46 t434.length co46, .int .i64 t437, .int .i64 t438] 33 (0, 0)) (Pk_ BK440.out)) : gb440 ≠ gb447)); have n16_ := Am_ ((by rw [hg]; exact Nat.ne_of_gt (blk_lt (g := gb440) (o := .cells #[.slice Ao46 t434.length co46, .int .i64 t437, .int .i64 t438] 33 (0, 0)) (Pk_ BK440.out)) : gb447 ≠ gb440)); clear HO424; clear HO431; clear HO436; clear HO443; clear BK418; clear BK428; clear BK440; clear HB; have HO424 := n0_; have HO431 := n1_; have HO436 := n2_; have HO443 := n3_; have BK418 := n4_; have BK428 := n5_; have BK440 := n6_; have HB := n7_; have BK447 := n8_; have GW447 := n9_; have GE447 := n10_; have NB418_447 := n11_; have NB447_418 := n12_; have NB428_447 := n13_; have NB447_428 := n14_; have NB440_447 := n15_; have NB447_440 := n16_; clear n0_ n1_ n2_ n3_ n4_ n5_ n6_ n7_ n8_ n9_ n10_ n11_ n12_ n13_ n14_ n15_ n16_; clear hb hbox hg; obtain ⟨Ao54, co54, eo54⟩ := Vx_ HO443.out; subst eo54; have hnb55 := NB447_418.out; have hnc55 := NB418_447.out; have hnb56 := NB447_428.out; have hnc56 := NB428_447.out; have hnb57 := NB447_440.out; have hnc57 := NB440_447.out; obtain ⟨hcz58_0, hcz58_1, hcz58_2, hfz58_0, hfz58_1, hfz58_2⟩ := Ce3_ BK447.out; obtain ⟨hcz59_0, hcz59_1, hcz59_2, hfz59_0, hfz59_1, hfz59_2⟩ := Ce3_ BK418.out) | ((with_reducible refine gate_callee (f := 13) rfl ?_); refine goesL_ (some 58) rfl rfl Try.func13 (by kernel_rfl) rfl #[.agg #[.slice A0_0 l0_0.length c0_0, .int .i64 a0_1, .int .i64 a0_2]] rfl (by (try simp only [List.map_toArray, List.map_cons, List.map_nil]); first | done | rfl | (simp only [List.length_drop, List.length_take]; rfl)) ?_; (with_reducible refine (flagstonelaw09_its.calls kj5 _ _ l0_0 a0_1 a0_2 t448 t451 t452 _ ?side1 ?side2 A26.out).mono ?_); (case side1 => exact Kd.C_below HR0_0.out (Pb4_ HB.out GE418.out GE428.out GE440.out GE447.out)); (case side2 => exact HC0_0.out); rintro e w60 ⟨v449, rfl, ho0, hb⟩; refine ⟨_, rfl, ?_⟩; have n0_ := Am_ (Kd.V_elder' (by (with_reducible repeat (first | apply Va_ | apply Vn_ | apply Vd_)); exact (Vm_ (Vf_ (p := ⟨gb447, 2, none⟩) (Vf_ (p := ⟨gb447, 1, none⟩) (Vf_ (p := ⟨gb447, 0, none⟩) (Vm_ HO424.out (fun k_ hk => (⟨hk, hk.2⟩ : _ ∧ k_ ≠ gb447))) (fun _ hk => hk.2) (.slice Ao54 t441.length co54)) (fun _ hk => hk.2) (.int .i64 t444)) (fun _ hk => hk.2) (.int .i64 t445)) (fun _ h_ => h_.1))) (Kd.S_base ho0) hb); have n1_ := Am_ (Kd.S_elder' (by (with_reducible repeat (first | apply Kd.S_alloc | apply Kd.S_drewN | apply Kd.S_drew)); exact (Kd.S_mono (Kd.S_far (p := ⟨gb447, 2, none⟩) (Kd.S_far (p := ⟨gb447, 1, none⟩) (Kd.S_far (p := ⟨gb447, 0, none⟩) (Kd.S_types HO431.out BK447.out (by decide)) (fun _ hk => hk.2) (.slice Ao54 t441.length co54)) (fun _ hk => hk.2) (.int .i64 t444)) (fun _ hk => hk.2) (.int .i64 t445)) (fun _ h_ => h_.1))) (Kd.S_base ho0) hb); have n2_ := Am_ (Kd.V_elder' (by (with_reducible repeat (first | apply Va_ | apply Vn_ | apply Vd_)); exact (Vm_ (Vf_ (p := ⟨gb447, 2, none⟩) (Vf_ (p := ⟨gb447, 1, none⟩) (Vf_ (p := ⟨gb447, 0, none⟩) (Vm_ HO436.out (fun k_ hk => (⟨hk, hk.2⟩ : _ ∧ k_ ≠ gb447))) (fun _ hk => hk.2) (.slice Ao54 t441.length co54)) (fun _ hk => hk.2) (.int .i64 t444)) (fun _ hk => hk.2) (.int .i64 t445)) (fun _ h_ => h_.1))) (Kd.S_base ho0) hb); have n3_ := Am_ (Kd.V_elder' (by (with_reducible repeat (first | apply Va_ | apply Vn_ | apply Vd_)); exact (Vm_ (Vf_ (p := ⟨gb447, 2, none⟩) (Vf_ (p := ⟨gb447, 1, none⟩) (Vf_ (p := ⟨gb447, 0, none⟩) (Vm_ HO443.out (fun k_ hk => (⟨hk, hk.2⟩ : _ ∧ k_ ≠ gb447))) (fun _ hk => hk.2) (.slice Ao54 t441.length co54)) (fun _ hk => hk.2) (.int .i64 t444)) (fun _ hk => hk.2) (.int .i64 t445)) (fun _ h_ => h_.1))) (Kd.S_base ho0) hb); have n4_ := Am_ (Kd.S_lower (Kd.S_new' ho0 (Kd.S_lt (by (with_reducible repeat (first | apply Kd.S_alloc | apply Kd.S_drewN | apply Kd.S_drew)); exact (Kd.S_mono (Kd.S_far (p := ⟨gb447, 2, none⟩) (Kd.S_far (p := ⟨gb447, 1, none⟩) (Kd.S_far (p := ⟨gb447, 0, none⟩) (Kd.S_types HO431.out BK447.out (by decide)) (fun _ hk => hk.2) (.slice Ao54 t441.length co54)) (fun _ hk => hk.2) (.int .i64 t444)) (fun _ hk => hk.2) (.int .i64 t445)) (fun _ h_ => h_.1))))) (Bz_ (Pb4_ HB.out GE418.out GE428.out GE440.out GE447.out))); have n5_ := Am_ (Bb_ (g := gb418) (o := .cells #[.slice A0_0 l0_0.length c0_0, .int .i64 a0_1, .int .i64 a0_2] 24 (0, 0)) (by (with_reducible repeat (first | refine Bn_ ?_ _ | refine Bd_ ?_ | refine Ba_ ?_ _)); refine blk_far ?_ NB418_447.out _; (with_reducible repeat (first | refine Bn_ ?_ _ | refine Bd_ ?_ | refine Ba_ ?_ _)); refine blk_far ?_ NB418_447.out _; (with_reducible repeat (first | refine Bn_ ?_ _ | refine Bd_ ?_ | refine Ba_ ?_ _)); refine blk_far ?_ NB418_447.out _; (with_reducible repeat (first | refine Bn_ ?_ _ | refine Bd_ ?_ | refine Ba_ ?_ _)); exact BK418.out) hb); have n6_ := Am_ (Bb_ (g := gb428) (o := .cells #[.slice Ao38 t422.length co38, .int .i64 t425, .int .i64 t426] 24 (0, 0)) (by (with_reducible repeat (first | refine Bn_ ?_ _ | refine Bd_ ?_ | refine Ba_ ?_ _)); refine blk_far ?_ NB428_447.out _; (with_reducible repeat (first | refine Bn_ ?_ _ | refine Bd_ ?_ | refine Ba_ ?_ _)); refine blk_far ?_ NB428_447.out _; (with_reducible repeat (first | refine Bn_ ?_ _ | refine Bd_ ?_ | refine Ba_ ?_ _)); refine blk_far ?_ NB428_447.out _; (with_reducible repeat (first | refine Bn_ ?_ _ | refine Bd_ ?_ | refine Ba_ ?_ _)); exact BK428.out) hb); have n7_ := Am_ (Bb_ (g := gb440) (o := .cells #[.slice Ao46 t434.length co46, .int .i64 t437, .int .i64 t438] 33 (0, 0)) (by (with_reducible repeat (first | refine Bn_ ?_ _ | refine Bd_ ?_ | refine Ba_ ?_ _)); refine blk_far ?_ NB440_447.out _; (with_reducible repeat (first | refine Bn_ ?_ _ | refine Bd_ ?_ | refine Ba_ ?_ _)); refine blk_far ?_ NB440_447.out _; (with_reducible repeat (first | refine Bn_ ?_ _ | refine Bd_ ?_ | refine Ba_ ?_ _)); refine blk_far ?_ NB440_447.out _; (with_reducible repeat (first | refine Bn_ ?_ _ | refine Bd_ ?_ | refine Ba_ ?_ _)); exact BK440.out) hb); have n8_ := Am_ (Bb_ (g := gb447) (o := .cells #[.slice Ao54 t441.length co54, .int .i64 t444, .int .i64 t445] 24 (0, 0)) (by (with_reducible repeat (first | refine Bn_ ?_ _ | refine Bd_ ?_ | refine Ba_ ?_ _)); refine Bp_ (cs := #[.slice Ao54 t441.length co54, .int .i64 t444, .int .i64 0]) ?_ 2 _ rfl; (with_reducible repeat (first | refine Bn_ ?_ _ | refine Bd_ ?_ | refine Ba_ ?_ _)); refine Bp_ (cs := #[.slice Ao54 t441.length co54, .int .i64 0, .int .i64 0]) ?_ 1 _ rfl; (with_reducible repeat (first | refine Bn_ ?_ _ | refine Bd_ ?_ | refine Ba_ ?_ _)); refine Bp_ (cs := #[.slice none 0 0, .int .i64 0, .int .i64 0]) ?_ 0 _ rfl; (with_reducible repeat (first | refine Bn_ ?_ _ | refine Bd_ ?_ | refine Ba_ ?_ _)); exact BK447.out) hb); have n9_ := Am_ (Be_ (Pb4_ HB.out GE418.out GE428.out GE440.out GE447.out) hb); clear HO424; clear HO431; clear HO436; clear HO443; clear BK418; clear BK428; clear BK440; clear BK447; clear HB; have HO424 := n0_; have HO431 := n1_; have HO436 := n2_; have HO443 := n3_; have HO450 := n4_; have BK418 := n5_; have BK428 := n6_; have BK440 := n7_; have BK447 := n8_; have HB := n9_; clear n0_ n1_ n2_ n3_ n4_ n5_ n6_ n7_ n8_ n9_; (try clear hb); (try clear hb2); (try clear hk); (try clear hi); (try clear ho0); obtain ⟨Ao61, co61, eo61⟩ := Kd.S_slice HO450.out; subst eo61) | ((with_reducible refine gate_callee (f := 19) rfl ?_); refine goesL_ (some 61) rfl rfl Try.func19 (by kernel_rfl) rfl #[.agg #[.slice Ao61 t448.length co61, .int .i64 t451, .int .i64 t452], .int .i64 a1, .int .i64 a4] rfl (by (try simp only [List.map_toArray, List.map_cons, List.map_nil]); first | done | rfl | (simp only [List.length_drop, List.length_take]; rfl)) ?_; (with_reducible refine (flagstoneref09_Cut.calls kj5 (fun k_ => (((((True ∧ some k_ ≠ (.slice Ao43 t429.length co43 : Value).ownBlock) ∧ k_ ≠ gb418) ∧ k_ ≠ gb428) ∧ k_ ≠ gb440) ∧ k_ ≠ gb447)) _ _ t448 t451 t452 a1 a4 t453 t456 t457 t458 _ ?side1 A27.out).mono ?_); (case side1 => exact Kd.S_V (Kd.S_types (Kd.S_types (Kd.S_types (Kd.S_types (HO450.out) BK418.out (by decide)) BK428.out (by decide)) BK440.out (by decide)) BK447.out (by decide))); rintro e w62 ⟨v454, rfl, ho0, hb⟩; refine ⟨_, rfl, ?_⟩; have n0_ := Am_ (Vb_ (Pv_ HO424.out) hb); have n1_ := Am_ (Kd.S_below (Py_ HO431.out) hb); have n2_ := Am_ (Vb_ (Pv_ HO436.out) hb); have n3_ := Am_ (Vb_ (Pv_ HO443.out) hb); have n4_ := Am_ (Kd.S_below (Py_ HO450.out) hb); have n5_ := Am_ (Vl_ (Vm_ (ok' := fun k_ => some k_ ≠ (.slice Ao43 t429.length co43 : Value).ownBlock ∧ k_ ≠ gb418 ∧ k_ ≠ gb428 ∧ k_ ≠ gb440 ∧ k_ ≠ gb447) ho0 (fun k_ hk_ => ⟨Or.elim hk_ (fun hs_ => hs_.1.1.1.1.2) (fun hn_ => (Kd.fresh' (Kd.S_lt (Py_ HO431.out)) k_ hn_)), Or.elim hk_ (fun hs_ => hs_.1.1.1.2) (fun hn_ => (Kd.freshB (g := gb418) (o := .cells #[.slice A0_0 l0_0.length c0_0, .int .i64 a0_1, .int .i64 a0_2] 24 (0, 0)) (Pk_ BK418.out) k_ hn_)), Or.elim hk_ (fun hs_ => hs_.1.1.2) (fun hn_ => (Kd.freshB (g := gb428) (o := .cells #[.slice Ao38 t422.length co38, .int .i64 t425, .int .i64 t426] 24 (0, 0)) (Pk_ BK428.out) k_ hn_)), Or.elim hk_ (fun hs_ => hs_.1.2) (fun hn_ => (Kd.freshB (g := gb440) (o := .cells #[.slice Ao46 t434.length co46, .int .i64 t437, .int .i64 t438] 33 (0, 0)) (Pk_ BK440.out) k_ hn_)), Or.elim hk_ (fun hs_ => hs_.2) (fun hn_ => (Kd.freshB (g := gb447) (o := .cells #[.slice Ao54 t441.length co54, .int .i64 t444, .int .i64 t445] 24 (0, 0)) (Pk_ BK447.out) k_ hn_))⟩)) (Bz_ (Pb4_ HB.out GE418.out GE428.out GE440.out GE447.out))); have n6_ := Am_ (Bb_ (g := gb418) (o := .cells #[.slice A0_0 l0_0.length c0_0, .int .i64 a0_1, .int .i64 a0_2] 24 (0, 0)) (Pk_ BK418.out) hb); have n7_ := Am_ (Bb_ (g := gb428) (o := .cells #[.slice Ao38 t422.length co38, .int .i64 t425, .int .i64 t426] 24 (0, 0)) (Pk_ BK428.out) hb); have n8_ := Am_ (Bb_ (g := gb440) (o := .cells #[.slice Ao46 t434.length co46, .int .i64 t437, .int .i64 t438] 33 (0, 0)) (Pk_ BK440.out) hb); have n9_ := Am_ (Bb_ (g := gb447) (o := .cells #[.slice Ao54 t441.length co54, .int .i64 t444, .int .i64 t445] 24 (0, 0)) (Pk_ BK447.out) hb); have n10_ := Am_ (Be_ (Pb4_ HB.out GE418.out GE428.out GE440.out GE447.out) hb); clear HO424; clear HO431; clear HO436; clear HO443; clear HO450; clear BK418; clear BK428; clear BK440; clear BK447; clear HB; have HO424 := n0_; have HO431 := n1_; have HO436 := n2_; have HO443 := n3_; have HO450 := n4_; have HO455 := n5_; have BK418 := n6_; have BK428 := n7_; have BK440 := n8_; have BK447 := n9_; have HB := n10_; clear n0_ n1_ n2_ n3_ n4_ n5_ n6_ n7_ n8_ n9_ n10_; (try clear hb); (try clear hb2); (try clear hk); (try clear hi); (try clear ho0)) | ((with_reducible refine gate_dst (N := 17) rfl ?_); (try (refine gate_guard (by rfl) ?_; dsimp only)); refine box_event ?hg (N := 17) ?hd (cs := #[.slice none 0 0, .int .i64 0, .int .i64 0]) (t := 33) ?hr ?_; (case hd => rfl); (case hg => rfl); (case hr => go_simp; try rfl); intro gb459 hg w63 hbox hb; have n0_ := Am_ (Vb_ (Ke_ (Pv_ HO424.out) gb459 (Nat.le_of_eq hg.symm)) hb); have n1_ := Am_ (Kd.S_below (Py_ HO431.out) hb); have n2_ := Am_ (Vb_ (Ke_ (Pv_ HO436.out) gb459 (Nat.le_of_eq hg.symm)) hb); have n3_ := Am_ (Vb_ (Ke_ (Pv_ HO443.out) gb459 (Nat.le_of_eq hg.symm)) hb); have n4_ := Am_ (Kd.S_below (Py_ HO450.out) hb); have n5_ := Am_ (Vb_ (Ke_ (Pv_ HO455.out) gb459 (Nat.le_of_eq hg.symm)) hb); have n6_ := Am_ (Bb_ (g := gb418) (o := .cells #[.slice A0_0 l0_0.length c0_0, .int .i64 a0_1, .int .i64 a0_2] 24 (0, 0)) (Pk_ BK418.out) hb); have n7_ := Am_ (Bb_ (g := gb428) (o := .cells #[.slice Ao38 t422.length co38, .int .i64 t425, .int .i64 t426] 24 (0, 0)) (Pk_ BK428.out) hb); have n8_ := Am_ (Bb_ (g := gb440) (o := .cells #[.slice Ao46 t434.length co46, .int .i64 t437, .int .i64 t438] 33 (0, 0)) (Pk_ BK440.out) hb); have n9_ := Am_ (Bb_ (g := gb447) (o := .cells #[.slice Ao54 t441.length co54, .int .i64 t444, .int .i64 t445] 24 (0, 0)) (Pk_ BK447.out) hb); have n10_ := Am_ (Be_ (Pb4_ HB.out GE418.out GE428.out GE440.out GE447.out) hb); have n11_ := Am_ (hbox); have n12_ := Am_ ((by rw [hg]; exact (Bz_ (Pb4_ HB.out GE418.out GE428.out GE440.out GE447.out)) : w.heap.size ≤ gb459)); have n13_ := Am_ ((by rw [hg]; exact (Bz_ (Pb4_ HB.out GE418.out GE428.out GE440.out GE447.out)) : w.heap.size ≤ gb459)); have n14_ := Am_ ((by rw [hg]; exact Nat.ne_of_lt (blk_lt (g := gb418) (o := .cells #[.slice A0_0 l0_0.length c0_0, .int .i64 a0_1, .int .i64 a0_2] 24 (0, 0)) (Pk_ BK418.out)) : gb418 ≠ gb459)); have n15_ := Am_ ((by rw [hg]; exact Nat.ne_of_gt (blk_lt (g := gb418) (o := .cells #[.slice A0_0 l0_0.length c0_0, .int .i64 a0_1, .int .i64 a0_2] 24 (0, 0)) (Pk_ BK418.out)) : gb459 ≠ gb418)); have n16_ := Am_ ((by rw [hg]; exact Nat.ne_of_lt (blk_lt (g := gb428) (o := .cells #[.slice Ao38 t422.length co38, .int .i64 t425, .int .i64 t426] 24 (0, 0)) (Pk_ BK428.out)) : gb428 ≠ gb459)); have n17_ := Am_ ((by rw [hg]; exact Nat.ne_of_gt (blk_lt (g := gb428) (o := .cells #[.slice Ao38 t422.length co38, .int .i64 t425, .int .i64 t426] 24 (0, 0)) (Pk_ BK428.out)) : gb459 ≠ gb428)); have n18_ := Am_ ((by rw [hg]; exact Nat.ne_of_lt (blk_lt (g := gb440) (o := .cells #[.slice Ao46 t434.length co46, .int .i64 t437, .int .i64 t438] 33 (0, 0)) (Pk_ BK440.out)) : gb440 ≠ gb459)); have n19_ := Am_ ((by rw [hg]; exact Nat.ne_of_gt (blk_lt (g := gb440) (o := .cells #[.slice Ao46 t434.length co46, .int .i64 t437, .int .i64 t438] 33 (0, 0)) (Pk_ BK440.out)) : gb459 ≠ gb440)); have n20_ := Am_ ((by rw [hg]; exact Nat.ne_of_lt (blk_lt (g := gb447) (o := .cells #[.slice Ao54 t441.length co54, .int .i64 t444, .int .i64 t445] 24 (0, 0)) (Pk_ BK447.out)) : gb447 ≠ gb459)); have n21_ := Am_ ((by rw [hg]; exact Nat.ne_of_gt (blk_lt (g := gb447) (o := .cells #[.slice Ao54 t441.length co54, .int .i64 t444, .int .i64 t445] 24 (0, 0)) (Pk_ BK447.out)) : gb459 ≠ gb447)); clear HO424; clear HO431; clear HO436; clear HO443; clear HO450; clear HO455; clear BK418; clear BK428; clear BK440; clear BK447; clear HB; have HO424 := n0_; have HO431 := n1_; have HO436 := n2_; have HO443 := n3_; have HO450 := n4_; have HO455 := n5_; have BK418 := n6_; have BK428 := n7_; have BK440 := n8_; have BK447 := n9_; have HB := n10_; have BK459 := n11_; have GW459 := n12_; have GE459 := n13_; have NB418_459 := n14_; have NB459_418 := n15_; have NB428_459 := n16_; have NB459_428 := n17_; have NB440_459 := n18_; have NB459_440 := n19_; have NB447_459 := n20_; have NB459_447 := n21_; clear n0_ n1_ n2_ n3_ n4_ n5_ n6_ n7_ n8_ n9_ n10_ n11_ n12_ n13_ n14_ n15_ n16_ n17_ n18_ n19_ n20_ n21_; clear hb hbox hg; obtain ⟨Ao64, co64, eo64⟩ := Vx_ HO455.out; subst eo64; have hnb65 := NB459_418.out; have hnc65 := NB418_459.out; have hnb66 := NB459_428.out; have hnc66 := NB428_459.out; have hnb67 := NB459_440.out; have hnc67 := NB440_459.out; have hnb68 := NB459_447.out; have hnc68 := NB447_459.out; obtain ⟨hcz69_0, hcz69_1, hcz69_2, hfz69_0, hfz69_1, hfz69_2⟩ := Ce3_ BK459.out))
       have n0_ : Aside0 (Kd.V k59 59 (((w63.setCell ⟨gb459, 0, none⟩ (.slice Ao64 t453.length co64)).setCell ⟨gb459, 1, none⟩ (.int .i64 t456)).setCell ⟨gb459, 2, none⟩ (.int .i64 t457)) w.heap.size (fun k_ => some k_ ≠ (.slice Ao43 t429.length co43 : Value).ownBlock ∧ some k_ ≠ (.slice Ao61 t448.length co61 : Value).ownBlock ∧ k_ ≠ gb418 ∧ k_ ≠ gb428 ∧ k_ ≠ gb440 ∧ k_ ≠ gb447 ∧ k_ ≠ gb459) (.slice Ao38 t422.length co38) t422) := ⟨by (with_reducible repeat (first | apply Va_ | apply Vn_ | apply Vd_)); exact Vm_ (Vf_ (p := ⟨gb459, 2, none⟩) (Vf_ (p := ⟨gb459, 1, none⟩) (Vf_ (p := ⟨gb459, 0, none⟩) (Vm_ HO424.out (fun k_ hk => (⟨hk, hk.2⟩ : _ ∧ k_ ≠ gb459))) (fun _ hk => hk.2) (.slice Ao64 t453.length co64)) (fun _ hk => hk.2) (.int .i64 t456)) (fun _ hk => hk.2) (.int .i64 t457)) (fun _ hk => ⟨hk.1.1.1.1.1, ⟨hk.1.1.2, ⟨hk.1.1.1.1.2.1, ⟨hk.1.1.1.1.2.2.1, ⟨hk.1.1.1.1.2.2.2, ⟨hk.1.1.1.2, hk.1.2⟩⟩⟩⟩⟩⟩)⟩
       have n1_ : Aside0 (Kd.S k53 53 (((w63.setCell ⟨gb459, 0, none⟩ (.slice Ao64 t453.length co64)).setCell ⟨gb459, 1, none⟩ (.int .i64 t456)).setCell ⟨gb459, 2, none⟩ (.int .i64 t457)) w.heap.size (fun k_ => some k_ ≠ (.slice Ao61 t448.length co61 : Value).ownBlock) (.slice Ao43 t429.length co43) t429) := ⟨by (with_reducible repeat (first | apply Kd.S_alloc | apply Kd.S_drewN | apply Kd.S_drew)); exact Kd.S_mono (Kd.S_far (p := ⟨gb459, 2, none⟩) (Kd.S_far (p := ⟨gb459, 1, none⟩) (Kd.S_far (p := ⟨gb459, 0, none⟩) (Kd.S_types HO431.out BK459.out (by decide)) (fun _ hk => hk.2) (.slice Ao64 t453.length co64)) (fun _ hk => hk.2) (.int .i64 t456)) (fun _ hk => hk.2) (.int .i64 t457)) (fun _ hk => hk.1.2)⟩
       have n2_ : Aside0 (Kd.V k53 53 (((w63.setCell ⟨gb459, 0, none⟩ (.slice Ao64 t453.length co64)).setCell ⟨gb459, 1, none⟩ (.int .i64 t456)).setCell ⟨gb459, 2, none⟩ (.int .i64 t457)) w.heap.size (fun k_ => some k_ ≠ (.slice Ao61 t448.length co61 : Value).ownBlock ∧ k_ ≠ gb418 ∧ k_ ≠ gb428 ∧ k_ ≠ gb440 ∧ k_ ≠ gb447 ∧ k_ ≠ gb459) (.slice Ao46 t434.length co46) t434) := ⟨by (with_reducible repeat (first | apply Va_ | apply Vn_ | apply Vd_)); exact Vm_ (Vf_ (p := ⟨gb459, 2, none⟩) (Vf_ (p := ⟨gb459, 1, none⟩) (Vf_ (p := ⟨gb459, 0, none⟩) (Vm_ HO436.out (fun k_ hk => (⟨hk, hk.2⟩ : _ ∧ k_ ≠ gb459))) (fun _ hk => hk.2) (.slice Ao64 t453.length co64)) (fun _ hk => hk.2) (.int .i64 t456)) (fun _ hk => hk.2) (.int .i64 t457)) (fun _ hk => ⟨hk.1.1.2, ⟨hk.1.1.1.1.1, ⟨hk.1.1.1.1.2.1, ⟨hk.1.1.1.1.2.2, ⟨hk.1.1.1.2, hk.1.2⟩⟩⟩⟩⟩)⟩
       have n3_ : Aside0 (Kd.V k59 59 (((w63.setCell ⟨gb459, 0, none⟩ (.slice Ao64 t453.length co64)).setCell ⟨gb459, 1, none⟩ (.int .i64 t456)).setCell ⟨gb459, 2, none⟩ (.int .i64 t457)) w.heap.size (fun k_ => some k_ ≠ (.slice Ao43 t429.length co43 : Value).ownBlock ∧ some k_ ≠ (.slice Ao61 t448.length co61 : Value).ownBlock ∧ k_ ≠ gb418 ∧ k_ ≠ gb428 ∧ k_ ≠ gb440 ∧ k_ ≠ gb447 ∧ k_ ≠ gb459) (.slice Ao54 t441.length co54) t441) := ⟨by (with_reducible repeat (first | apply Va_ | apply Vn_ | apply Vd_)); exact Vm_ (Vf_ (p := ⟨gb459, 2, none⟩) (Vf_ (p := ⟨gb459, 1, none⟩) (Vf_ (p := ⟨gb459, 0, none⟩) (Vm_ HO443.out (fun k_ hk => (⟨hk, hk.2⟩ : _ ∧ k_ ≠ gb459))) (fun _ hk => hk.2) (.slice Ao64 t453.length co64)) (fun _ hk => hk.2) (.int .i64 t456)) (fun _ hk => hk.2) (.int .i64 t457)) (fun _ hk => ⟨hk.1.1.1.1.1, ⟨hk.1.1.2, ⟨hk.1.1.1.1.2.1, ⟨hk.1.1.1.1.2.2.1, ⟨hk.1.1.1.1.2.2.2, ⟨hk.1.1.1.2, hk.1.2⟩⟩⟩⟩⟩⟩)⟩
       have n4_ : Aside0 (Kd.S k53 53 (((w63.setCell ⟨gb459, 0, none⟩ (.slice Ao64 t453.length co64)).setCell ⟨gb459, 1, none⟩ (.int .i64 t456)).setCell ⟨gb459, 2, none⟩ (.int .i64 t457)) w.heap.size (fun k_ => some k_ ≠ (.slice Ao43 t429.length co43 : Value).ownBlock) (.slice Ao61 t448.length co61) t448) := ⟨by (with_reducible repeat (first | apply Kd.S_alloc | apply Kd.S_drewN | apply Kd.S_drew)); exact Kd.S_mono (Kd.S_far (p := ⟨gb459, 2, none⟩) (Kd.S_far (p := ⟨gb459, 1, none⟩) (Kd.S_far (p := ⟨gb459, 0, none⟩) (Kd.S_types HO450.out BK459.out (by decide)) (fun _ hk => hk.2) (.slice Ao64 t453.length co64)) (fun _ hk => hk.2) (.int .i64 t456)) (fun _ hk => hk.2) (.int .i64 t457)) (fun _ hk => hk.1.2)⟩
       have n5_ : Aside0 (Kd.V k53 53 (((w63.setCell ⟨gb459, 0, none⟩ (.slice Ao64 t453.length co64)).setCell ⟨gb459, 1, none⟩ (.int .i64 t456)).setCell ⟨gb459, 2, none⟩ (.int .i64 t457)) w.heap.size (fun k_ => some k_ ≠ (.slice Ao43 t429.length co43 : Value).ownBlock ∧ k_ ≠ gb418 ∧ k_ ≠ gb428 ∧ k_ ≠ gb440 ∧ k_ ≠ gb447 ∧ k_ ≠ gb459) (.slice Ao64 t453.length co64) t453) := ⟨by (with_reducible repeat (first | apply Va_ | apply Vn_ | apply Vd_)); exact Vm_ (Vf_ (p := ⟨gb459, 2, none⟩) (Vf_ (p := ⟨gb459, 1, none⟩) (Vf_ (p := ⟨gb459, 0, none⟩) (Vm_ HO455.out (fun k_ hk => (⟨hk, hk.2⟩ : _ ∧ k_ ≠ gb459))) (fun _ hk => hk.2) (.slice Ao64 t453.length co64)) (fun _ hk => hk.2) (.int .i64 t456)) (fun _ hk => hk.2) (.int .i64 t457)) (fun _ hk => ⟨hk.1.1.1, ⟨hk.1.1.2.1, ⟨hk.1.1.2.2.1, ⟨hk.1.1.2.2.2.1, ⟨hk.1.1.2.2.2.2, hk.1.2⟩⟩⟩⟩⟩)⟩
       have n6_ : Aside0 ((((w63.setCell ⟨gb459, 0, none⟩ (.slice Ao64 t453.length co64)).setCell ⟨gb459, 1, none⟩ (.int .i64 t456)).setCell ⟨gb459, 2, none⟩ (.int .i64 t457)).heap[gb418]? = some (.cells #[.slice A0_0 l0_0.length c0_0, .int .i64 a0_1, .int .i64 a0_2] 24 (0, 0))) := ⟨by (with_reducible repeat (first | refine Bn_ ?_ _ | refine Bd_ ?_ | refine Ba_ ?_ _)); refine blk_far ?_ NB418_459.out _; (with_reducible repeat (first | refine Bn_ ?_ _ | refine Bd_ ?_ | refine Ba_ ?_ _)); refine blk_far ?_ NB418_459.out _; (with_reducible repeat (first | refine Bn_ ?_ _ | refine Bd_ ?_ | refine Ba_ ?_ _)); refine blk_far ?_ NB418_459.out _; (with_reducible repeat (first | refine Bn_ ?_ _ | refine Bd_ ?_ | refine Ba_ ?_ _)); exact BK418.out⟩
       have n7_ : Aside0 ((((w63.setCell ⟨gb459, 0, none⟩ (.slice Ao64 t453.length co64)).setCell ⟨gb459, 1, none⟩ (.int .i64 t456)).setCell ⟨gb459, 2, none⟩ (.int .i64 t457)).heap[gb428]? = some (.cells #[.slice Ao38 t422.length co38, .int .i64 t425, .int .i64 t426] 24 (0, 0))) := ⟨by (with_reducible repeat (first | refine Bn_ ?_ _ | refine Bd_ ?_ | refine Ba_ ?_ _)); refine blk_far ?_ NB428_459.out _; (with_reducible repeat (first | refine Bn_ ?_ _ | refine Bd_ ?_ | refine Ba_ ?_ _)); refine blk_far ?_ NB428_459.out _; (with_reducible repeat (first | refine Bn_ ?_ _ | refine Bd_ ?_ | refine Ba_ ?_ _)); refine blk_far ?_ NB428_459.out _; (with_reducible repeat (first | refine Bn_ ?_ _ | refine Bd_ ?_ | refine Ba_ ?_ _)); exact BK428.out⟩
       have n8_ : Aside0 ((((w63.setCell ⟨gb459, 0, none⟩ (.slice Ao64 t453.length co64)).setCell ⟨gb459, 1, none⟩ (.int .i64 t456)).setCell ⟨gb459, 2, none⟩ (.int .i64 t457)).heap[gb440]? = some (.cells #[.slice Ao46 t434.length co46, .int .i64 t437, .int .i64 t438] 33 (0, 0))) := ⟨by (with_reducible repeat (first | refine Bn_ ?_ _ | refine Bd_ ?_ | refine Ba_ ?_ _)); refine blk_far ?_ NB440_459.out _; (with_reducible repeat (first | refine Bn_ ?_ _ | refine Bd_ ?_ | refine Ba_ ?_ _)); refine blk_far ?_ NB440_459.out _; (with_reducible repeat (first | refine Bn_ ?_ _ | refine Bd_ ?_ | refine Ba_ ?_ _)); refine blk_far ?_ NB440_459.out _; (with_reducible repeat (first | refine Bn_ ?_ _ | refine Bd_ ?_ | refine Ba_ ?_ _)); exact BK440.out⟩
       have n9_ : Aside0 ((((w63.setCell ⟨gb459, 0, none⟩ (.slice Ao64 t453.length co64)).setCell ⟨gb459, 1, none⟩ (.int .i64 t456)).setCell ⟨gb459, 2, none⟩ (.int .i64 t457)).heap[gb447]? = some (.cells #[.slice Ao54 t441.length co54, .int .i64 t444, .int .i64 t445] 24 (0, 0))) := ⟨by (with_reducible repeat (first | refine Bn_ ?_ _ | refine Bd_ ?_ | refine Ba_ ?_ _)); refine blk_far ?_ NB447_459.out _; (with_reducible repeat (first | refine Bn_ ?_ _ | refine Bd_ ?_ | refine Ba_ ?_ _)); refine blk_far ?_ NB447_459.out _; (with_reducible repeat (first | refine Bn_ ?_ _ | refine Bd_ ?_ | refine Ba_ ?_ _)); refine blk_far ?_ NB447_459.out _; (with_reducible repeat (first | refine Bn_ ?_ _ | refine Bd_ ?_ | refine Ba_ ?_ _)); exact BK447.out⟩
       have n10_ : Aside0 ((((w63.setCell ⟨gb459, 0, none⟩ (.slice Ao64 t453.length co64)).setCell ⟨gb459, 1, none⟩ (.int .i64 t456)).setCell ⟨gb459, 2, none⟩ (.int .i64 t457)).heap[gb459]? = some (.cells #[.slice Ao64 t453.length co64, .int .i64 t456, .int .i64 t457] 33 (0, 0))) := ⟨by (with_reducible repeat (first | refine Bn_ ?_ _ | refine Bd_ ?_ | refine Ba_ ?_ _)); refine Bp_ (cs := #[.slice Ao64 t453.length co64, .int .i64 t456, .int .i64 0]) ?_ 2 _ rfl; (with_reducible repeat (first | refine Bn_ ?_ _ | refine Bd_ ?_ | refine Ba_ ?_ _)); refine Bp_ (cs := #[.slice Ao64 t453.length co64, .int .i64 0, .int .i64 0]) ?_ 1 _ rfl; (with_reducible repeat (first | refine Bn_ ?_ _ | refine Bd_ ?_ | refine Ba_ ?_ _)); refine Bp_ (cs := #[.slice none 0 0, .int .i64 0, .int .i64 0]) ?_ 0 _ rfl; (with_reducible repeat (first | refine Bn_ ?_ _ | refine Bd_ ?_ | refine Ba_ ?_ _)); exact BK459.out⟩
       have n11_ : Aside0 (Below w.heap.size w (((w63.setCell ⟨gb459, 0, none⟩ (.slice Ao64 t453.length co64)).setCell ⟨gb459, 1, none⟩ (.int .i64 t456)).setCell ⟨gb459, 2, none⟩ (.int .i64 t457))) := ⟨by repeat (first | (with_reducible first | exact HB.out | apply Pa_ | apply Pn_ | apply Pd_ | refine Bs_ ?_ GE418.out | refine Bs_ ?_ GE428.out | refine Bs_ ?_ GE440.out | refine Bs_ ?_ GE447.out | refine Bs_ ?_ GE459.out) | exact HB.out)⟩
       (try clear HO424)
       (try clear HO431)
       (try clear HO436)
       (try clear HO443)
       (try clear HO450)
       (try clear HO455)
       (try clear BK418)
       (try clear BK428)
       (try clear BK440)
       (try clear BK447)
       (try clear BK459)
       (try clear HB)
       generalize (((w63.setCell ⟨gb459, 0, none⟩ (.slice Ao64 t453.length co64)).setCell ⟨gb459, 1, none⟩ (.int .i64 t456)).setCell ⟨gb459, 2, none⟩ (.int .i64 t457)) = w70 at n0_ n1_ n2_ n3_ n4_ n5_ n6_ n7_ n8_ n9_ n10_ n11_ ⊢
       have HO424 := n0_
       have HO431 := n1_
       have HO436 := n2_
       have HO443 := n3_
       have HO450 := n4_
       have HO455 := n5_
       have BK418 := n6_
       have BK428 := n7_
       have BK440 := n8_
       have BK447 := n9_
       have BK459 := n10_
       have HB := n11_
       clear n0_ n1_ n2_ n3_ n4_ n5_ n6_ n7_ n8_ n9_ n10_ n11_
       have n0_ := Am_ (Vd_ HO424.out)
       have n1_ := Am_ (Kd.S_drew HO431.out)
       have n2_ := Am_ (Vd_ HO436.out)
       have n3_ := Am_ (Vd_ HO443.out)
       have n4_ := Am_ (Kd.S_drew HO450.out)
       have n5_ := Am_ (Vd_ HO455.out)
       have n6_ := Am_ (Bd_ BK418.out)
       have n7_ := Am_ (Bd_ BK428.out)
       have n8_ := Am_ (Bd_ BK440.out)
       have n9_ := Am_ (Bd_ BK447.out)
       have n10_ := Am_ (Bd_ BK459.out)
       have n11_ := Am_ (Pd_ HB.out)
       clear HO424
       clear HO431
       clear HO436
       clear HO443
       clear HO450
       clear HO455
       clear BK418
       clear BK428
       clear BK440
       clear BK447
       clear BK459
       clear HB
       have HO424 := n0_
       have HO431 := n1_
       have HO436 := n2_
       have HO443 := n3_
       have HO450 := n4_
       have HO455 := n5_
       have BK418 := n6_
       have BK428 := n7_
       have BK440 := n8_
       have BK447 := n9_
       have BK459 := n10_
       have HB := n11_
       clear n0_ n1_ n2_ n3_ n4_ n5_ n6_ n7_ n8_ n9_ n10_ n11_
       refine start_ (n := 21) (S := fun w' => w'.cell? ⟨gb428, 0, none⟩ = some (.slice Ao38 t422.length co38) ∧ w'.cell? ⟨gb428, 1, none⟩ = some (.int .i64 t425) ∧ w'.cell? ⟨gb428, 2, none⟩ = some (.int .i64 t426) ∧ w'.cell? ⟨gb440, 0, none⟩ = some (.slice Ao46 t434.length co46) ∧ w'.cell? ⟨gb440, 1, none⟩ = some (.int .i64 t437) ∧ w'.cell? ⟨gb440, 2, none⟩ = some (.int .i64 t438) ∧ w'.cell? ⟨gb447, 0, none⟩ = some (.slice Ao54 t441.length co54) ∧ w'.cell? ⟨gb447, 1, none⟩ = some (.int .i64 t444) ∧ w'.cell? ⟨gb447, 2, none⟩ = some (.int .i64 t445) ∧ w'.cell? ⟨gb459, 0, none⟩ = some (.slice Ao64 t453.length co64) ∧ w'.cell? ⟨gb459, 1, none⟩ = some (.int .i64 t456) ∧ w'.cell? ⟨gb459, 2, none⟩ = some (.int .i64 t457)) (ds := []) #[f_,f_,f_,f_,f_,f_,f_,f_,f_,f_,f_,f_,f_,f_,f_,f_,f_,f_,f_,f_,f_] (by kernel_rfl) rfl rfl ⟨(Bc_ BK428.out 0).trans rfl, (Bc_ BK428.out 1).trans rfl, (Bc_ BK428.out 2).trans rfl, (Bc_ BK440.out 0).trans rfl, (Bc_ BK440.out 1).trans rfl, (Bc_ BK440.out 2).trans rfl, (Bc_ BK447.out 0).trans rfl, (Bc_ BK447.out 1).trans rfl, (Bc_ BK447.out 2).trans rfl, (Bc_ BK459.out 0).trans rfl, (Bc_ BK459.out 1).trans rfl, (Bc_ BK459.out 2).trans rfl⟩ (fun hHeld => ?_); refine with_tabW flagstonelaw09_ContentWrites.tab7 flagstonelaw09_ContentWrites.bits7 (fun HT_ HW_ => ?_)
       generalize w70.drew = w71 at HO424 HO431 HO436 HO443 HO450 HO455 BK418 BK428 BK440 BK447 BK459 HB hHeld ⊢
       refine take_ (i := 0) (N := some 64) (v := ?_) (a' := ?_) #[t_,f_,f_,f_,f_,f_,f_,f_,f_,f_,f_,f_,f_,f_,f_,f_,f_,f_,f_,f_,f_] rfl rfl (take_ofW HT_.out HW_.out (by kernel_rfl)) (fun _ _ _ h => h) (Or.inl ⟨by rfl, ?_⟩) hHeld ?_ ?_
       rotate_left
       ·rintro w' ⟨s0, s1, s2, s3, s4, s5, s6, s7, s8, s9, s10, s11⟩
        go_simp
        with_reducible rfl
       rotate_left
       ·simp only [Act.put, La_, Lb_, Lc_, i64_w, i32_w]
        rfl
       refine take_ (i := 2) (N := some 66) (v := ?_) (a' := ?_) #[t_,f_,t_,f_,f_,f_,f_,f_,f_,f_,f_,f_,f_,f_,f_,f_,f_,f_,f_,f_,f_] rfl rfl (take_ofW HT_.out HW_.out (by kernel_rfl)) (fun _ _ _ h => h) (Or.inl ⟨by rfl, ?_⟩) hHeld ?_ ?_
       rotate_left
       ·rintro w' ⟨s0, s1, s2, s3, s4, s5, s6, s7, s8, s9, s10, s11⟩
        go_simp
        with_reducible rfl
       rotate_left
       ·simp only [Act.put, La_, Lb_, Lc_, i64_w, i32_w]
        rfl
       refine one_ (i := 1) (N := some 65) #[t_,t_,t_,f_,f_,f_,f_,f_,f_,f_,f_,f_,f_,f_,f_,f_,f_,f_,f_,f_,f_] rfl rfl (one_of HT_.out (by kernel_rfl)) (by decide) (fun K hK => ?_)
       refine goes_ Try.func13 (by kernel_rfl) rfl #[.agg #[.slice Ao38 t422.length co38, .int .i64 t425, .int .i64 t426]] (by rfl) rfl rfl (by (try simp only [List.map_toArray, List.map_cons, List.map_nil]); first | done | rfl | (simp only [List.length_drop, List.length_take]; rfl)) ?_
       with_reducible refine (flagstonelaw09_its.calls kj5 _ _ t422 t425 t426 t460 t463 t464 _ ?side1 ?side2 A28.out).mono ?_
       (case side1 => repeat (first | exact (Vr_ HO424.out).2.2 | (with_reducible refine Kd.C_alloc ?_ _) | (with_reducible refine Kd.C_drewN ?_ _) | (with_reducible refine Kd.C_drew ?_)))
       (case side2 => exact (Vr_ HO424.out).2.1)
       rintro e w72 ⟨v461, rfl, ho0, hb⟩
       refine ⟨_, rfl, ?_⟩
       have n0_ := Am_ (Kd.V_elder' (Pv_ HO424.out) (Kd.S_base ho0) hb)
       have n1_ := Am_ (Kd.S_elder' (Py_ HO431.out) (Kd.S_base ho0) hb)
       have n2_ := Am_ (Kd.V_elder' (Pv_ HO436.out) (Kd.S_base ho0) hb)
       have n3_ := Am_ (Kd.V_elder' (Pv_ HO443.out) (Kd.S_base ho0) hb)
       have n4_ := Am_ (Kd.S_elder' (Py_ HO450.out) (Kd.S_base ho0) hb)
       have n5_ := Am_ (Kd.V_elder' (Pv_ HO455.out) (Kd.S_base ho0) hb)
       have n6_ := Am_ (Kd.S_lower (Kd.S_new' (Kd.S_new' ho0 (Kd.S_lt (Py_ HO431.out))) (Kd.S_lt (Py_ HO450.out))) (Bz_ (Pb5_ HB.out GE418.out GE428.out GE440.out GE447.out GE459.out)))
       have n7_ := Am_ (Bb_ (g := gb418) (o := .cells #[.slice A0_0 l0_0.length c0_0, .int .i64 a0_1, .int .i64 a0_2] 24 (0, 0)) (Pk_ BK418.out) hb)
       have n8_ := Am_ (Bb_ (g := gb428) (o := .cells #[.slice Ao38 t422.length co38, .int .i64 t425, .int .i64 t426] 24 (0, 0)) (Pk_ BK428.out) hb)
       have n9_ := Am_ (Bb_ (g := gb440) (o := .cells #[.slice Ao46 t434.length co46, .int .i64 t437, .int .i64 t438] 33 (0, 0)) (Pk_ BK440.out) hb)
       have n10_ := Am_ (Bb_ (g := gb447) (o := .cells #[.slice Ao54 t441.length co54, .int .i64 t444, .int .i64 t445] 24 (0, 0)) (Pk_ BK447.out) hb)
       have n11_ := Am_ (Bb_ (g := gb459) (o := .cells #[.slice Ao64 t453.length co64, .int .i64 t456, .int .i64 t457] 33 (0, 0)) (Pk_ BK459.out) hb)
       have n12_ := Am_ (Be_ (Pb5_ HB.out GE418.out GE428.out GE440.out GE447.out GE459.out) hb)
       clear HO424
       clear HO431
       clear HO436
       clear HO443
       clear HO450
       clear HO455
       clear BK418
       clear BK428
       clear BK440
       clear BK447
       clear BK459
       clear HB
       have HO424 := n0_
       have HO431 := n1_
       have HO436 := n2_
       have HO443 := n3_
       have HO450 := n4_
       have HO455 := n5_
       have HO462 := n6_
       have BK418 := n7_
       have BK428 := n8_
       have BK440 := n9_
       have BK447 := n10_
       have BK459 := n11_
       have HB := n12_
       clear n0_ n1_ n2_ n3_ n4_ n5_ n6_ n7_ n8_ n9_ n10_ n11_ n12_
       (try clear hb)
       (try clear hb2)
       (try clear hk)
       (try clear hi)
       (try clear ho0)
       obtain ⟨Ao73, co73, eo73⟩ := Kd.S_slice HO462.out
       (first | subst eo73 | (injection eo73 with f1_ f2_ f3_; have f4_ := f1_.symm; have f5_ := f3_.symm; clear f1_ f2_ f3_; subst f4_; subst f5_))
       refine hK.out _ _ ⟨(Bc_ BK428.out 0).trans rfl, (Bc_ BK428.out 1).trans rfl, (Bc_ BK428.out 2).trans rfl, (Bc_ BK440.out 0).trans rfl, (Bc_ BK440.out 1).trans rfl, (Bc_ BK440.out 2).trans rfl, (Bc_ BK447.out 0).trans rfl, (Bc_ BK447.out 1).trans rfl, (Bc_ BK447.out 2).trans rfl, (Bc_ BK459.out 0).trans rfl, (Bc_ BK459.out 1).trans rfl, (Bc_ BK459.out 2).trans rfl⟩ (fun hHeld => ?_)
       clear hK K
       refine norm_ (a' := ?_) ?_ ?_
       rotate_left
       ·show Act.put _ (some 65) _ = _
        simp only [Act.put, La_, Lb_, Lc_, i64_w, i32_w]
        rfl
       refine one_ (i := 3) (N := some 67) #[t_,t_,t_,t_,f_,f_,f_,f_,f_,f_,f_,f_,f_,f_,f_,f_,f_,f_,f_,f_,f_] rfl rfl (one_of HT_.out (by kernel_rfl)) (by decide) (fun K hK => ?_)
       refine goes_ Try.func20 (by kernel_rfl) rfl #[.agg #[.slice Ao73 t460.length co73, .int .i64 t463, .int .i64 t464], .agg #[.slice Ao46 t434.length co46, .int .i64 t437, .int .i64 t438]] (by rfl) rfl rfl (by (try simp only [List.map_toArray, List.map_cons, List.map_nil]); first | done | rfl | (simp only [List.length_drop, List.length_take]; rfl)) ?_
       with_reducible refine (flagstoneref06_Same.calls kj5 _ _ t460 t463 t464 _ _ t434 t437 t438 true _ ?side1 ?side2 ?side3 ?side4 A29.out).mono ?_
       (case side1 => repeat (first | exact (Kd.S_reads' HO462.out).2.2 | (with_reducible refine Kd.C_alloc ?_ _) | (with_reducible refine Kd.C_drewN ?_ _) | (with_reducible refine Kd.C_drew ?_)))
       (case side2 => exact (Kd.S_reads' HO462.out).2.1)
       (case side3 => repeat (first | exact (Vr_ HO436.out).2.2 | (with_reducible refine Kd.C_alloc ?_ _) | (with_reducible refine Kd.C_drewN ?_ _) | (with_reducible refine Kd.C_drew ?_)))
       (case side4 => exact (Vr_ HO436.out).2.1)
       rintro e w74 ⟨rfl, hb⟩
       refine ⟨_, rfl, ?_⟩
       have n0_ := Am_ (Vb_ (Pv_ HO424.out) hb)
       have n1_ := Am_ (Kd.S_below (Py_ HO431.out) hb)
       have n2_ := Am_ (Vb_ (Pv_ HO436.out) hb)
       have n3_ := Am_ (Vb_ (Pv_ HO443.out) hb)
       have n4_ := Am_ (Kd.S_below (Py_ HO450.out) hb)
       have n5_ := Am_ (Vb_ (Pv_ HO455.out) hb)
       have n6_ := Am_ (Kd.S_below (Py_ HO462.out) hb)
       have n7_ := Am_ (Bb_ (g := gb418) (o := .cells #[.slice A0_0 l0_0.length c0_0, .int .i64 a0_1, .int .i64 a0_2] 24 (0, 0)) (Pk_ BK418.out) hb)
       have n8_ := Am_ (Bb_ (g := gb428) (o := .cells #[.slice Ao38 t422.length co38, .int .i64 t425, .int .i64 t426] 24 (0, 0)) (Pk_ BK428.out) hb)
       have n9_ := Am_ (Bb_ (g := gb440) (o := .cells #[.slice Ao46 t434.length co46, .int .i64 t437, .int .i64 t438] 33 (0, 0)) (Pk_ BK440.out) hb)
       have n10_ := Am_ (Bb_ (g := gb447) (o := .cells #[.slice Ao54 t441.length co54, .int .i64 t444, .int .i64 t445] 24 (0, 0)) (Pk_ BK447.out) hb)
       have n11_ := Am_ (Bb_ (g := gb459) (o := .cells #[.slice Ao64 t453.length co64, .int .i64 t456, .int .i64 t457] 33 (0, 0)) (Pk_ BK459.out) hb)
       have n12_ := Am_ (Be_ (Pb5_ HB.out GE418.out GE428.out GE440.out GE447.out GE459.out) hb)
       clear HO424
       clear HO431
       clear HO436
       clear HO443
       clear HO450
       clear HO455
       clear HO462
       clear BK418
       clear BK428
       clear BK440
       clear BK447
       clear BK459
       clear HB
       have HO424 := n0_
       have HO431 := n1_
       have HO436 := n2_
       have HO443 := n3_
       have HO450 := n4_
       have HO455 := n5_
       have HO462 := n6_
       have BK418 := n7_
       have BK428 := n8_
       have BK440 := n9_
       have BK447 := n10_
       have BK459 := n11_
       have HB := n12_
       clear n0_ n1_ n2_ n3_ n4_ n5_ n6_ n7_ n8_ n9_ n10_ n11_ n12_
       (try clear hb)
       (try clear hb2)
       (try clear hk)
       (try clear hi)
       refine hK.out _ _ ⟨(Bc_ BK428.out 0).trans rfl, (Bc_ BK428.out 1).trans rfl, (Bc_ BK428.out 2).trans rfl, (Bc_ BK440.out 0).trans rfl, (Bc_ BK440.out 1).trans rfl, (Bc_ BK440.out 2).trans rfl, (Bc_ BK447.out 0).trans rfl, (Bc_ BK447.out 1).trans rfl, (Bc_ BK447.out 2).trans rfl, (Bc_ BK459.out 0).trans rfl, (Bc_ BK459.out 1).trans rfl, (Bc_ BK459.out 2).trans rfl⟩ (fun hHeld => ?_)
       clear hK K
       refine norm_ (a' := ?_) ?_ ?_
       rotate_left
       ·show Act.put _ (some 67) _ = _
        simp only [Act.put, La_, Lb_, Lc_, i64_w, i32_w]
        rfl
       refine pure_ (i := 4) (N := some 68) (v := ?_) (a' := ?_) #[t_,t_,t_,t_,t_,f_,f_,f_,f_,f_,f_,f_,f_,f_,f_,f_,f_,f_,f_,f_,f_] rfl rfl (any_of HT_.out (by kernel_rfl)) (fun _ _ _ h => h) (Or.inl ⟨by rfl, ?_⟩) ?_ ?_
       rotate_left
       ·intro w'
        go_simp
        with_reducible rfl
       rotate_left
       ·simp only [Act.put, La_, Lb_, Lc_, i64_w, i32_w]
        rfl
       refine pure_ (i := 5) (N := some 69) (v := ?_) (a' := ?_) #[t_,t_,t_,t_,t_,t_,f_,f_,f_,f_,f_,f_,f_,f_,f_,f_,f_,f_,f_,f_,f_] rfl rfl (any_of HT_.out (by kernel_rfl)) (fun _ _ _ h => h) (Or.inl ⟨by rfl, ?_⟩) ?_ ?_
       rotate_left
       ·intro w'
        go_simp
        with_reducible rfl
       rotate_left
       ·simp only [Act.put, La_, Lb_, Lc_, i64_w, i32_w]
        rfl
       refine pure_ (i := 6) (N := some 70) (v := ?_) (a' := ?_) #[t_,t_,t_,t_,t_,t_,t_,f_,f_,f_,f_,f_,f_,f_,f_,f_,f_,f_,f_,f_,f_] rfl rfl (any_of HT_.out (by kernel_rfl)) (fun _ _ _ h => h) (Or.inl ⟨by rfl, ?_⟩) ?_ ?_
       rotate_left
       ·intro w'
        go_simp
        with_reducible rfl
       rotate_left
       ·simp only [Act.put, La_, Lb_, Lc_, i64_w, i32_w]
        rfl
       refine pure_ (i := 7) (N := some 71) (v := ?_) (a' := ?_) #[t_,t_,t_,t_,t_,t_,t_,t_,f_,f_,f_,f_,f_,f_,f_,f_,f_,f_,f_,f_,f_] rfl rfl (any_of HT_.out (by kernel_rfl)) (fun _ _ _ h => h) (Or.inl ⟨by rfl, ?_⟩) ?_ ?_
       rotate_left
       ·intro w'
        go_simp
        with_reducible rfl
       rotate_left
       ·simp only [Act.put, La_, Lb_, Lc_, i64_w, i32_w]
        rfl
       refine pure_ (i := 8) (N := some 72) (v := ?_) (a' := ?_) #[t_,t_,t_,t_,t_,t_,t_,t_,t_,f_,f_,f_,f_,f_,f_,f_,f_,f_,f_,f_,f_] rfl rfl (any_of HT_.out (by kernel_rfl)) (fun _ _ _ h => h) (Or.inl ⟨by rfl, ?_⟩) ?_ ?_
       rotate_left
       ·intro w'
        go_simp
        with_reducible rfl
       rotate_left
       ·simp only [Act.put, La_, Lb_, Lc_, i64_w, i32_w]
        rfl
       refine pure_ (i := 9) (N := some 73) (v := ?_) (a' := ?_) #[t_,t_,t_,t_,t_,t_,t_,t_,t_,t_,f_,f_,f_,f_,f_,f_,f_,f_,f_,f_,f_] rfl rfl (any_of HT_.out (by kernel_rfl)) (fun _ _ _ h => h) (Or.inl ⟨by rfl, ?_⟩) ?_ ?_
       rotate_left
       ·intro w'
        go_simp
        with_reducible rfl
       rotate_left
       ·simp only [Act.put, La_, Lb_, Lc_, i64_w, i32_w]
        rfl
       refine take_ (i := 10) (N := some 74) (v := ?_) (a' := ?_) #[t_,t_,t_,t_,t_,t_,t_,t_,t_,t_,t_,f_,f_,f_,f_,f_,f_,f_,f_,f_,f_] rfl rfl (take_ofW HT_.out HW_.out (by kernel_rfl)) (fun _ _ _ h => h) (Or.inl ⟨by rfl, ?_⟩) hHeld ?_ ?_
       rotate_left
       ·rintro w' ⟨s0, s1, s2, s3, s4, s5, s6, s7, s8, s9, s10, s11⟩
        go_simp
        with_reducible rfl
       rotate_left
       ·simp only [Act.put, La_, Lb_, Lc_, i64_w, i32_w]
        rfl
       refine take_ (i := 12) (N := some 76) (v := ?_) (a' := ?_) #[t_,t_,t_,t_,t_,t_,t_,t_,t_,t_,t_,f_,t_,f_,f_,f_,f_,f_,f_,f_,f_] rfl rfl (take_ofW HT_.out HW_.out (by kernel_rfl)) (fun _ _ _ h => h) (Or.inl ⟨by rfl, ?_⟩) hHeld ?_ ?_
       rotate_left
       ·rintro w' ⟨s0, s1, s2, s3, s4, s5, s6, s7, s8, s9, s10, s11⟩
        go_simp
        with_reducible rfl
       rotate_left
       ·simp only [Act.put, La_, Lb_, Lc_, i64_w, i32_w]
        rfl
       refine one_ (i := 11) (N := some 75) #[t_,t_,t_,t_,t_,t_,t_,t_,t_,t_,t_,t_,t_,f_,f_,f_,f_,f_,f_,f_,f_] rfl rfl (one_of HT_.out (by kernel_rfl)) (by decide) (fun K hK => ?_)
       refine goes_ Try.func13 (by kernel_rfl) rfl #[.agg #[.slice Ao54 t441.length co54, .int .i64 t444, .int .i64 t445]] (by rfl) rfl rfl (by (try simp only [List.map_toArray, List.map_cons, List.map_nil]); first | done | rfl | (simp only [List.length_drop, List.length_take]; rfl)) ?_
       with_reducible refine (flagstonelaw09_its.calls kj5 _ _ t441 t444 t445 t466 t469 t470 _ ?side1 ?side2 A32.out).mono ?_
       (case side1 => repeat (first | exact (Vr_ HO443.out).2.2 | (with_reducible refine Kd.C_alloc ?_ _) | (with_reducible refine Kd.C_drewN ?_ _) | (with_reducible refine Kd.C_drew ?_)))
       (case side2 => exact (Vr_ HO443.out).2.1)
       rintro e w75 ⟨v467, rfl, ho0, hb⟩
       refine ⟨_, rfl, ?_⟩
       have n0_ := Am_ (Kd.V_elder' (Pv_ HO424.out) (Kd.S_base ho0) hb)
       have n1_ := Am_ (Kd.S_elder' (Py_ HO431.out) (Kd.S_base ho0) hb)
       have n2_ := Am_ (Kd.V_elder' (Pv_ HO436.out) (Kd.S_base ho0) hb)
       have n3_ := Am_ (Kd.V_elder' (Pv_ HO443.out) (Kd.S_base ho0) hb)
       have n4_ := Am_ (Kd.S_elder' (Py_ HO450.out) (Kd.S_base ho0) hb)
       have n5_ := Am_ (Kd.V_elder' (Pv_ HO455.out) (Kd.S_base ho0) hb)
       have n6_ := Am_ (Kd.S_elder' (Py_ HO462.out) (Kd.S_base ho0) hb)
       have n7_ := Am_ (Kd.S_lower (Kd.S_new' (Kd.S_new' (Kd.S_new' ho0 (Kd.S_lt (Py_ HO431.out))) (Kd.S_lt (Py_ HO450.out))) (Kd.S_lt (Py_ HO462.out))) (Bz_ (Pb5_ HB.out GE418.out GE428.out GE440.out GE447.out GE459.out)))
       have n8_ := Am_ (Bb_ (g := gb418) (o := .cells #[.slice A0_0 l0_0.length c0_0, .int .i64 a0_1, .int .i64 a0_2] 24 (0, 0)) (Pk_ BK418.out) hb)
       have n9_ := Am_ (Bb_ (g := gb428) (o := .cells #[.slice Ao38 t422.length co38, .int .i64 t425, .int .i64 t426] 24 (0, 0)) (Pk_ BK428.out) hb)
       have n10_ := Am_ (Bb_ (g := gb440) (o := .cells #[.slice Ao46 t434.length co46, .int .i64 t437, .int .i64 t438] 33 (0, 0)) (Pk_ BK440.out) hb)
       have n11_ := Am_ (Bb_ (g := gb447) (o := .cells #[.slice Ao54 t441.length co54, .int .i64 t444, .int .i64 t445] 24 (0, 0)) (Pk_ BK447.out) hb)
       have n12_ := Am_ (Bb_ (g := gb459) (o := .cells #[.slice Ao64 t453.length co64, .int .i64 t456, .int .i64 t457] 33 (0, 0)) (Pk_ BK459.out) hb)
       have n13_ := Am_ (Be_ (Pb5_ HB.out GE418.out GE428.out GE440.out GE447.out GE459.out) hb)
       clear HO424
       clear HO431
       clear HO436
       clear HO443
       clear HO450
       clear HO455
       clear HO462
       clear BK418
       clear BK428
       clear BK440
       clear BK447
       clear BK459
       clear HB
       have HO424 := n0_
       have HO431 := n1_
       have HO436 := n2_
       have HO443 := n3_
       have HO450 := n4_
       have HO455 := n5_
       have HO462 := n6_
       have HO468 := n7_
       have BK418 := n8_
       have BK428 := n9_
       have BK440 := n10_
       have BK447 := n11_
       have BK459 := n12_
       have HB := n13_
       clear n0_ n1_ n2_ n3_ n4_ n5_ n6_ n7_ n8_ n9_ n10_ n11_ n12_ n13_
       (try clear hb)
       (try clear hb2)
       (try clear hk)
       (try clear hi)
       (try clear ho0)
       obtain ⟨Ao76, co76, eo76⟩ := Kd.S_slice HO468.out
       (first | subst eo76 | (injection eo76 with f1_ f2_ f3_; have f4_ := f1_.symm; have f5_ := f3_.symm; clear f1_ f2_ f3_; subst f4_; subst f5_))
       refine hK.out _ _ ⟨(Bc_ BK428.out 0).trans rfl, (Bc_ BK428.out 1).trans rfl, (Bc_ BK428.out 2).trans rfl, (Bc_ BK440.out 0).trans rfl, (Bc_ BK440.out 1).trans rfl, (Bc_ BK440.out 2).trans rfl, (Bc_ BK447.out 0).trans rfl, (Bc_ BK447.out 1).trans rfl, (Bc_ BK447.out 2).trans rfl, (Bc_ BK459.out 0).trans rfl, (Bc_ BK459.out 1).trans rfl, (Bc_ BK459.out 2).trans rfl⟩ (fun hHeld => ?_)
       clear hK K
       refine norm_ (a' := ?_) ?_ ?_
       rotate_left
       ·show Act.put _ (some 75) _ = _
        simp only [Act.put, La_, Lb_, Lc_, i64_w, i32_w]
        rfl
       refine one_ (i := 13) (N := some 77) #[t_,t_,t_,t_,t_,t_,t_,t_,t_,t_,t_,t_,t_,t_,f_,f_,f_,f_,f_,f_,f_] rfl rfl (one_of HT_.out (by kernel_rfl)) (by decide) (fun K hK => ?_)
       refine goes_ Try.func20 (by kernel_rfl) rfl #[.agg #[.slice Ao76 t466.length co76, .int .i64 t469, .int .i64 t470], .agg #[.slice Ao64 t453.length co64, .int .i64 t456, .int .i64 t457]] (by rfl) rfl rfl (by (try simp only [List.map_toArray, List.map_cons, List.map_nil]); first | done | rfl | (simp only [List.length_drop, List.length_take]; rfl)) ?_
       with_reducible refine (flagstoneref06_Same.calls kj5 _ _ t466 t469 t470 _ _ t453 t456 t457 true _ ?side1 ?side2 ?side3 ?side4 A33.out).mono ?_
       (case side1 => repeat (first | exact (Kd.S_reads' HO468.out).2.2 | (with_reducible refine Kd.C_alloc ?_ _) | (with_reducible refine Kd.C_drewN ?_ _) | (with_reducible refine Kd.C_drew ?_)))
       (case side2 => exact (Kd.S_reads' HO468.out).2.1)
       (case side3 => repeat (first | exact (Vr_ HO455.out).2.2 | (with_reducible refine Kd.C_alloc ?_ _) | (with_reducible refine Kd.C_drewN ?_ _) | (with_reducible refine Kd.C_drew ?_)))
       (case side4 => exact (Vr_ HO455.out).2.1)
       rintro e w77 ⟨rfl, hb⟩
       refine ⟨_, rfl, ?_⟩
       have n0_ := Am_ (Vb_ (Pv_ HO424.out) hb)
       have n1_ := Am_ (Kd.S_below (Py_ HO431.out) hb)
       have n2_ := Am_ (Vb_ (Pv_ HO436.out) hb)
       have n3_ := Am_ (Vb_ (Pv_ HO443.out) hb)
       have n4_ := Am_ (Kd.S_below (Py_ HO450.out) hb)
       have n5_ := Am_ (Vb_ (Pv_ HO455.out) hb)
       have n6_ := Am_ (Kd.S_below (Py_ HO462.out) hb)
       have n7_ := Am_ (Kd.S_below (Py_ HO468.out) hb)
       have n8_ := Am_ (Bb_ (g := gb418) (o := .cells #[.slice A0_0 l0_0.length c0_0, .int .i64 a0_1, .int .i64 a0_2] 24 (0, 0)) (Pk_ BK418.out) hb)
       have n9_ := Am_ (Bb_ (g := gb428) (o := .cells #[.slice Ao38 t422.length co38, .int .i64 t425, .int .i64 t426] 24 (0, 0)) (Pk_ BK428.out) hb)
       have n10_ := Am_ (Bb_ (g := gb440) (o := .cells #[.slice Ao46 t434.length co46, .int .i64 t437, .int .i64 t438] 33 (0, 0)) (Pk_ BK440.out) hb)
       have n11_ := Am_ (Bb_ (g := gb447) (o := .cells #[.slice Ao54 t441.length co54, .int .i64 t444, .int .i64 t445] 24 (0, 0)) (Pk_ BK447.out) hb)
       have n12_ := Am_ (Bb_ (g := gb459) (o := .cells #[.slice Ao64 t453.length co64, .int .i64 t456, .int .i64 t457] 33 (0, 0)) (Pk_ BK459.out) hb)
       have n13_ := Am_ (Be_ (Pb5_ HB.out GE418.out GE428.out GE440.out GE447.out GE459.out) hb)
       clear HO424
       clear HO431
       clear HO436
       clear HO443
       clear HO450
       clear HO455
       clear HO462
       clear HO468
       clear BK418
       clear BK428
       clear BK440
       clear BK447
       clear BK459
       clear HB
       have HO424 := n0_
       have HO431 := n1_
       have HO436 := n2_
       have HO443 := n3_
       have HO450 := n4_
       have HO455 := n5_
       have HO462 := n6_
       have HO468 := n7_
       have BK418 := n8_
       have BK428 := n9_
       have BK440 := n10_
       have BK447 := n11_
       have BK459 := n12_
       have HB := n13_
       clear n0_ n1_ n2_ n3_ n4_ n5_ n6_ n7_ n8_ n9_ n10_ n11_ n12_ n13_
       (try clear hb)
       (try clear hb2)
       (try clear hk)
       (try clear hi)
       refine hK.out _ _ ⟨(Bc_ BK428.out 0).trans rfl, (Bc_ BK428.out 1).trans rfl, (Bc_ BK428.out 2).trans rfl, (Bc_ BK440.out 0).trans rfl, (Bc_ BK440.out 1).trans rfl, (Bc_ BK440.out 2).trans rfl, (Bc_ BK447.out 0).trans rfl, (Bc_ BK447.out 1).trans rfl, (Bc_ BK447.out 2).trans rfl, (Bc_ BK459.out 0).trans rfl, (Bc_ BK459.out 1).trans rfl, (Bc_ BK459.out 2).trans rfl⟩ (fun hHeld => ?_)
       clear hK K
       refine norm_ (a' := ?_) ?_ ?_
       rotate_left
       ·show Act.put _ (some 77) _ = _
        simp only [Act.put, La_, Lb_, Lc_, i64_w, i32_w]
        rfl
       refine pure_ (i := 14) (N := some 78) (v := ?_) (a' := ?_) #[t_,t_,t_,t_,t_,t_,t_,t_,t_,t_,t_,t_,t_,t_,t_,f_,f_,f_,f_,f_,f_] rfl rfl (any_of HT_.out (by kernel_rfl)) (fun _ _ _ h => h) (Or.inl ⟨by rfl, ?_⟩) ?_ ?_
       rotate_left
       ·intro w'
        go_simp
        with_reducible rfl
       rotate_left
       ·simp only [Act.put, La_, Lb_, Lc_, i64_w, i32_w]
        rfl
       refine pure_ (i := 15) (N := some 79) (v := ?_) (a' := ?_) #[t_,t_,t_,t_,t_,t_,t_,t_,t_,t_,t_,t_,t_,t_,t_,t_,f_,f_,f_,f_,f_] rfl rfl (any_of HT_.out (by kernel_rfl)) (fun _ _ _ h => h) (Or.inl ⟨by rfl, ?_⟩) ?_ ?_
       rotate_left
       ·intro w'
        go_simp
        with_reducible rfl
       rotate_left
       ·simp only [Act.put, La_, Lb_, Lc_, i64_w, i32_w]
        rfl
       refine pure_ (i := 16) (N := some 80) (v := ?_) (a' := ?_) #[t_,t_,t_,t_,t_,t_,t_,t_,t_,t_,t_,t_,t_,t_,t_,t_,t_,f_,f_,f_,f_] rfl rfl (any_of HT_.out (by kernel_rfl)) (fun _ _ _ h => h) (Or.inl ⟨by rfl, ?_⟩) ?_ ?_
       rotate_left
       ·intro w'
        go_simp
        with_reducible rfl
       rotate_left
       ·simp only [Act.put, La_, Lb_, Lc_, i64_w, i32_w]
        rfl
       refine pure_ (i := 17) (N := some 81) (v := ?_) (a' := ?_) #[t_,t_,t_,t_,t_,t_,t_,t_,t_,t_,t_,t_,t_,t_,t_,t_,t_,t_,f_,f_,f_] rfl rfl (any_of HT_.out (by kernel_rfl)) (fun _ _ _ h => h) (Or.inl ⟨by rfl, ?_⟩) ?_ ?_
       rotate_left
       ·intro w'
        go_simp
        with_reducible rfl
       rotate_left
       ·simp only [Act.put, La_, Lb_, Lc_, i64_w, i32_w]
        rfl
       refine pure_ (i := 18) (N := some 82) (v := ?_) (a' := ?_) #[t_,t_,t_,t_,t_,t_,t_,t_,t_,t_,t_,t_,t_,t_,t_,t_,t_,t_,t_,f_,f_] rfl rfl (any_of HT_.out (by kernel_rfl)) (fun _ _ _ h => h) (Or.inl ⟨by rfl, ?_⟩) ?_ ?_
       rotate_left
       ·intro w'
        go_simp
        with_reducible rfl
       rotate_left
       ·simp only [Act.put, La_, Lb_, Lc_, i64_w, i32_w]
        rfl
       refine pure_ (i := 19) (N := some 83) (v := ?_) (a' := ?_) #[t_,t_,t_,t_,t_,t_,t_,t_,t_,t_,t_,t_,t_,t_,t_,t_,t_,t_,t_,t_,f_] rfl rfl (any_of HT_.out (by kernel_rfl)) (fun _ _ _ h => h) (Or.inl ⟨by rfl, ?_⟩) ?_ ?_
       rotate_left
       ·intro w'
        go_simp
        with_reducible rfl
       rotate_left
       ·simp only [Act.put, La_, Lb_, Lc_, i64_w, i32_w]
        rfl
       refine pure_ (i := 20) (N := some 10) (v := ?_) (a' := ?_) #[t_,t_,t_,t_,t_,t_,t_,t_,t_,t_,t_,t_,t_,t_,t_,t_,t_,t_,t_,t_,t_] rfl rfl (any_of HT_.out (by kernel_rfl)) (fun _ _ _ h => h) (Or.inl ⟨by rfl, ?_⟩) ?_ ?_
       rotate_left
       ·intro w'
        go_simp
        with_reducible rfl
       rotate_left
       ·simp only [Act.put, La_, Lb_, Lc_, i64_w, i32_w]
        rfl
       refine done_ (done_of HT_.out (by kernel_rfl)) ?_
       try go_wp2
       go_ret
       exact ⟨by first | rfl | (simp [errW_none, errW_some] <;> rfl) | (simp [*, errW_none, errW_some] <;> rfl), by repeat (first | (with_reducible first | exact HB.out | apply Pa_ | apply Pn_ | apply Pd_ | refine Bs_ ?_ GE418.out | refine Bs_ ?_ GE428.out | refine Bs_ ?_ GE440.out | refine Bs_ ?_ GE447.out | refine Bs_ ?_ GE459.out) | exact HB.out)⟩
      ·replace c34 := Bool.eq_false_iff.mpr c34
       subst c34
       have H1 : (none) = some r := by rw [if_neg (show ¬ (false = true) by decide)] at H; exact H
       clear H
       have H := H1
       clear H1
       exact absurd H (by simp)
     ·rw [if_neg c31] at H
      have c31b0 : (t427 == t439) = false := beq_eq_false_iff_ne.mpr c31
      have c31b1 : (t427 != t439) = true := bne_iff_ne.mpr c31
      exact absurd H (by simp)
    ·replace c30 := Bool.eq_false_iff.mpr c30
     subst c30
     have H1 : (none) = some r := by rw [if_neg (show ¬ (false = true) by decide)] at H; exact H
     clear H
     have H := H1
     clear H1
     exact absurd H (by simp)

end Go.Proofs.Ytpeelfambaedkaa.P
