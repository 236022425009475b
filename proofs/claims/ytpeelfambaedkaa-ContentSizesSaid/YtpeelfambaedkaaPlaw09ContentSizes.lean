-- Printed by a program of this session (inject.py) over the kit's print, with functions that were proved by hand in their places.
import Derived.Test.YtpeelfambaedkaaPK
import Derived.Test.YtpeelfambaedkaaPlaw09small
import Derived.Test.YtpeelfambaedkaaPcontentSize
import Derived.Test.YtpeelfambaedkaaPcontentWrite
import Derived.Test.YtpeelfambaedkaaPcontentCut
import Derived.Test.YtpeelfambaedkaaPlaw09shown
import Derived.Test.YtpeelfambaedkaaPlaw09its
import Derived.Test.YtpeelfambaedkaaPref09Size
import Derived.Test.YtpeelfambaedkaaPref06Bytes
import Derived.Test.YtpeelfambaedkaaPlaw09others
namespace Go.Proofs.Ytpeelfambaedkaa.P
open Go.RowKit Go.Proofs.YtpeelfambaedkaaW.PrintWords Go.Proofs.YtpeelfambaedkaaW.PrintLast Go.Proofs.YtpeelfambaedkaaW.PrintMore
attribute [local go_sem] max2_int min2_int max_two min_two max_three min_three max_four min_four   -- for this text's walks alone
set_option linter.unusedVariables false
set_option linter.unusedSimpArgs false

/-! ### flagstonelaw09_ContentSizes: function 6 -/
mutual
def flagstonelaw09_ContentSizes.j0 : Nat → Int → Int → ByteArray → Int → Bool → List (S59) → Int → Int → Option (Bool)
 | 0, _, _, _, _, _, _, _, _ => none
 | k + 1, x1, x2, x3, x4, x33, x526000, x526001, x526002 => if x33 = true then ((flagstonelaw09_shown.f).bind fun t528 => (some t528)) else ((flagstonelaw09_its.f k x526000 x526001 x526002).bind fun bt529 => ((flagstoneref09_Size.f bt529.1 bt529.2.1 bt529.2.2 x1).bind fun bt534 => ((content_Write.f x526000 x526001 x526002 x1 x2 x3).bind fun bt536 => ((content_Cut.f x526000 x526001 x526002 x1 x4).bind fun bt543 => (if bt536.2.2.2 = 0 then (if x3.toList = ([] : List UInt8) then (flagstonelaw09_ContentSizes.j1 k x1 x4 bt534.1 bt543.2.2.2 bt534.1 x526000 x526001 x526002 bt536.1 bt536.2.1 bt536.2.2.1 bt543.1 bt543.2.1 bt543.2.2.1) else (flagstonelaw09_ContentSizes.j1 k x1 x4 bt534.1 bt543.2.2.2 (mx bt534.1 (wrap64 (x2 + (x3.size : Int)))) x526000 x526001 x526002 bt536.1 bt536.2.1 bt536.2.2.1 bt543.1 bt543.2.1 bt543.2.2.1)) else (flagstonelaw09_ContentSizes.j2 k x1 x4 bt534.1 bt543.2.2.2 x526000 x526001 x526002 bt543.1 bt543.2.1 bt543.2.2.1))))))
def flagstonelaw09_ContentSizes.j2 : Nat → Int → Int → Int → Int → List (S59) → Int → Int → List (S59) → Int → Int → Option (Bool)
 | 0, _, _, _, _, _, _, _, _, _, _ => none
 | k + 1, x1, x4, x11, x16, x526000, x526001, x526002, x550000, x550001, x550002 => if x16 = 0 then ((content_Size.f x550000 x550001 x550002 x1).bind fun bt565 => (if bt565.2 = 0 then (if bt565.1 = x4 then ((flagstonelaw09_its.f k x550000 x550001 x550002).bind fun bt567 => ((flagstoneref06_Bytes.f k bt567.1 bt567.2.1 bt567.2.2).bind fun t572 => ((flagstonelaw09_its.f k x526000 x526001 x526002).bind fun bt573 => ((flagstoneref06_Bytes.f k bt573.1 bt573.2.1 bt573.2.2).bind fun t578 => (if t572 = (wrap64 ((wrap64 (t578 + x4)) - x11)) then ((flagstonelaw09_others.f k x550000 x550001 x550002 x526000 x526001 x526002 x1).bind fun t579 => (if t579 = true then (some true) else (none))) else (none)))))) else (none)) else (none))) else (some true)
def flagstonelaw09_ContentSizes.j1 : Nat → Int → Int → Int → Int → Int → List (S59) → Int → Int → List (S59) → Int → Int → List (S59) → Int → Int → Option (Bool)
 | 0, _, _, _, _, _, _, _, _, _, _, _, _, _, _ => none
 | k + 1, x1, x4, x11, x16, x17, x526000, x526001, x526002, x543000, x543001, x543002, x550000, x550001, x550002 => (content_Size.f x543000 x543001 x543002 x1).bind fun bt550 => (if bt550.2 = 0 then (if bt550.1 = x17 then ((flagstonelaw09_its.f k x543000 x543001 x543002).bind fun bt552 => ((flagstoneref06_Bytes.f k bt552.1 bt552.2.1 bt552.2.2).bind fun t557 => ((flagstonelaw09_its.f k x526000 x526001 x526002).bind fun bt558 => ((flagstoneref06_Bytes.f k bt558.1 bt558.2.1 bt558.2.2).bind fun t563 => (if t557 = (wrap64 ((wrap64 (t563 + x17)) - x11)) then ((flagstonelaw09_others.f k x543000 x543001 x543002 x526000 x526001 x526002 x1).bind fun t564 => (if t564 = true then (flagstonelaw09_ContentSizes.j2 k x1 x4 x11 x16 x526000 x526001 x526002 x550000 x550001 x550002) else (none))) else (none)))))) else (none)) else (none))
end
def flagstonelaw09_ContentSizes.f (k : Nat) (l0_0 : List (S59)) (a0_1 : Int) (a0_2 : Int) (a1 : Int) (a2 : Int) (a3 : ByteArray) (a4 : Int) : Option (Bool) := (flagstonelaw09_small.f k l0_0 a0_1 a0_2).bind fun t526 => (if t526 = true then (if (a3.size : Int) > 300 then (flagstonelaw09_ContentSizes.j0 k a1 a2 a3 a4 true l0_0 a0_1 a0_2) else ((flagstonelaw09_shown.f).bind fun t527 => (flagstonelaw09_ContentSizes.j0 k a1 a2 a3 a4 (!t527) l0_0 a0_1 a0_2))) else (flagstonelaw09_ContentSizes.j0 k a1 a2 a3 a4 true l0_0 a0_1 a0_2))
theorem flagstonelaw09_ContentSizes.mono_l : ∀ k, (∀ y0 y1 y2 y3 y4 y5 y6 y7, LeO (flagstonelaw09_ContentSizes.j0 k y0 y1 y2 y3 y4 y5 y6 y7) (flagstonelaw09_ContentSizes.j0 (k + 1) y0 y1 y2 y3 y4 y5 y6 y7)) ∧ (∀ y0 y1 y2 y3 y4 y5 y6 y7 y8 y9, LeO (flagstonelaw09_ContentSizes.j2 k y0 y1 y2 y3 y4 y5 y6 y7 y8 y9) (flagstonelaw09_ContentSizes.j2 (k + 1) y0 y1 y2 y3 y4 y5 y6 y7 y8 y9)) ∧ (∀ y0 y1 y2 y3 y4 y5 y6 y7 y8 y9 y10 y11 y12 y13, LeO (flagstonelaw09_ContentSizes.j1 k y0 y1 y2 y3 y4 y5 y6 y7 y8 y9 y10 y11 y12 y13) (flagstonelaw09_ContentSizes.j1 (k + 1) y0 y1 y2 y3 y4 y5 y6 y7 y8 y9 y10 y11 y12 y13))
 | 0 => ⟨fun _ _ _ _ _ _ _ _ r h => by simp [flagstonelaw09_ContentSizes.j0] at h, fun _ _ _ _ _ _ _ _ _ _ r h => by simp [flagstonelaw09_ContentSizes.j2] at h, fun _ _ _ _ _ _ _ _ _ _ _ _ _ _ r h => by simp [flagstonelaw09_ContentSizes.j1] at h⟩
 | k + 1 => by
  obtain ⟨ih0, ih1, ih2⟩ := flagstonelaw09_ContentSizes.mono_l k
  refine ⟨?_, ?_, ?_⟩
  ·intro y0 y1 y2 y3 y4 y5 y6 y7
   unfold flagstonelaw09_ContentSizes.j0
   repeat' first
   | (with_reducible exact ih0 _ _ _ _ _ _ _ _)
   | (with_reducible exact ih1 _ _ _ _ _ _ _ _ _ _)
   | (with_reducible exact ih2 _ _ _ _ _ _ _ _ _ _ _ _ _ _)
   | (with_reducible exact flagstonelaw09_its.mono _ _ _ _)
   | (with_reducible exact flagstonelaw09_others.mono _ _ _ _ _ _ _ _)
   | (with_reducible exact flagstonelaw09_small.mono _ _ _ _)
   | (with_reducible exact flagstoneref06_Bytes.mono _ _ _ _)
   | (with_reducible exact LeO.refl _)
   | (with_reducible exact LeO.none _)
   | (with_reducible refine LeO.ite ?_ ?_)
   | (with_reducible refine LeO.bind ?_ (fun _ => ?_))
   | exact ih0 _ _ _ _ _ _ _ _
   | exact ih1 _ _ _ _ _ _ _ _ _ _
   | exact ih2 _ _ _ _ _ _ _ _ _ _ _ _ _ _
   | exact flagstonelaw09_its.mono _ _ _ _
   | exact flagstonelaw09_others.mono _ _ _ _ _ _ _ _
   | exact flagstonelaw09_small.mono _ _ _ _
   | exact flagstoneref06_Bytes.mono _ _ _ _
   | exact LeO.none _
   | refine LeO.ite ?_ ?_
   | refine LeO.bind ?_ (fun _ => ?_)
  ·intro y0 y1 y2 y3 y4 y5 y6 y7 y8 y9
   unfold flagstonelaw09_ContentSizes.j2
   repeat' first
   | (with_reducible exact ih0 _ _ _ _ _ _ _ _)
   | (with_reducible exact ih1 _ _ _ _ _ _ _ _ _ _)
   | (with_reducible exact ih2 _ _ _ _ _ _ _ _ _ _ _ _ _ _)
   | (with_reducible exact flagstonelaw09_its.mono _ _ _ _)
   | (with_reducible exact flagstonelaw09_others.mono _ _ _ _ _ _ _ _)
   | (with_reducible exact flagstonelaw09_small.mono _ _ _ _)
   | (with_reducible exact flagstoneref06_Bytes.mono _ _ _ _)
   | (with_reducible exact LeO.refl _)
   | (with_reducible exact LeO.none _)
   | (with_reducible refine LeO.ite ?_ ?_)
   | (with_reducible refine LeO.bind ?_ (fun _ => ?_))
   | exact ih0 _ _ _ _ _ _ _ _
   | exact ih1 _ _ _ _ _ _ _ _ _ _
   | exact ih2 _ _ _ _ _ _ _ _ _ _ _ _ _ _
   | exact flagstonelaw09_its.mono _ _ _ _
   | exact flagstonelaw09_others.mono _ _ _ _ _ _ _ _
   | exact flagstonelaw09_small.mono _ _ _ _
   | exact flagstoneref06_Bytes.mono _ _ _ _
   | exact LeO.none _
   | refine LeO.ite ?_ ?_
   | refine LeO.bind ?_ (fun _ => ?_)
  ·intro y0 y1 y2 y3 y4 y5 y6 y7 y8 y9 y10 y11 y12 y13
   unfold flagstonelaw09_ContentSizes.j1
   repeat' first
   | (with_reducible exact ih0 _ _ _ _ _ _ _ _)
   | (with_reducible exact ih1 _ _ _ _ _ _ _ _ _ _)
   | (with_reducible exact ih2 _ _ _ _ _ _ _ _ _ _ _ _ _ _)
   | (with_reducible exact flagstonelaw09_its.mono _ _ _ _)
   | (with_reducible exact flagstonelaw09_others.mono _ _ _ _ _ _ _ _)
   | (with_reducible exact flagstonelaw09_small.mono _ _ _ _)
   | (with_reducible exact flagstoneref06_Bytes.mono _ _ _ _)
   | (with_reducible exact LeO.refl _)
   | (with_reducible exact LeO.none _)
   | (with_reducible refine LeO.ite ?_ ?_)
   | (with_reducible refine LeO.bind ?_ (fun _ => ?_))
   | exact ih0 _ _ _ _ _ _ _ _
   | exact ih1 _ _ _ _ _ _ _ _ _ _
   | exact ih2 _ _ _ _ _ _ _ _ _ _ _ _ _ _
   | exact flagstonelaw09_its.mono _ _ _ _
   | exact flagstonelaw09_others.mono _ _ _ _ _ _ _ _
   | exact flagstonelaw09_small.mono _ _ _ _
   | exact flagstoneref06_Bytes.mono _ _ _ _
   | exact LeO.none _
   | refine LeO.ite ?_ ?_
   | refine LeO.bind ?_ (fun _ => ?_)
theorem flagstonelaw09_ContentSizes.mono : ∀ a0 a1 a2 a3 a4 a5 a6 k, LeO (flagstonelaw09_ContentSizes.f k a0 a1 a2 a3 a4 a5 a6) (flagstonelaw09_ContentSizes.f (k + 1) a0 a1 a2 a3 a4 a5 a6) := by
 intro a0 a1 a2 a3 a4 a5 a6 k
 obtain ⟨ih0, ih1, ih2⟩ := flagstonelaw09_ContentSizes.mono_l k
 unfold flagstonelaw09_ContentSizes.f
 repeat' first
   | (with_reducible exact ih0 _ _ _ _ _ _ _ _)
   | (with_reducible exact ih1 _ _ _ _ _ _ _ _ _ _)
   | (with_reducible exact ih2 _ _ _ _ _ _ _ _ _ _ _ _ _ _)
   | (with_reducible exact flagstonelaw09_its.mono _ _ _ _)
   | (with_reducible exact flagstonelaw09_others.mono _ _ _ _ _ _ _ _)
   | (with_reducible exact flagstonelaw09_small.mono _ _ _ _)
   | (with_reducible exact flagstoneref06_Bytes.mono _ _ _ _)
   | (with_reducible exact LeO.refl _)
   | (with_reducible exact LeO.none _)
   | (with_reducible refine LeO.ite ?_ ?_)
   | (with_reducible refine LeO.bind ?_ (fun _ => ?_))
   | exact ih0 _ _ _ _ _ _ _ _
   | exact ih1 _ _ _ _ _ _ _ _ _ _
   | exact ih2 _ _ _ _ _ _ _ _ _ _ _ _ _ _
   | exact flagstonelaw09_its.mono _ _ _ _
   | exact flagstonelaw09_others.mono _ _ _ _ _ _ _ _
   | exact flagstonelaw09_small.mono _ _ _ _
   | exact flagstoneref06_Bytes.mono _ _ _ _
   | exact LeO.none _
   | refine LeO.ite ?_ ?_
   | refine LeO.bind ?_ (fun _ => ?_)
def flagstonelaw09_ContentSizes.T11 : Bool × List (List Nat × List Nat) := (true, [([], []), ([0], [0]), ([1], [1]), ([2], [2]), ([2], [2]), ([3, 4, 2], [2, 3, 4]), ([2, 5], [2, 5]), ([6, 2], [6]), ([7], [7]), ([8, 7, 7], [7, 8]), ([9, 9, 7], [7, 9]), ([7], [7]), ([11, 10, 7], [7, 11]), ([12, 12, 7], [7, 12]), ([7], [7]), ([13, 14, 7], [7, 13, 14]), ([7], [7]), ([15, 16, 7], [7, 15, 16]), ([10, 17, 7], [7, 10, 17]), ([7, 18], [7, 18]), ([19, 13], [19]), ([20], [20]), ([20], [20]), ([20], [20]), ([21, 22, 23, 20, 20], [20, 21, 22, 23]), ([24, 20], [20, 24]), ([20, 25], [20, 25])])
def flagstonelaw09_ContentSizes.B11 : List Nat := [0, 1, 3, 7, 7, 31, 63, 127, 255, 511, 1023, 255, 4095, 8191, 255, 32767, 255, 131071, 262143, 524287, 1048575, 2097151, 2097151, 2097151, 16777215, 33554431, 67108863]
theorem flagstonelaw09_ContentSizes.tab11 : rtab .any (opsOf Try.f6 11) = flagstonelaw09_ContentSizes.T11 := by kernel_rfl
theorem flagstonelaw09_ContentSizes.bits11 : waitsOk flagstonelaw09_ContentSizes.T11.2 flagstonelaw09_ContentSizes.B11 = true := by kernel_rfl
def flagstonelaw09_ContentSizes.T15 : Bool × List (List Nat × List Nat) := (true, [([], []), ([0], [0]), ([1], [1]), ([2], [2]), ([2], [2]), ([3, 4, 2], [2, 3, 4]), ([2, 5], [2, 5]), ([6, 2], [6]), ([7], [7]), ([8, 7, 7], [7, 8]), ([9, 9, 7], [7, 9]), ([7], [7]), ([11, 10, 7], [7, 11]), ([12, 12, 7], [7, 12]), ([7], [7]), ([13, 14, 7], [7, 13, 14]), ([7], [7]), ([15, 16, 7], [7, 15, 16]), ([10, 17, 7], [7, 10, 17]), ([7, 18], [7, 18]), ([19, 13], [19]), ([20], [20]), ([20], [20]), ([20], [20]), ([21, 22, 23, 20, 20], [20, 21, 22, 23]), ([24, 20], [20, 24]), ([20, 25], [20, 25])])
def flagstonelaw09_ContentSizes.B15 : List Nat := [0, 1, 3, 7, 7, 31, 63, 127, 255, 511, 1023, 255, 4095, 8191, 255, 32767, 255, 131071, 262143, 524287, 1048575, 2097151, 2097151, 2097151, 16777215, 33554431, 67108863]
theorem flagstonelaw09_ContentSizes.tab15 : rtab .any (opsOf Try.f6 15) = flagstonelaw09_ContentSizes.T15 := by kernel_rfl
theorem flagstonelaw09_ContentSizes.bits15 : waitsOk flagstonelaw09_ContentSizes.T15.2 flagstonelaw09_ContentSizes.B15 = true := by kernel_rfl
set_option maxHeartbeats 8000000 in
set_option maxRecDepth 100000 in
theorem flagstonelaw09_ContentSizes.calls (k : Nat) (A0_0 : Option Addr) (c0_0 : Nat) (l0_0 : List (S59)) (a0_1 : Int) (a0_2 : Int) (a1 : Int) (a2 : Int) (a3 : ByteArray) (a4 : Int) (r : Bool) (w : World) (hr0_0 : Kd.C k59 w A0_0 l0_0.length l0_0) (hc0_0 : l0_0.length ≤ c0_0) (h : flagstonelaw09_ContentSizes.f k l0_0 a0_1 a0_2 a1 a2 a3 a4 = some r) :
  Calls Try.prog 6 #[.agg #[.slice A0_0 l0_0.length c0_0, .int .i64 a0_1, .int .i64 a0_2], .int .i64 a1, .int .i64 a2, .string a3, .int .i64 a4] w fun e w' => e = .returned (.bool r) ∧ Below w.heap.size w w' := by
 have hu24 := Try.underlying24
 have HR0_0 := Am_ hr0_0
 have HC0_0 := Am_ hc0_0
 clear hr0_0 hc0_0
 have HB := Am_ (Below.refl w.heap.size w)
 have H : ((flagstonelaw09_small.f k l0_0 a0_1 a0_2).bind fun t526 => (if t526 = true then (if (a3.size : Int) > 300 then (flagstonelaw09_ContentSizes.j0 k a1 a2 a3 a4 true l0_0 a0_1 a0_2) else ((flagstonelaw09_shown.f).bind fun t527 => (flagstonelaw09_ContentSizes.j0 k a1 a2 a3 a4 (!t527) l0_0 a0_1 a0_2))) else (flagstonelaw09_ContentSizes.j0 k a1 a2 a3 a4 true l0_0 a0_1 a0_2))) = some r := h
 clear h
 have HC6 := Am_ H
 clear H
 go_enter Try.func6, Try.ntmps6
 go_upto_region 1 with (first | ((with_reducible refine gate_dst (N := 5) rfl ?_); (try (refine gate_guard (by rfl) ?_; dsimp only)); refine box_event ?hg (N := 5) ?hd (cs := #[.slice A0_0 l0_0.length c0_0, .int .i64 a0_1, .int .i64 a0_2]) (t := 24) ?hr ?_; (case hd => rfl); (case hg => rfl); (case hr => first | (go_simp; done) | (go_simp; rfl)); intro gb525 hg w7 hbox hb; have n0_ := Am_ (Be_ (by repeat (first | (with_reducible first | exact HB.out | apply Pa_ | apply Pn_ | apply Pd_) | exact HB.out)) hb); have n1_ := Am_ (hbox); have n2_ := Am_ ((by rw [hg]; exact (Bz_ (by repeat (first | (with_reducible first | exact HB.out | apply Pa_ | apply Pn_ | apply Pd_) | exact HB.out))) : w.heap.size ≤ gb525)); have n3_ := Am_ ((by rw [hg]; exact (Bz_ (by repeat (first | (with_reducible first | exact HB.out | apply Pa_ | apply Pn_ | apply Pd_) | exact HB.out))) : w.heap.size ≤ gb525)); clear HB; have HB := n0_; have BK525 := n1_; have GW525 := n2_; have GE525 := n3_; clear n0_ n1_ n2_ n3_; clear hb hbox hg))
 (try simp only [Act.put, La_, Lb_, Lc_])
 go_cut [33] (fun v33 wc => ∃ (kq : Nat) (x33_5 : Bool), v33 = .bool x33_5 ∧ Aside0 (flagstonelaw09_ContentSizes.j0 kq a1 a2 a3 a4 x33_5 l0_0 a0_1 a0_2 = some r) ∧ Aside0 (kq ≤ k) ∧ Aside0 (wc.heap[gb525]? = some (.cells #[(.slice A0_0 l0_0.length c0_0), .int .i64 a0_1, .int .i64 a0_2] 24 (0, 0))) ∧ Aside0 (Below w.heap.size w wc))
 case first =>
  have H := HC6.out
  clear HC6
  replace H := Option.bind_eq_some_iff.mp H
  obtain ⟨t526, A80, H⟩ := H
  replace H : (if t526 = true then (if (a3.size : Int) > 300 then (flagstonelaw09_ContentSizes.j0 k a1 a2 a3 a4 true l0_0 a0_1 a0_2) else ((flagstonelaw09_shown.f).bind fun t527 => (flagstonelaw09_ContentSizes.j0 k a1 a2 a3 a4 (!t527) l0_0 a0_1 a0_2))) else (flagstonelaw09_ContentSizes.j0 k a1 a2 a3 a4 true l0_0 a0_1 a0_2)) = some r := H
  have A8 := Am_ A80
  clear A80
  by_cases c9 : t526 = true
  ·subst c9
   have H1 : (if (a3.size : Int) > 300 then (flagstonelaw09_ContentSizes.j0 k a1 a2 a3 a4 true l0_0 a0_1 a0_2) else ((flagstonelaw09_shown.f).bind fun t527 => (flagstonelaw09_ContentSizes.j0 k a1 a2 a3 a4 (!t527) l0_0 a0_1 a0_2))) = some r := by rw [if_pos rfl] at H; exact H
   clear H
   have H := H1
   clear H1
   by_cases c10 : (a3.size : Int) > 300
   ·rw [if_pos c10] at H
    have c10b0 : decide (300 < (a3.size : Int)) = true := Dt_ c10
    have c10b1 : decide (300 < a3.size) = true := Dt_ (by omega)
    clear c10
    (first | rw [c10b0] | (simp only [i64_w, i32_w]; rw [c10b0]) | skip)
    have H' := Am_ H
    clear H
    have hcz11_0 : w7.cell? ⟨gb525, 0, none⟩ = some (.slice A0_0 l0_0.length c0_0) := (Bc_ BK525.out 0).trans rfl
    have hcz11_1 : w7.cell? ⟨gb525, 1, none⟩ = some (.int .i64 a0_1) := (Bc_ BK525.out 1).trans rfl
    have hcz11_2 : w7.cell? ⟨gb525, 2, none⟩ = some (.int .i64 a0_2) := (Bc_ BK525.out 2).trans rfl
    have hfz11_0 := Bf_ BK525.out 0
    have hfz11_1 := Bf_ BK525.out 1
    have hfz11_2 := Bf_ BK525.out 2
    go_wp2_with (first | ((with_reducible refine gate_callee (f := 9) rfl ?_); refine goesL_ (some 23) rfl rfl Try.func9 (by kernel_rfl) rfl #[.agg #[.slice A0_0 l0_0.length c0_0, .int .i64 a0_1, .int .i64 a0_2]] rfl (by (try simp only [List.map_toArray, List.map_cons, List.map_nil]); first | done | rfl | (simp only [List.length_drop, List.length_take]; rfl)) ?_; (with_reducible refine (flagstonelaw09_small.calls k _ _ l0_0 a0_1 a0_2 true _ ?side1 ?side2 A8.out).mono ?_); (case side1 => repeat (first | exact (Kd.C_below HR0_0.out HB.out) | (with_reducible refine Kd.C_alloc ?_ _) | (with_reducible refine Kd.C_drewN ?_ _) | (with_reducible refine Kd.C_drew ?_))); (case side2 => exact HC0_0.out); rintro e w12 ⟨rfl, hb⟩; refine ⟨_, rfl, ?_⟩; have n0_ := Am_ (Bb_ (g := gb525) (o := .cells #[.slice A0_0 l0_0.length c0_0, .int .i64 a0_1, .int .i64 a0_2] 24 (0, 0)) (by (with_reducible repeat (first | refine Bn_ ?_ _ | refine Bd_ ?_ | refine Ba_ ?_ _)); exact BK525.out) hb); have n1_ := Am_ (Be_ (by repeat (first | (with_reducible first | exact HB.out | apply Pa_ | apply Pn_ | apply Pd_ | refine Bs_ ?_ GE525.out) | exact HB.out)) hb); clear BK525; clear HB; have BK525 := n0_; have HB := n1_; clear n0_ n1_; (try clear hb); (try clear hb2); (try clear hk); (try clear hi)))
    go_meet
    case rel => exact ⟨_, (true), (by first | rfl | (simp; done) | (simp [*]; done)), H', ⟨by first | omega | exact Nat.le_refl _⟩, ⟨by (with_reducible repeat (first | refine Bn_ ?_ _ | refine Bd_ ?_ | refine Ba_ ?_ _)); exact BK525.out⟩, ⟨by repeat (first | (with_reducible first | exact HB.out | apply Pa_ | apply Pn_ | apply Pd_ | refine Bs_ ?_ GE525.out) | exact HB.out)⟩⟩
   ·rw [if_neg c10] at H
    have c10b0 : decide (300 < (a3.size : Int)) = false := Df_ c10
    have c10b1 : decide (300 < a3.size) = false := Df_ (by omega)
    clear c10
    (first | rw [c10b0] | (simp only [i64_w, i32_w]; rw [c10b0]) | skip)
    replace H := Option.bind_eq_some_iff.mp H
    obtain ⟨t527, A130, H⟩ := H
    replace H : (flagstonelaw09_ContentSizes.j0 k a1 a2 a3 a4 (!t527) l0_0 a0_1 a0_2) = some r := H
    have A13 := Am_ A130
    clear A130
    have H' := Am_ H
    clear H
    have hcz14_0 : w7.cell? ⟨gb525, 0, none⟩ = some (.slice A0_0 l0_0.length c0_0) := (Bc_ BK525.out 0).trans rfl
    have hcz14_1 : w7.cell? ⟨gb525, 1, none⟩ = some (.int .i64 a0_1) := (Bc_ BK525.out 1).trans rfl
    have hcz14_2 : w7.cell? ⟨gb525, 2, none⟩ = some (.int .i64 a0_2) := (Bc_ BK525.out 2).trans rfl
    have hfz14_0 := Bf_ BK525.out 0
    have hfz14_1 := Bf_ BK525.out 1
    have hfz14_2 := Bf_ BK525.out 2
    go_wp2_with (first | ((with_reducible refine gate_callee (f := 9) rfl ?_); refine goesL_ (some 23) rfl rfl Try.func9 (by kernel_rfl) rfl #[.agg #[.slice A0_0 l0_0.length c0_0, .int .i64 a0_1, .int .i64 a0_2]] rfl (by (try simp only [List.map_toArray, List.map_cons, List.map_nil]); first | done | rfl | (simp only [List.length_drop, List.length_take]; rfl)) ?_; (with_reducible refine (flagstonelaw09_small.calls k _ _ l0_0 a0_1 a0_2 true _ ?side1 ?side2 A8.out).mono ?_); (case side1 => repeat (first | exact (Kd.C_below HR0_0.out HB.out) | (with_reducible refine Kd.C_alloc ?_ _) | (with_reducible refine Kd.C_drewN ?_ _) | (with_reducible refine Kd.C_drew ?_))); (case side2 => exact HC0_0.out); rintro e w15 ⟨rfl, hb⟩; refine ⟨_, rfl, ?_⟩; have n0_ := Am_ (Bb_ (g := gb525) (o := .cells #[.slice A0_0 l0_0.length c0_0, .int .i64 a0_1, .int .i64 a0_2] 24 (0, 0)) (by (with_reducible repeat (first | refine Bn_ ?_ _ | refine Bd_ ?_ | refine Ba_ ?_ _)); exact BK525.out) hb); have n1_ := Am_ (Be_ (by repeat (first | (with_reducible first | exact HB.out | apply Pa_ | apply Pn_ | apply Pd_ | refine Bs_ ?_ GE525.out) | exact HB.out)) hb); clear BK525; clear HB; have BK525 := n0_; have HB := n1_; clear n0_ n1_; (try clear hb); (try clear hb2); (try clear hk); (try clear hi)) | (go_at_call 10; (with_reducible refine (flagstonelaw09_shown.calls  t527 _ A13.out).mono ?_); rintro e w16 ⟨rfl, hb⟩; have n0_ := Am_ (Bb_ (g := gb525) (o := .cells #[.slice A0_0 l0_0.length c0_0, .int .i64 a0_1, .int .i64 a0_2] 24 (0, 0)) (by (with_reducible repeat (first | refine Bn_ ?_ _ | refine Bd_ ?_ | refine Ba_ ?_ _)); exact BK525.out) hb); have n1_ := Am_ (Be_ (by repeat (first | (with_reducible first | exact HB.out | apply Pa_ | apply Pn_ | apply Pd_ | refine Bs_ ?_ GE525.out) | exact HB.out)) hb); clear BK525; clear HB; have BK525 := n0_; have HB := n1_; clear n0_ n1_; (try clear hb); (try clear hb2); (try clear hk); (try clear hi)))
    go_meet
    case rel => exact ⟨_, (!t527), (by first | rfl | (simp; done) | (simp [*]; done)), H', ⟨by first | omega | exact Nat.le_refl _⟩, ⟨by (with_reducible repeat (first | refine Bn_ ?_ _ | refine Bd_ ?_ | refine Ba_ ?_ _)); exact BK525.out⟩, ⟨by repeat (first | (with_reducible first | exact HB.out | apply Pa_ | apply Pn_ | apply Pd_ | refine Bs_ ?_ GE525.out) | exact HB.out)⟩⟩
  ·replace c9 := Bool.eq_false_iff.mpr c9
   subst c9
   have H1 : (flagstonelaw09_ContentSizes.j0 k a1 a2 a3 a4 true l0_0 a0_1 a0_2) = some r := by rw [if_neg (show ¬ (false = true) by decide)] at H; exact H
   clear H
   have H := H1
   clear H1
   have H' := Am_ H
   clear H
   have hcz17_0 : w7.cell? ⟨gb525, 0, none⟩ = some (.slice A0_0 l0_0.length c0_0) := (Bc_ BK525.out 0).trans rfl
   have hcz17_1 : w7.cell? ⟨gb525, 1, none⟩ = some (.int .i64 a0_1) := (Bc_ BK525.out 1).trans rfl
   have hcz17_2 : w7.cell? ⟨gb525, 2, none⟩ = some (.int .i64 a0_2) := (Bc_ BK525.out 2).trans rfl
   have hfz17_0 := Bf_ BK525.out 0
   have hfz17_1 := Bf_ BK525.out 1
   have hfz17_2 := Bf_ BK525.out 2
   go_wp2_with (first | ((with_reducible refine gate_callee (f := 9) rfl ?_); refine goesL_ (some 23) rfl rfl Try.func9 (by kernel_rfl) rfl #[.agg #[.slice A0_0 l0_0.length c0_0, .int .i64 a0_1, .int .i64 a0_2]] rfl (by (try simp only [List.map_toArray, List.map_cons, List.map_nil]); first | done | rfl | (simp only [List.length_drop, List.length_take]; rfl)) ?_; (with_reducible refine (flagstonelaw09_small.calls k _ _ l0_0 a0_1 a0_2 false _ ?side1 ?side2 A8.out).mono ?_); (case side1 => repeat (first | exact (Kd.C_below HR0_0.out HB.out) | (with_reducible refine Kd.C_alloc ?_ _) | (with_reducible refine Kd.C_drewN ?_ _) | (with_reducible refine Kd.C_drew ?_))); (case side2 => exact HC0_0.out); rintro e w18 ⟨rfl, hb⟩; refine ⟨_, rfl, ?_⟩; have n0_ := Am_ (Bb_ (g := gb525) (o := .cells #[.slice A0_0 l0_0.length c0_0, .int .i64 a0_1, .int .i64 a0_2] 24 (0, 0)) (by (with_reducible repeat (first | refine Bn_ ?_ _ | refine Bd_ ?_ | refine Ba_ ?_ _)); exact BK525.out) hb); have n1_ := Am_ (Be_ (by repeat (first | (with_reducible first | exact HB.out | apply Pa_ | apply Pn_ | apply Pd_ | refine Bs_ ?_ GE525.out) | exact HB.out)) hb); clear BK525; clear HB; have BK525 := n0_; have HB := n1_; clear n0_ n1_; (try clear hb); (try clear hb2); (try clear hk); (try clear hi)))
   go_meet
   case rel => exact ⟨_, (true), (by first | rfl | (simp; done) | (simp [*]; done)), H', ⟨by first | omega | exact Nat.le_refl _⟩, ⟨by (with_reducible repeat (first | refine Bn_ ?_ _ | refine Bd_ ?_ | refine Ba_ ?_ _)); exact BK525.out⟩, ⟨by repeat (first | (with_reducible first | exact HB.out | apply Pa_ | apply Pn_ | apply Pd_ | refine Bs_ ?_ GE525.out) | exact HB.out)⟩⟩
 case rest =>
  clear HC6
  try clear c1
  try clear p2
  try clear c6
  try clear c9
  try clear c10
  try clear c10b0
  try clear c10b1
  try clear hcz11_0
  try clear hcz11_1
  try clear hcz11_2
  try clear hcz14_0
  try clear hcz14_1
  try clear hcz14_2
  try clear hcz17_0
  try clear hcz17_1
  try clear hcz17_2
  try clear hfz11_0
  try clear hfz11_1
  try clear hfz11_2
  try clear hfz14_0
  try clear hfz14_1
  try clear hfz14_2
  try clear hfz17_0
  try clear hfz17_1
  try clear hfz17_2
  obtain ⟨kq, x33_5, rfl, HA, HJ5, BK525, HB⟩ := hcut
  cases kq with
  | zero => exact absurd HA.out (by simp [flagstonelaw09_ContentSizes.j0])
  | succ kj5 =>
   have H := HA.out
   clear HA
   simp only [flagstonelaw09_ContentSizes.j0] at H
   by_cases c19 : x33_5 = true
   ·subst c19
    have H1 : ((flagstonelaw09_shown.f).bind fun t528 => (some t528)) = some r := by rw [if_pos rfl] at H; exact H
    clear H
    have H := H1
    clear H1
    replace H := Option.bind_eq_some_iff.mp H
    obtain ⟨t528, A200, H⟩ := H
    replace H : (some t528) = some r := H
    have A20 := Am_ A200
    clear A200
    obtain rfl := Option.some.inj H
    go_wp2_with (first | ((with_reducible refine gate_callee (f := 10) rfl ?_); refine goesL_ (some 34) rfl rfl Try.func10 (by kernel_rfl) rfl #[] rfl (by (try simp only [List.map_toArray, List.map_cons, List.map_nil]); first | done | rfl | (simp only [List.length_drop, List.length_take]; rfl)) ?_; (with_reducible refine (flagstonelaw09_shown.calls  t528 _ A20.out).mono ?_); rintro e w21 ⟨rfl, hb⟩; refine ⟨_, rfl, ?_⟩; have n0_ := Am_ (Bb_ (g := gb525) (o := .cells #[.slice A0_0 l0_0.length c0_0, .int .i64 a0_1, .int .i64 a0_2] 24 (0, 0)) (by (with_reducible repeat (first | refine Bn_ ?_ _ | refine Bd_ ?_ | refine Ba_ ?_ _)); exact BK525.out) hb); have n1_ := Am_ (Be_ (by repeat (first | (with_reducible first | exact HB.out | apply Pa_ | apply Pn_ | apply Pd_ | refine Bs_ ?_ GE525.out) | exact HB.out)) hb); clear BK525; clear HB; have BK525 := n0_; have HB := n1_; clear n0_ n1_; (try clear hb); (try clear hb2); (try clear hk); (try clear hi)))
    go_ret
    exact ⟨by first | rfl | (simp [errW_none, errW_some] <;> rfl) | (simp [*, errW_none, errW_some] <;> rfl), by repeat (first | (with_reducible first | exact HB.out | apply Pa_ | apply Pn_ | apply Pd_ | refine Bs_ ?_ GE525.out) | exact HB.out)⟩
   ·replace c19 := Bool.eq_false_iff.mpr c19
    subst c19
    have H1 : ((flagstonelaw09_its.f kj5 l0_0 a0_1 a0_2).bind fun bt529 => ((flagstoneref09_Size.f bt529.1 bt529.2.1 bt529.2.2 a1).bind fun bt534 => ((content_Write.f l0_0 a0_1 a0_2 a1 a2 a3).bind fun bt536 => ((content_Cut.f l0_0 a0_1 a0_2 a1 a4).bind fun bt543 => (if bt536.2.2.2 = 0 then (if a3.toList = ([] : List UInt8) then (flagstonelaw09_ContentSizes.j1 kj5 a1 a4 bt534.1 bt543.2.2.2 bt534.1 l0_0 a0_1 a0_2 bt536.1 bt536.2.1 bt536.2.2.1 bt543.1 bt543.2.1 bt543.2.2.1) else (flagstonelaw09_ContentSizes.j1 kj5 a1 a4 bt534.1 bt543.2.2.2 (mx bt534.1 (wrap64 (a2 + (a3.size : Int)))) l0_0 a0_1 a0_2 bt536.1 bt536.2.1 bt536.2.2.1 bt543.1 bt543.2.1 bt543.2.2.1)) else (flagstonelaw09_ContentSizes.j2 kj5 a1 a4 bt534.1 bt543.2.2.2 l0_0 a0_1 a0_2 bt543.1 bt543.2.1 bt543.2.2.1)))))) = some r := by rw [if_neg (show ¬ (false = true) by decide)] at H; exact H
    clear H
    have H := H1
    clear H1
    replace H := Option.bind_eq_some_iff.mp H
    obtain ⟨⟨t529, t532, t533⟩, A220, H⟩ := H
    replace H : ((flagstoneref09_Size.f t529 t532 t533 a1).bind fun bt534 => ((content_Write.f l0_0 a0_1 a0_2 a1 a2 a3).bind fun bt536 => ((content_Cut.f l0_0 a0_1 a0_2 a1 a4).bind fun bt543 => (if bt536.2.2.2 = 0 then (if a3.toList = ([] : List UInt8) then (flagstonelaw09_ContentSizes.j1 kj5 a1 a4 bt534.1 bt543.2.2.2 bt534.1 l0_0 a0_1 a0_2 bt536.1 bt536.2.1 bt536.2.2.1 bt543.1 bt543.2.1 bt543.2.2.1) else (flagstonelaw09_ContentSizes.j1 kj5 a1 a4 bt534.1 bt543.2.2.2 (mx bt534.1 (wrap64 (a2 + (a3.size : Int)))) l0_0 a0_1 a0_2 bt536.1 bt536.2.1 bt536.2.2.1 bt543.1 bt543.2.1 bt543.2.2.1)) else (flagstonelaw09_ContentSizes.j2 kj5 a1 a4 bt534.1 bt543.2.2.2 l0_0 a0_1 a0_2 bt543.1 bt543.2.1 bt543.2.2.1))))) = some r := H
    have A22 := Am_ A220
    clear A220
    replace H := Option.bind_eq_some_iff.mp H
    obtain ⟨⟨t534, t535⟩, A230, H⟩ := H
    replace H : ((content_Write.f l0_0 a0_1 a0_2 a1 a2 a3).bind fun bt536 => ((content_Cut.f l0_0 a0_1 a0_2 a1 a4).bind fun bt543 => (if bt536.2.2.2 = 0 then (if a3.toList = ([] : List UInt8) then (flagstonelaw09_ContentSizes.j1 kj5 a1 a4 t534 bt543.2.2.2 t534 l0_0 a0_1 a0_2 bt536.1 bt536.2.1 bt536.2.2.1 bt543.1 bt543.2.1 bt543.2.2.1) else (flagstonelaw09_ContentSizes.j1 kj5 a1 a4 t534 bt543.2.2.2 (mx t534 (wrap64 (a2 + (a3.size : Int)))) l0_0 a0_1 a0_2 bt536.1 bt536.2.1 bt536.2.2.1 bt543.1 bt543.2.1 bt543.2.2.1)) else (flagstonelaw09_ContentSizes.j2 kj5 a1 a4 t534 bt543.2.2.2 l0_0 a0_1 a0_2 bt543.1 bt543.2.1 bt543.2.2.1)))) = some r := H
    have A23 := Am_ A230
    clear A230
    replace H := Option.bind_eq_some_iff.mp H
    obtain ⟨⟨t536, t539, t540, t541⟩, A240, H⟩ := H
    replace H : ((content_Cut.f l0_0 a0_1 a0_2 a1 a4).bind fun bt543 => (if t541 = 0 then (if a3.toList = ([] : List UInt8) then (flagstonelaw09_ContentSizes.j1 kj5 a1 a4 t534 bt543.2.2.2 t534 l0_0 a0_1 a0_2 t536 t539 t540 bt543.1 bt543.2.1 bt543.2.2.1) else (flagstonelaw09_ContentSizes.j1 kj5 a1 a4 t534 bt543.2.2.2 (mx t534 (wrap64 (a2 + (a3.size : Int)))) l0_0 a0_1 a0_2 t536 t539 t540 bt543.1 bt543.2.1 bt543.2.2.1)) else (flagstonelaw09_ContentSizes.j2 kj5 a1 a4 t534 bt543.2.2.2 l0_0 a0_1 a0_2 bt543.1 bt543.2.1 bt543.2.2.1))) = some r := H
    have A24 := Am_ A240
    clear A240
    replace H := Option.bind_eq_some_iff.mp H
    obtain ⟨⟨t543, t546, t547, t548⟩, A250, H⟩ := H
    replace H : (if t541 = 0 then (if a3.toList = ([] : List UInt8) then (flagstonelaw09_ContentSizes.j1 kj5 a1 a4 t534 t548 t534 l0_0 a0_1 a0_2 t536 t539 t540 t543 t546 t547) else (flagstonelaw09_ContentSizes.j1 kj5 a1 a4 t534 t548 (mx t534 (wrap64 (a2 + (a3.size : Int)))) l0_0 a0_1 a0_2 t536 t539 t540 t543 t546 t547)) else (flagstonelaw09_ContentSizes.j2 kj5 a1 a4 t534 t548 l0_0 a0_1 a0_2 t543 t546 t547)) = some r := H
    have A25 := Am_ A250
    clear A250
    have HC26 := Am_ H
    clear H
    have hcz27_0 : wc.cell? ⟨gb525, 0, none⟩ = some (.slice A0_0 l0_0.length c0_0) := (Bc_ BK525.out 0).trans rfl
    have hcz27_1 : wc.cell? ⟨gb525, 1, none⟩ = some (.int .i64 a0_1) := (Bc_ BK525.out 1).trans rfl
    have hcz27_2 : wc.cell? ⟨gb525, 2, none⟩ = some (.int .i64 a0_2) := (Bc_ BK525.out 2).trans rfl
    have hfz27_0 := Bf_ BK525.out 0
    have hfz27_1 := Bf_ BK525.out 1
    have hfz27_2 := Bf_ BK525.out 2
    go_upto_if 58 with (first | ((with_reducible refine gate_callee (f := 13) rfl ?_); refine goesL_ (some 37) rfl rfl Try.func13 (by kernel_rfl) rfl #[.agg #[.slice A0_0 l0_0.length c0_0, .int .i64 a0_1, .int .i64 a0_2]] rfl (by (try simp only [List.map_toArray, List.map_cons, List.map_nil]); first | done | rfl | (simp only [List.length_drop, List.length_take]; rfl)) ?_; (with_reducible refine (flagstonelaw09_its.calls kj5 _ _ l0_0 a0_1 a0_2 t529 t532 t533 _ ?side1 ?side2 A22.out).mono ?_); (case side1 => repeat (first | exact (Kd.C_below HR0_0.out HB.out) | (with_reducible refine Kd.C_alloc ?_ _) | (with_reducible refine Kd.C_drewN ?_ _) | (with_reducible refine Kd.C_drew ?_))); (case side2 => exact HC0_0.out); rintro e w28 ⟨v530, rfl, ho0, hb⟩; refine ⟨_, rfl, ?_⟩; have n0_ := Am_ (Kd.S_lower ho0 (Bz_ (by repeat (first | (with_reducible first | exact HB.out | apply Pa_ | apply Pn_ | apply Pd_ | refine Bs_ ?_ GE525.out) | exact HB.out)))); have n1_ := Am_ (Bb_ (g := gb525) (o := .cells #[.slice A0_0 l0_0.length c0_0, .int .i64 a0_1, .int .i64 a0_2] 24 (0, 0)) (by (with_reducible repeat (first | refine Bn_ ?_ _ | refine Bd_ ?_ | refine Ba_ ?_ _)); exact BK525.out) hb); have n2_ := Am_ (Be_ (by repeat (first | (with_reducible first | exact HB.out | apply Pa_ | apply Pn_ | apply Pd_ | refine Bs_ ?_ GE525.out) | exact HB.out)) hb); clear BK525; clear HB; have HO531 := n0_; have BK525 := n1_; have HB := n2_; clear n0_ n1_ n2_; (try clear hb); (try clear hb2); (try clear hk); (try clear hi); (try clear ho0); obtain ⟨Ao29, co29, eo29⟩ := Kd.S_slice HO531.out; subst eo29) | ((with_reducible refine gate_callee (f := 15) rfl ?_); refine goesL_ (some 39) rfl rfl Try.func15 (by kernel_rfl) rfl #[.agg #[.slice Ao29 t529.length co29, .int .i64 t532, .int .i64 t533], .int .i64 a1] rfl (by (try simp only [List.map_toArray, List.map_cons, List.map_nil]); first | done | rfl | (simp only [List.length_drop, List.length_take]; rfl)) ?_; (with_reducible refine (flagstoneref09_Size.calls _ _ t529 t532 t533 a1 t534 t535 _ ?side1 ?side2 A23.out).mono ?_); (case side1 => repeat (first | exact (Kd.S_reads' HO531.out).2.2 | (with_reducible refine Kd.C_alloc ?_ _) | (with_reducible refine Kd.C_drewN ?_ _) | (with_reducible refine Kd.C_drew ?_))); (case side2 => exact (Kd.S_reads' HO531.out).2.1); rintro e w30 ⟨rfl, hb⟩; refine ⟨_, rfl, ?_⟩; have n0_ := Am_ (Kd.S_below (by (with_reducible repeat (first | apply Kd.S_alloc | apply Kd.S_drewN | apply Kd.S_drew)); exact HO531.out) hb); have n1_ := Am_ (Bb_ (g := gb525) (o := .cells #[.slice A0_0 l0_0.length c0_0, .int .i64 a0_1, .int .i64 a0_2] 24 (0, 0)) (by (with_reducible repeat (first | refine Bn_ ?_ _ | refine Bd_ ?_ | refine Ba_ ?_ _)); exact BK525.out) hb); have n2_ := Am_ (Be_ (by repeat (first | (with_reducible first | exact HB.out | apply Pa_ | apply Pn_ | apply Pd_ | refine Bs_ ?_ GE525.out) | exact HB.out)) hb); clear HO531; clear BK525; clear HB; have HO531 := n0_; have BK525 := n1_; have HB := n2_; clear n0_ n1_ n2_; (try clear hb); (try clear hb2); (try clear hk); (try clear hi); have hcz31_0 : w30.cell? ⟨gb525, 0, none⟩ = some (.slice A0_0 l0_0.length c0_0) := (Bc_ BK525.out 0).trans rfl; have hcz31_1 : w30.cell? ⟨gb525, 1, none⟩ = some (.int .i64 a0_1) := (Bc_ BK525.out 1).trans rfl; have hcz31_2 : w30.cell? ⟨gb525, 2, none⟩ = some (.int .i64 a0_2) := (Bc_ BK525.out 2).trans rfl; have hfz31_0 := Bf_ BK525.out 0; have hfz31_1 := Bf_ BK525.out 1; have hfz31_2 := Bf_ BK525.out 2) | ((with_reducible refine gate_callee (f := 16) rfl ?_); refine goesL_ (some 47) rfl rfl Try.func16 (by kernel_rfl) rfl #[.agg #[.slice A0_0 l0_0.length c0_0, .int .i64 a0_1, .int .i64 a0_2], .int .i64 a1, .int .i64 a2, .string a3] rfl (by (try simp only [List.map_toArray, List.map_cons, List.map_nil]); first | done | rfl | (simp only [List.length_drop, List.length_take]; rfl)) ?_; (with_reducible refine (content_Write.calls (fun k_ => k_ < w.heap.size) _ _ l0_0 a0_1 a0_2 a1 a2 a3 t536 t539 t540 t541 _ ?side1 A24.out).mono ?_); (case side1 => exact Kd.V_mk HC0_0.out (Kd.F_below (Kd.C_F k59_heap HR0_0.out) (by repeat (first | (with_reducible first | exact HB.out | apply Pa_ | apply Pn_ | apply Pd_ | refine Bs_ ?_ GE525.out) | exact HB.out)))); rintro e w32 ⟨v537, rfl, ho0, hb⟩; refine ⟨_, rfl, ?_⟩; have n0_ := Am_ (Kd.S_below (by (with_reducible repeat (first | apply Kd.S_alloc | apply Kd.S_drewN | apply Kd.S_drew)); exact HO531.out) hb); have n1_ := Am_ (Vl_ (Vm_ (ok' := fun k_ => some k_ ≠ (.slice Ao29 t529.length co29 : Value).ownBlock ∧ k_ ≠ gb525) ho0 (fun k_ hk_ => ⟨Or.elim hk_ (fun hs_ => fun e_ => Nat.not_le.2 hs_ (Kd.S_base HO531.out k_ e_.symm)) (fun hn_ => (Kd.fresh' (Kd.S_lt (by (with_reducible repeat (first | apply Kd.S_alloc | apply Kd.S_drewN | apply Kd.S_drew)); exact HO531.out)) k_ hn_)), Or.elim hk_ (fun hs_ => fun e_ => Nat.not_le.2 hs_ (by rw [e_]; exact GW525.out)) (fun hn_ => (Kd.freshB (g := gb525) (o := .cells #[.slice A0_0 l0_0.length c0_0, .int .i64 a0_1, .int .i64 a0_2] 24 (0, 0)) (by (with_reducible repeat (first | refine Bn_ ?_ _ | refine Bd_ ?_ | refine Ba_ ?_ _)); exact BK525.out) k_ hn_))⟩)) (Bz_ (by repeat (first | (with_reducible first | exact HB.out | apply Pa_ | apply Pn_ | apply Pd_ | refine Bs_ ?_ GE525.out) | exact HB.out)))); have n2_ := Am_ (Bb_ (g := gb525) (o := .cells #[.slice A0_0 l0_0.length c0_0, .int .i64 a0_1, .int .i64 a0_2] 24 (0, 0)) (by (with_reducible repeat (first | refine Bn_ ?_ _ | refine Bd_ ?_ | refine Ba_ ?_ _)); exact BK525.out) hb); have n3_ := Am_ (Be_ (by repeat (first | (with_reducible first | exact HB.out | apply Pa_ | apply Pn_ | apply Pd_ | refine Bs_ ?_ GE525.out) | exact HB.out)) hb); clear HO531; clear BK525; clear HB; have HO531 := n0_; have HO538 := n1_; have BK525 := n2_; have HB := n3_; clear n0_ n1_ n2_ n3_; (try clear hb); (try clear hb2); (try clear hk); (try clear hi); (try clear ho0)) | ((with_reducible refine gate_dst (N := 13) rfl ?_); (try (refine gate_guard (by rfl) ?_; dsimp only)); refine box_event ?hg (N := 13) ?hd (cs := #[.slice none 0 0, .int .i64 0, .int .i64 0]) (t := 24) ?hr ?_; (case hd => rfl); (case hg => rfl); (case hr => first | (go_simp; done) | (go_simp; rfl)); intro gb542 hg w33 hbox hb; have n0_ := Am_ (Kd.S_below (by (with_reducible repeat (first | apply Kd.S_alloc | apply Kd.S_drewN | apply Kd.S_drew)); exact HO531.out) hb); have n1_ := Am_ (Vb_ (Ke_ (by (with_reducible repeat (first | apply Va_ | apply Vn_ | apply Vd_)); exact HO538.out) gb542 (Nat.le_of_eq hg.symm)) hb); have n2_ := Am_ (Bb_ (g := gb525) (o := .cells #[.slice A0_0 l0_0.length c0_0, .int .i64 a0_1, .int .i64 a0_2] 24 (0, 0)) (by (with_reducible repeat (first | refine Bn_ ?_ _ | refine Bd_ ?_ | refine Ba_ ?_ _)); exact BK525.out) hb); have n3_ := Am_ (Be_ (by repeat (first | (with_reducible first | exact HB.out | apply Pa_ | apply Pn_ | apply Pd_ | refine Bs_ ?_ GE525.out) | exact HB.out)) hb); have n4_ := Am_ (hbox); have n5_ := Am_ ((by rw [hg]; exact (Bz_ (by repeat (first | (with_reducible first | exact HB.out | apply Pa_ | apply Pn_ | apply Pd_ | refine Bs_ ?_ GE525.out) | exact HB.out))) : w.heap.size ≤ gb542)); have n6_ := Am_ ((by rw [hg]; exact (Bz_ (by repeat (first | (with_reducible first | exact HB.out | apply Pa_ | apply Pn_ | apply Pd_ | refine Bs_ ?_ GE525.out) | exact HB.out))) : w.heap.size ≤ gb542)); have n7_ := Am_ ((by rw [hg]; exact Nat.ne_of_lt (blk_lt (g := gb525) (o := .cells #[.slice A0_0 l0_0.length c0_0, .int .i64 a0_1, .int .i64 a0_2] 24 (0, 0)) (by (with_reducible repeat (first | refine Bn_ ?_ _ | refine Bd_ ?_ | refine Ba_ ?_ _)); exact BK525.out)) : gb525 ≠ gb542)); have n8_ := Am_ ((by rw [hg]; exact Nat.ne_of_gt (blk_lt (g := gb525) (o := .cells #[.slice A0_0 l0_0.length c0_0, .int .i64 a0_1, .int .i64 a0_2] 24 (0, 0)) (by (with_reducible repeat (first | refine Bn_ ?_ _ | refine Bd_ ?_ | refine Ba_ ?_ _)); exact BK525.out)) : gb542 ≠ gb525)); clear HO531; clear HO538; clear BK525; clear HB; have HO531 := n0_; have HO538 := n1_; have BK525 := n2_; have HB := n3_; have BK542 := n4_; have GW542 := n5_; have GE542 := n6_; have NB525_542 := n7_; have NB542_525 := n8_; clear n0_ n1_ n2_ n3_ n4_ n5_ n6_ n7_ n8_; clear hb hbox hg; obtain ⟨Ao34, co34, eo34⟩ := Vx_ HO538.out; subst eo34; have hnb35 := NB542_525.out; have hnc35 := NB525_542.out; have hcz36_0 : w33.cell? ⟨gb542, 0, none⟩ = some (.slice none 0 0) := (Bc_ BK542.out 0).trans rfl; have hcz36_1 : w33.cell? ⟨gb542, 1, none⟩ = some (.int .i64 0) := (Bc_ BK542.out 1).trans rfl; have hcz36_2 : w33.cell? ⟨gb542, 2, none⟩ = some (.int .i64 0) := (Bc_ BK542.out 2).trans rfl; have hfz36_0 := Bf_ BK542.out 0; have hfz36_1 := Bf_ BK542.out 1; have hfz36_2 := Bf_ BK542.out 2) | ((with_reducible refine gate_store (t := 24) (p := 13) rfl ?_); refine store_event (t := 24) (p := 13) (v := ?vo_w37) (w1 := (((w33.setCell ⟨gb542, 0, none⟩ (.slice Ao34 t536.length co34)).setCell ⟨gb542, 1, none⟩ (.int .i64 t539)).setCell ⟨gb542, 2, none⟩ (.int .i64 t540))) ?hg ?ho ?hn ?hr ?_; (case ho => rfl); (case hg => rfl); (case hn => rfl); (case hr => first | (go_simp; done) | (go_simp; rfl)); intro w37 hw; have n0_ : Aside0 (Kd.S k53 53 w37 w.heap.size (fun _ => True) (.slice Ao29 t529.length co29) t529) := ⟨(by rw [hw]; exact (by (with_reducible repeat (first | apply Kd.S_alloc | apply Kd.S_drewN | apply Kd.S_drew)); exact Kd.S_mono (Kd.S_far (p := ⟨gb542, 2, none⟩) (Kd.S_far (p := ⟨gb542, 1, none⟩) (Kd.S_far (p := ⟨gb542, 0, none⟩) (Kd.S_types HO531.out BK542.out (by decide)) (fun _ hk => hk.2) (.slice Ao34 t536.length co34)) (fun _ hk => hk.2) (.int .i64 t539)) (fun _ hk => hk.2) (.int .i64 t540)) (fun _ hk => trivial)))⟩; have n1_ : Aside0 (Kd.V k59 59 w37 w.heap.size (fun k_ => some k_ ≠ (.slice Ao29 t529.length co29 : Value).ownBlock ∧ k_ ≠ gb525 ∧ k_ ≠ gb542) (.slice Ao34 t536.length co34) t536) := ⟨(by rw [hw]; exact (by (with_reducible repeat (first | apply Va_ | apply Vn_ | apply Vd_)); exact Vm_ (Vf_ (p := ⟨gb542, 2, none⟩) (Vf_ (p := ⟨gb542, 1, none⟩) (Vf_ (p := ⟨gb542, 0, none⟩) (Vm_ HO538.out (fun k_ hk => (⟨hk, hk.2⟩ : _ ∧ k_ ≠ gb542))) (fun _ hk => hk.2) (.slice Ao34 t536.length co34)) (fun _ hk => hk.2) (.int .i64 t539)) (fun _ hk => hk.2) (.int .i64 t540)) (fun _ hk => ⟨hk.1.1.1, ⟨hk.1.1.2, hk.1.2⟩⟩)))⟩; have n2_ : Aside0 (w37.heap[gb525]? = some (.cells #[.slice A0_0 l0_0.length c0_0, .int .i64 a0_1, .int .i64 a0_2] 24 (0, 0))) := ⟨(by rw [hw]; exact (by (with_reducible repeat (first | refine Bn_ ?_ _ | refine Bd_ ?_ | refine Ba_ ?_ _)); refine blk_far ?_ NB525_542.out _; (with_reducible repeat (first | refine Bn_ ?_ _ | refine Bd_ ?_ | refine Ba_ ?_ _)); refine blk_far ?_ NB525_542.out _; (with_reducible repeat (first | refine Bn_ ?_ _ | refine Bd_ ?_ | refine Ba_ ?_ _)); refine blk_far ?_ NB525_542.out _; (with_reducible repeat (first | refine Bn_ ?_ _ | refine Bd_ ?_ | refine Ba_ ?_ _)); exact BK525.out))⟩; have n3_ : Aside0 (w37.heap[gb542]? = some (.cells #[.slice Ao34 t536.length co34, .int .i64 t539, .int .i64 t540] 24 (0, 0))) := ⟨(by rw [hw]; exact (by (with_reducible repeat (first | refine Bn_ ?_ _ | refine Bd_ ?_ | refine Ba_ ?_ _)); refine Bp_ (cs := #[.slice Ao34 t536.length co34, .int .i64 t539, .int .i64 0]) ?_ 2 _ rfl; (with_reducible repeat (first | refine Bn_ ?_ _ | refine Bd_ ?_ | refine Ba_ ?_ _)); refine Bp_ (cs := #[.slice Ao34 t536.length co34, .int .i64 0, .int .i64 0]) ?_ 1 _ rfl; (with_reducible repeat (first | refine Bn_ ?_ _ | refine Bd_ ?_ | refine Ba_ ?_ _)); refine Bp_ (cs := #[.slice none 0 0, .int .i64 0, .int .i64 0]) ?_ 0 _ rfl; (with_reducible repeat (first | refine Bn_ ?_ _ | refine Bd_ ?_ | refine Ba_ ?_ _)); exact BK542.out))⟩; have n4_ : Aside0 (Below w.heap.size w w37) := ⟨(by rw [hw]; exact (by repeat (first | (with_reducible first | exact HB.out | apply Pa_ | apply Pn_ | apply Pd_ | refine Bs_ ?_ GE525.out | refine Bs_ ?_ GE542.out) | exact HB.out)))⟩; clear hw; clear HO531; clear HO538; clear BK525; clear BK542; clear HB; have HO531 := n0_; have HO538 := n1_; have BK525 := n2_; have BK542 := n3_; have HB := n4_; clear n0_ n1_ n2_ n3_ n4_; have hcz38_0 : w37.cell? ⟨gb525, 0, none⟩ = some (.slice A0_0 l0_0.length c0_0) := (Bc_ BK525.out 0).trans rfl; have hcz38_1 : w37.cell? ⟨gb525, 1, none⟩ = some (.int .i64 a0_1) := (Bc_ BK525.out 1).trans rfl; have hcz38_2 : w37.cell? ⟨gb525, 2, none⟩ = some (.int .i64 a0_2) := (Bc_ BK525.out 2).trans rfl; have hfz38_0 := Bf_ BK525.out 0; have hfz38_1 := Bf_ BK525.out 1; have hfz38_2 := Bf_ BK525.out 2) | ((with_reducible refine gate_callee (f := 18) rfl ?_); refine goesL_ (some 54) rfl rfl Try.func18 (by kernel_rfl) rfl #[.agg #[.slice A0_0 l0_0.length c0_0, .int .i64 a0_1, .int .i64 a0_2], .int .i64 a1, .int .i64 a4] rfl (by (try simp only [List.map_toArray, List.map_cons, List.map_nil]); first | done | rfl | (simp only [List.length_drop, List.length_take]; rfl)) ?_; (with_reducible refine (content_Cut.calls (fun k_ => k_ < w.heap.size) _ _ l0_0 a0_1 a0_2 a1 a4 t543 t546 t547 t548 _ ?side1 A25.out).mono ?_); (case side1 => exact Kd.V_mk HC0_0.out (Kd.F_below (Kd.C_F k59_heap HR0_0.out) (by repeat (first | (with_reducible first | exact HB.out | apply Pa_ | apply Pn_ | apply Pd_ | refine Bs_ ?_ GE525.out | refine Bs_ ?_ GE542.out) | exact HB.out)))); rintro e w39 ⟨v544, rfl, ho0, hb⟩; refine ⟨_, rfl, ?_⟩; have n0_ := Am_ (Kd.S_below (by (with_reducible repeat (first | apply Kd.S_alloc | apply Kd.S_drewN | apply Kd.S_drew)); exact HO531.out) hb); have n1_ := Am_ (Vb_ (by (with_reducible repeat (first | apply Va_ | apply Vn_ | apply Vd_)); exact HO538.out) hb); have n2_ := Am_ (Vl_ (Vm_ (ok' := fun k_ => some k_ ≠ (.slice Ao29 t529.length co29 : Value).ownBlock ∧ k_ ≠ gb525 ∧ k_ ≠ gb542) ho0 (fun k_ hk_ => ⟨Or.elim hk_ (fun hs_ => fun e_ => Nat.not_le.2 hs_ (Kd.S_base HO531.out k_ e_.symm)) (fun hn_ => (Kd.fresh' (Kd.S_lt (by (with_reducible repeat (first | apply Kd.S_alloc | apply Kd.S_drewN | apply Kd.S_drew)); exact HO531.out)) k_ hn_)), Or.elim hk_ (fun hs_ => fun e_ => Nat.not_le.2 hs_ (by rw [e_]; exact GW525.out)) (fun hn_ => (Kd.freshB (g := gb525) (o := .cells #[.slice A0_0 l0_0.length c0_0, .int .i64 a0_1, .int .i64 a0_2] 24 (0, 0)) (by (with_reducible repeat (first | refine Bn_ ?_ _ | refine Bd_ ?_ | refine Ba_ ?_ _)); exact BK525.out) k_ hn_)), Or.elim hk_ (fun hs_ => fun e_ => Nat.not_le.2 hs_ (by rw [e_]; exact GW542.out)) (fun hn_ => (Kd.freshB (g := gb542) (o := .cells #[.slice Ao34 t536.length co34, .int .i64 t539, .int .i64 t540] 24 (0, 0)) (by (with_reducible repeat (first | refine Bn_ ?_ _ | refine Bd_ ?_ | refine Ba_ ?_ _)); exact BK542.out) k_ hn_))⟩)) (Bz_ (by repeat (first | (with_reducible first | exact HB.out | apply Pa_ | apply Pn_ | apply Pd_ | refine Bs_ ?_ GE525.out | refine Bs_ ?_ GE542.out) | exact HB.out)))); have n3_ := Am_ (Bb_ (g := gb525) (o := .cells #[.slice A0_0 l0_0.length c0_0, .int .i64 a0_1, .int .i64 a0_2] 24 (0, 0)) (by (with_reducible repeat (first | refine Bn_ ?_ _ | refine Bd_ ?_ | refine Ba_ ?_ _)); exact BK525.out) hb); have n4_ := Am_ (Bb_ (g := gb542) (o := .cells #[.slice Ao34 t536.length co34, .int .i64 t539, .int .i64 t540] 24 (0, 0)) (by (with_reducible repeat (first | refine Bn_ ?_ _ | refine Bd_ ?_ | refine Ba_ ?_ _)); exact BK542.out) hb); have n5_ := Am_ (Be_ (by repeat (first | (with_reducible first | exact HB.out | apply Pa_ | apply Pn_ | apply Pd_ | refine Bs_ ?_ GE525.out | refine Bs_ ?_ GE542.out) | exact HB.out)) hb); clear HO531; clear HO538; clear BK525; clear BK542; clear HB; have HO531 := n0_; have HO538 := n1_; have HO545 := n2_; have BK525 := n3_; have BK542 := n4_; have HB := n5_; clear n0_ n1_ n2_ n3_ n4_ n5_; (try clear hb); (try clear hb2); (try clear hk); (try clear hi); (try clear ho0)) | ((with_reducible refine gate_dst (N := 15) rfl ?_); (try (refine gate_guard (by rfl) ?_; dsimp only)); refine box_event ?hg (N := 15) ?hd (cs := #[.slice none 0 0, .int .i64 0, .int .i64 0]) (t := 24) ?hr ?_; (case hd => rfl); (case hg => rfl); (case hr => first | (go_simp; done) | (go_simp; rfl)); intro gb549 hg w40 hbox hb; have n0_ := Am_ (Kd.S_below (by (with_reducible repeat (first | apply Kd.S_alloc | apply Kd.S_drewN | apply Kd.S_drew)); exact HO531.out) hb); have n1_ := Am_ (Vb_ (Ke_ (by (with_reducible repeat (first | apply Va_ | apply Vn_ | apply Vd_)); exact HO538.out) gb549 (Nat.le_of_eq hg.symm)) hb); have n2_ := Am_ (Vb_ (Ke_ (by (with_reducible repeat (first | apply Va_ | apply Vn_ | apply Vd_)); exact HO545.out) gb549 (Nat.le_of_eq hg.symm)) hb); have n3_ := Am_ (Bb_ (g := gb525) (o := .cells #[.slice A0_0 l0_0.length c0_0, .int .i64 a0_1, .int .i64 a0_2] 24 (0, 0)) (by (with_reducible repeat (first | refine Bn_ ?_ _ | refine Bd_ ?_ | refine Ba_ ?_ _)); exact BK525.out) hb); have n4_ := Am_ (Bb_ (g := gb542) (o := .cells #[.slice Ao34 t536.length co34, .int .i64 t539, .int .i64 t540] 24 (0, 0)) (by (with_reducible repeat (first | refine Bn_ ?_ _ | refine Bd_ ?_ | refine Ba_ ?_ _)); exact BK542.out) hb); have n5_ := Am_ (Be_ (by repeat (first | (with_reducible first | exact HB.out | apply Pa_ | apply Pn_ | apply Pd_ | refine Bs_ ?_ GE525.out | refine Bs_ ?_ GE542.out) | exact HB.out)) hb); have n6_ := Am_ (hbox); have n7_ := Am_ ((by rw [hg]; exact (Bz_ (by repeat (first | (with_reducible first | exact HB.out | apply Pa_ | apply Pn_ | apply Pd_ | refine Bs_ ?_ GE525.out | refine Bs_ ?_ GE542.out) | exact HB.out))) : w.heap.size ≤ gb549)); have n8_ := Am_ ((by rw [hg]; exact (Bz_ (by repeat (first | (with_reducible first | exact HB.out | apply Pa_ | apply Pn_ | apply Pd_ | refine Bs_ ?_ GE525.out | refine Bs_ ?_ GE542.out) | exact HB.out))) : w.heap.size ≤ gb549)); have n9_ := Am_ ((by rw [hg]; exact Nat.ne_of_lt (blk_lt (g := gb525) (o := .cells #[.slice A0_0 l0_0.length c0_0, .int .i64 a0_1, .int .i64 a0_2] 24 (0, 0)) (by (with_reducible repeat (first | refine Bn_ ?_ _ | refine Bd_ ?_ | refine Ba_ ?_ _)); exact BK525.out)) : gb525 ≠ gb549)); have n10_ := Am_ ((by rw [hg]; exact Nat.ne_of_gt (blk_lt (g := gb525) (o := .cells #[.slice A0_0 l0_0.length c0_0, .int .i64 a0_1, .int .i64 a0_2] 24 (0, 0)) (by (with_reducible repeat (first | refine Bn_ ?_ _ | refine Bd_ ?_ | refine Ba_ ?_ _)); exact BK525.out)) : gb549 ≠ gb525)); have n11_ := Am_ ((by rw [hg]; exact Nat.ne_of_lt (blk_lt (g := gb542) (o := .cells #[.slice Ao34 t536.length co34, .int .i64 t539, .int .i64 t540] 24 (0, 0)) (by (with_reducible repeat (first | refine Bn_ ?_ _ | refine Bd_ ?_ | refine Ba_ ?_ _)); exact BK542.out)) : gb542 ≠ gb549)); have n12_ := Am_ ((by rw [hg]; exact Nat.ne_of_gt (blk_lt (g := gb542) (o := .cells #[.slice Ao34 t536.length co34, .int .i64 t539, .int .i64 t540] 24 (0, 0)) (by (with_reducible repeat (first | refine Bn_ ?_ _ | refine Bd_ ?_ | refine Ba_ ?_ _)); exact BK542.out)) : gb549 ≠ gb542)); clear HO531; clear HO538; clear HO545; clear BK525; clear BK542; clear HB; have HO531 := n0_; have HO538 := n1_; have HO545 := n2_; have BK525 := n3_; have BK542 := n4_; have HB := n5_; have BK549 := n6_; have GW549 := n7_; have GE549 := n8_; have NB525_549 := n9_; have NB549_525 := n10_; have NB542_549 := n11_; have NB549_542 := n12_; clear n0_ n1_ n2_ n3_ n4_ n5_ n6_ n7_ n8_ n9_ n10_ n11_ n12_; clear hb hbox hg; obtain ⟨Ao41, co41, eo41⟩ := Vx_ HO545.out; subst eo41; have hnb42 := NB549_525.out; have hnc42 := NB525_549.out; have hnb43 := NB549_542.out; have hnc43 := NB542_549.out; have hcz44_0 : w40.cell? ⟨gb549, 0, none⟩ = some (.slice none 0 0) := (Bc_ BK549.out 0).trans rfl; have hcz44_1 : w40.cell? ⟨gb549, 1, none⟩ = some (.int .i64 0) := (Bc_ BK549.out 1).trans rfl; have hcz44_2 : w40.cell? ⟨gb549, 2, none⟩ = some (.int .i64 0) := (Bc_ BK549.out 2).trans rfl; have hfz44_0 := Bf_ BK549.out 0; have hfz44_1 := Bf_ BK549.out 1; have hfz44_2 := Bf_ BK549.out 2))
    (try simp only [Act.put, La_, Lb_, Lc_])
    go_cut [] (fun wc => ∃ (kq : Nat), Aside0 (flagstonelaw09_ContentSizes.j2 kq a1 a4 t534 t548 l0_0 a0_1 a0_2 t543 t546 t547 = some r) ∧ Aside0 (kq ≤ kj5) ∧ Aside0 (Kd.V k59 59 wc w.heap.size (fun k_ => k_ ≠ gb525 ∧ k_ ≠ gb542 ∧ k_ ≠ gb549) (.slice Ao34 t536.length co34) t536) ∧ Aside0 (Kd.V k59 59 wc w.heap.size (fun k_ => k_ ≠ gb525 ∧ k_ ≠ gb542 ∧ k_ ≠ gb549) (.slice Ao41 t543.length co41) t543) ∧ Aside0 (wc.heap[gb525]? = some (.cells #[(.slice A0_0 l0_0.length c0_0), .int .i64 a0_1, .int .i64 a0_2] 24 (0, 0))) ∧ Aside0 (wc.heap[gb542]? = some (.cells #[(.slice Ao34 t536.length co34), .int .i64 t539, .int .i64 t540] 24 (0, 0))) ∧ Aside0 (wc.heap[gb549]? = some (.cells #[(.slice Ao41 t543.length co41), .int .i64 t546, .int .i64 t547] 24 (0, 0))) ∧ Aside0 (Below w.heap.size w wc))
    case first =>
     have H := HC26.out
     clear HC26
     by_cases c45 : t541 = 0
     ·rw [if_pos c45] at H
      have c45b0 : (t541 == 0) = true := beq_iff_eq.mpr c45
      have c45b1 : (t541 != 0) = false := bne_eq_false_iff_eq.mpr c45
      clear c45
      (first | rw [c45b0] | (simp only [i64_w, i32_w]; rw [c45b0]) | skip)
      have HC46 := Am_ H
      clear H
      go_upto_if 61 with (fail)
      go_cut [17] (fun v17 wc => ∃ (kq : Nat) (x17_45 : Int), v17 = .int .i64 x17_45 ∧ Aside0 (flagstonelaw09_ContentSizes.j1 kq a1 a4 t534 t548 x17_45 l0_0 a0_1 a0_2 t536 t539 t540 t543 t546 t547 = some r) ∧ Aside0 (kq ≤ kj5) ∧ Aside0 (Kd.V k59 59 wc w.heap.size (fun k_ => k_ ≠ gb525 ∧ k_ ≠ gb542 ∧ k_ ≠ gb549) (.slice Ao34 t536.length co34) t536) ∧ Aside0 (Kd.V k59 59 wc w.heap.size (fun k_ => k_ ≠ gb525 ∧ k_ ≠ gb542 ∧ k_ ≠ gb549) (.slice Ao41 t543.length co41) t543) ∧ Aside0 (wc.heap[gb525]? = some (.cells #[(.slice A0_0 l0_0.length c0_0), .int .i64 a0_1, .int .i64 a0_2] 24 (0, 0))) ∧ Aside0 (wc.heap[gb542]? = some (.cells #[(.slice Ao34 t536.length co34), .int .i64 t539, .int .i64 t540] 24 (0, 0))) ∧ Aside0 (wc.heap[gb549]? = some (.cells #[(.slice Ao41 t543.length co41), .int .i64 t546, .int .i64 t547] 24 (0, 0))) ∧ Aside0 (Below w.heap.size w wc))
      case first =>
       have H := HC46.out
       clear HC46
       by_cases c47 : a3.toList = ([] : List UInt8)
       ·rw [if_pos c47] at H
        have c47b0 : (a3.toList == ([] : List UInt8)) = true := beq_iff_eq.mpr c47
        have c47b1 : (a3.toList != ([] : List UInt8)) = false := bne_eq_false_iff_eq.mpr c47
        have c47z0 : a3.toList.isEmpty = true := List.isEmpty_iff.2 c47
        have c47z1 : (!a3.toList.isEmpty) = false := by rw [c47z0]; rfl
        (first | rw [c47z1] | simp only [c47z1] | skip)
        clear c47
        (first | rw [c47b0] | (simp only [i64_w, i32_w]; rw [c47b0]) | skip)
        have H' := Am_ H
        clear H
        go_wp2
        go_meet
        case rel => exact ⟨_, (t534), (by first | rfl | (simp; done) | (simp [*]; done)), H', ⟨by have := HJ5.out; first | omega | exact Nat.le_refl _⟩, ⟨by (with_reducible repeat (first | apply Va_ | apply Vn_ | apply Vd_)); exact Vm_ (Vf_ (p := ⟨gb549, 2, none⟩) (Vf_ (p := ⟨gb549, 1, none⟩) (Vf_ (p := ⟨gb549, 0, none⟩) (Vm_ HO538.out (fun k_ hk => (⟨hk, hk.2⟩ : _ ∧ k_ ≠ gb549))) (fun _ hk => hk.2) (.slice Ao41 t543.length co41)) (fun _ hk => hk.2) (.int .i64 t546)) (fun _ hk => hk.2) (.int .i64 t547)) (fun _ hk => ⟨hk.1.1.2.1, ⟨hk.1.1.2.2, hk.1.2⟩⟩)⟩, ⟨by (with_reducible repeat (first | apply Va_ | apply Vn_ | apply Vd_)); exact Vm_ (Vf_ (p := ⟨gb549, 2, none⟩) (Vf_ (p := ⟨gb549, 1, none⟩) (Vf_ (p := ⟨gb549, 0, none⟩) (Vm_ HO545.out (fun k_ hk => (⟨hk, hk.2⟩ : _ ∧ k_ ≠ gb549))) (fun _ hk => hk.2) (.slice Ao41 t543.length co41)) (fun _ hk => hk.2) (.int .i64 t546)) (fun _ hk => hk.2) (.int .i64 t547)) (fun _ hk => ⟨hk.1.1.2.1, ⟨hk.1.1.2.2, hk.1.2⟩⟩)⟩, ⟨by (with_reducible repeat (first | refine Bn_ ?_ _ | refine Bd_ ?_ | refine Ba_ ?_ _)); refine blk_far ?_ NB525_549.out _; (with_reducible repeat (first | refine Bn_ ?_ _ | refine Bd_ ?_ | refine Ba_ ?_ _)); refine blk_far ?_ NB525_549.out _; (with_reducible repeat (first | refine Bn_ ?_ _ | refine Bd_ ?_ | refine Ba_ ?_ _)); refine blk_far ?_ NB525_549.out _; (with_reducible repeat (first | refine Bn_ ?_ _ | refine Bd_ ?_ | refine Ba_ ?_ _)); exact BK525.out⟩, ⟨by (with_reducible repeat (first | refine Bn_ ?_ _ | refine Bd_ ?_ | refine Ba_ ?_ _)); refine blk_far ?_ NB542_549.out _; (with_reducible repeat (first | refine Bn_ ?_ _ | refine Bd_ ?_ | refine Ba_ ?_ _)); refine blk_far ?_ NB542_549.out _; (with_reducible repeat (first | refine Bn_ ?_ _ | refine Bd_ ?_ | refine Ba_ ?_ _)); refine blk_far ?_ NB542_549.out _; (with_reducible repeat (first | refine Bn_ ?_ _ | refine Bd_ ?_ | refine Ba_ ?_ _)); exact BK542.out⟩, ⟨by (with_reducible repeat (first | refine Bn_ ?_ _ | refine Bd_ ?_ | refine Ba_ ?_ _)); refine Bp_ (cs := #[.slice Ao41 t543.length co41, .int .i64 t546, .int .i64 0]) ?_ 2 _ rfl; (with_reducible repeat (first | refine Bn_ ?_ _ | refine Bd_ ?_ | refine Ba_ ?_ _)); refine Bp_ (cs := #[.slice Ao41 t543.length co41, .int .i64 0, .int .i64 0]) ?_ 1 _ rfl; (with_reducible repeat (first | refine Bn_ ?_ _ | refine Bd_ ?_ | refine Ba_ ?_ _)); refine Bp_ (cs := #[.slice none 0 0, .int .i64 0, .int .i64 0]) ?_ 0 _ rfl; (with_reducible repeat (first | refine Bn_ ?_ _ | refine Bd_ ?_ | refine Ba_ ?_ _)); exact BK549.out⟩, ⟨by repeat (first | (with_reducible first | exact HB.out | apply Pa_ | apply Pn_ | apply Pd_ | refine Bs_ ?_ GE525.out | refine Bs_ ?_ GE542.out | refine Bs_ ?_ GE549.out) | exact HB.out)⟩⟩
       ·rw [if_neg c47] at H
        have c47b0 : (a3.toList == ([] : List UInt8)) = false := beq_eq_false_iff_ne.mpr c47
        have c47b1 : (a3.toList != ([] : List UInt8)) = true := bne_iff_ne.mpr c47
        have c47z0 : a3.toList.isEmpty = false := List.isEmpty_eq_false_iff.2 c47
        have c47z1 : (!a3.toList.isEmpty) = true := by rw [c47z0]; rfl
        (first | rw [c47z1] | simp only [c47z1] | skip)
        (first | rw [c47b0] | (simp only [i64_w, i32_w]; rw [c47b0]) | skip)
        obtain ⟨ji48, hji48⟩ : ∃ j_ : Int, (mx t534 (wrap64 (a2 + (a3.size : Int)))) = j_ := ⟨_, rfl⟩
        replace H : (flagstonelaw09_ContentSizes.j1 kj5 a1 a4 t534 t548 ji48 l0_0 a0_1 a0_2 t536 t539 t540 t543 t546 t547) = some r := by first | (rw [hji48] at H; exact H) | (simp only [hji48] at H ⊢; exact H)
        have hji48_ : (if t534 < (wrap64 (a2 + (a3.size : Int))) then (wrap64 (a2 + (a3.size : Int))) else t534) = ji48 := hji48
        have H' := Am_ H
        clear H
        go_wp2
        go_meet
        case rel => exact ⟨_, (ji48), (by first | rfl | (simp; done) | (simp only [← hji48] <;> (first | rfl | simp)) | (simp [*]; done)), H', ⟨by have := HJ5.out; first | omega | exact Nat.le_refl _⟩, ⟨by (with_reducible repeat (first | apply Va_ | apply Vn_ | apply Vd_)); exact Vm_ (Vf_ (p := ⟨gb549, 2, none⟩) (Vf_ (p := ⟨gb549, 1, none⟩) (Vf_ (p := ⟨gb549, 0, none⟩) (Vm_ HO538.out (fun k_ hk => (⟨hk, hk.2⟩ : _ ∧ k_ ≠ gb549))) (fun _ hk => hk.2) (.slice Ao41 t543.length co41)) (fun _ hk => hk.2) (.int .i64 t546)) (fun _ hk => hk.2) (.int .i64 t547)) (fun _ hk => ⟨hk.1.1.2.1, ⟨hk.1.1.2.2, hk.1.2⟩⟩)⟩, ⟨by (with_reducible repeat (first | apply Va_ | apply Vn_ | apply Vd_)); exact Vm_ (Vf_ (p := ⟨gb549, 2, none⟩) (Vf_ (p := ⟨gb549, 1, none⟩) (Vf_ (p := ⟨gb549, 0, none⟩) (Vm_ HO545.out (fun k_ hk => (⟨hk, hk.2⟩ : _ ∧ k_ ≠ gb549))) (fun _ hk => hk.2) (.slice Ao41 t543.length co41)) (fun _ hk => hk.2) (.int .i64 t546)) (fun _ hk => hk.2) (.int .i64 t547)) (fun _ hk => ⟨hk.1.1.2.1, ⟨hk.1.1.2.2, hk.1.2⟩⟩)⟩, ⟨by (with_reducible repeat (first | refine Bn_ ?_ _ | refine Bd_ ?_ | refine Ba_ ?_ _)); refine blk_far ?_ NB525_549.out _; (with_reducible repeat (first | refine Bn_ ?_ _ | refine Bd_ ?_ | refine Ba_ ?_ _)); refine blk_far ?_ NB525_549.out _; (with_reducible repeat (first | refine Bn_ ?_ _ | refine Bd_ ?_ | refine Ba_ ?_ _)); refine blk_far ?_ NB525_549.out _; (with_reducible repeat (first | refine Bn_ ?_ _ | refine Bd_ ?_ | refine Ba_ ?_ _)); exact BK525.out⟩, ⟨by (with_reducible repeat (first | refine Bn_ ?_ _ | refine Bd_ ?_ | refine Ba_ ?_ _)); refine blk_far ?_ NB542_549.out _; (with_reducible repeat (first | refine Bn_ ?_ _ | refine Bd_ ?_ | refine Ba_ ?_ _)); refine blk_far ?_ NB542_549.out _; (with_reducible repeat (first | refine Bn_ ?_ _ | refine Bd_ ?_ | refine Ba_ ?_ _)); refine blk_far ?_ NB542_549.out _; (with_reducible repeat (first | refine Bn_ ?_ _ | refine Bd_ ?_ | refine Ba_ ?_ _)); exact BK542.out⟩, ⟨by (with_reducible repeat (first | refine Bn_ ?_ _ | refine Bd_ ?_ | refine Ba_ ?_ _)); refine Bp_ (cs := #[.slice Ao41 t543.length co41, .int .i64 t546, .int .i64 0]) ?_ 2 _ rfl; (with_reducible repeat (first | refine Bn_ ?_ _ | refine Bd_ ?_ | refine Ba_ ?_ _)); refine Bp_ (cs := #[.slice Ao41 t543.length co41, .int .i64 0, .int .i64 0]) ?_ 1 _ rfl; (with_reducible repeat (first | refine Bn_ ?_ _ | refine Bd_ ?_ | refine Ba_ ?_ _)); refine Bp_ (cs := #[.slice none 0 0, .int .i64 0, .int .i64 0]) ?_ 0 _ rfl; (with_reducible repeat (first | refine Bn_ ?_ _ | refine Bd_ ?_ | refine Ba_ ?_ _)); exact BK549.out⟩, ⟨by repeat (first | (with_reducible first | exact HB.out | apply Pa_ | apply Pn_ | apply Pd_ | refine Bs_ ?_ GE525.out | refine Bs_ ?_ GE542.out | refine Bs_ ?_ GE549.out) | exact HB.out)⟩⟩
      case rest =>
       clear HC46
       try clear c1
       try clear p2
       try clear c3
       try clear c4
       try clear c6
       try clear p6
       try clear c9
       try clear c10
       try clear c10b0
       try clear c10b1
       try clear c13
       try clear c15
       try clear c16
       try clear c18
       try clear c19
       try clear c35
       try clear c42
       try clear c43
       try clear c45
       try clear c45b0
       try clear c45b1
       try clear c47
       try clear c47b0
       try clear c47b1
       try clear hcz11_0
       try clear hcz11_1
       try clear hcz11_2
       try clear hcz14_0
       try clear hcz14_1
       try clear hcz14_2
       try clear hcz17_0
       try clear hcz17_1
       try clear hcz17_2
       try clear hcz27_0
       try clear hcz27_1
       try clear hcz27_2
       try clear hcz31_0
       try clear hcz31_1
       try clear hcz31_2
       try clear hcz36_0
       try clear hcz36_1
       try clear hcz36_2
       try clear hcz38_0
       try clear hcz38_1
       try clear hcz38_2
       try clear hcz44_0
       try clear hcz44_1
       try clear hcz44_2
       try clear hfz11_0
       try clear hfz11_1
       try clear hfz11_2
       try clear hfz14_0
       try clear hfz14_1
       try clear hfz14_2
       try clear hfz17_0
       try clear hfz17_1
       try clear hfz17_2
       try clear hfz27_0
       try clear hfz27_1
       try clear hfz27_2
       try clear hfz31_0
       try clear hfz31_1
       try clear hfz31_2
       try clear hfz36_0
       try clear hfz36_1
       try clear hfz36_2
       try clear hfz38_0
       try clear hfz38_1
       try clear hfz38_2
       try clear hfz44_0
       try clear hfz44_1
       try clear hfz44_2
       try clear p2
       obtain ⟨kq, x17_45, rfl, HA, HJ45, HO_543000, HO_550000, BK525, BK542, BK549, HB⟩ := hcut
       cases kq with
       | zero => exact absurd HA.out (by simp [flagstonelaw09_ContentSizes.j1])
       | succ kj45 =>
        have H := HA.out
        clear HA
        simp only [flagstonelaw09_ContentSizes.j1] at H
        replace H := Option.bind_eq_some_iff.mp H
        obtain ⟨⟨t550, t551⟩, A490, H⟩ := H
        replace H : (if t551 = 0 then (if t550 = x17_45 then ((flagstonelaw09_its.f kj45 t536 t539 t540).bind fun bt552 => ((flagstoneref06_Bytes.f kj45 bt552.1 bt552.2.1 bt552.2.2).bind fun t557 => ((flagstonelaw09_its.f kj45 l0_0 a0_1 a0_2).bind fun bt558 => ((flagstoneref06_Bytes.f kj45 bt558.1 bt558.2.1 bt558.2.2).bind fun t563 => (if t557 = (wrap64 ((wrap64 (t563 + x17_45)) - t534)) then ((flagstonelaw09_others.f kj45 t536 t539 t540 l0_0 a0_1 a0_2 a1).bind fun t564 => (if t564 = true then (flagstonelaw09_ContentSizes.j2 kj45 a1 a4 t534 t548 l0_0 a0_1 a0_2 t543 t546 t547) else (none))) else (none)))))) else (none)) else (none)) = some r := H
        have A49 := Am_ A490
        clear A490
        by_cases c50 : t551 = 0
        ·rw [if_pos c50] at H
         have c50b0 : (t551 == 0) = true := beq_iff_eq.mpr c50
         have c50b1 : (t551 != 0) = false := bne_eq_false_iff_eq.mpr c50
         clear c50
         by_cases c51 : t550 = x17_45
         ·rw [if_pos c51] at H
          have c51b0 : (t550 == x17_45) = true := beq_iff_eq.mpr c51
          have c51b1 : (t550 != x17_45) = false := bne_eq_false_iff_eq.mpr c51
          clear c51
          replace H := Option.bind_eq_some_iff.mp H
          obtain ⟨⟨t552, t555, t556⟩, A520, H⟩ := H
          replace H : ((flagstoneref06_Bytes.f kj45 t552 t555 t556).bind fun t557 => ((flagstonelaw09_its.f kj45 l0_0 a0_1 a0_2).bind fun bt558 => ((flagstoneref06_Bytes.f kj45 bt558.1 bt558.2.1 bt558.2.2).bind fun t563 => (if t557 = (wrap64 ((wrap64 (t563 + x17_45)) - t534)) then ((flagstonelaw09_others.f kj45 t536 t539 t540 l0_0 a0_1 a0_2 a1).bind fun t564 => (if t564 = true then (flagstonelaw09_ContentSizes.j2 kj45 a1 a4 t534 t548 l0_0 a0_1 a0_2 t543 t546 t547) else (none))) else (none))))) = some r := H
          have A52 := Am_ A520
          clear A520
          replace H := Option.bind_eq_some_iff.mp H
          obtain ⟨t557, A530, H⟩ := H
          replace H : ((flagstonelaw09_its.f kj45 l0_0 a0_1 a0_2).bind fun bt558 => ((flagstoneref06_Bytes.f kj45 bt558.1 bt558.2.1 bt558.2.2).bind fun t563 => (if t557 = (wrap64 ((wrap64 (t563 + x17_45)) - t534)) then ((flagstonelaw09_others.f kj45 t536 t539 t540 l0_0 a0_1 a0_2 a1).bind fun t564 => (if t564 = true then (flagstonelaw09_ContentSizes.j2 kj45 a1 a4 t534 t548 l0_0 a0_1 a0_2 t543 t546 t547) else (none))) else (none)))) = some r := H
          have A53 := Am_ A530
          clear A530
          replace H := Option.bind_eq_some_iff.mp H
          obtain ⟨⟨t558, t561, t562⟩, A540, H⟩ := H
          replace H : ((flagstoneref06_Bytes.f kj45 t558 t561 t562).bind fun t563 => (if t557 = (wrap64 ((wrap64 (t563 + x17_45)) - t534)) then ((flagstonelaw09_others.f kj45 t536 t539 t540 l0_0 a0_1 a0_2 a1).bind fun t564 => (if t564 = true then (flagstonelaw09_ContentSizes.j2 kj45 a1 a4 t534 t548 l0_0 a0_1 a0_2 t543 t546 t547) else (none))) else (none))) = some r := H
          have A54 := Am_ A540
          clear A540
          replace H := Option.bind_eq_some_iff.mp H
          obtain ⟨t563, A550, H⟩ := H
          replace H : (if t557 = (wrap64 ((wrap64 (t563 + x17_45)) - t534)) then ((flagstonelaw09_others.f kj45 t536 t539 t540 l0_0 a0_1 a0_2 a1).bind fun t564 => (if t564 = true then (flagstonelaw09_ContentSizes.j2 kj45 a1 a4 t534 t548 l0_0 a0_1 a0_2 t543 t546 t547) else (none))) else (none)) = some r := H
          have A55 := Am_ A550
          clear A550
          by_cases c56 : t557 = (wrap64 ((wrap64 (t563 + x17_45)) - t534))
          ·rw [if_pos c56] at H
           have c56b0 : (t557 == (wrap64 ((wrap64 (t563 + x17_45)) - t534))) = true := beq_iff_eq.mpr c56
           have c56b1 : (t557 != (wrap64 ((wrap64 (t563 + x17_45)) - t534))) = false := bne_eq_false_iff_eq.mpr c56
           clear c56
           replace H := Option.bind_eq_some_iff.mp H
           obtain ⟨t564, A570, H⟩ := H
           replace H : (if t564 = true then (flagstonelaw09_ContentSizes.j2 kj45 a1 a4 t534 t548 l0_0 a0_1 a0_2 t543 t546 t547) else (none)) = some r := H
           have A57 := Am_ A570
           clear A570
           by_cases c58 : t564 = true
           ·subst c58
            have H1 : (flagstonelaw09_ContentSizes.j2 kj45 a1 a4 t534 t548 l0_0 a0_1 a0_2 t543 t546 t547) = some r := by rw [if_pos rfl] at H; exact H
            clear H
            have H := H1
            clear H1
            have H' := Am_ H
            clear H
            have hnb59 := NB542_525.out
            have hnc59 := NB525_542.out
            have hnb60 := NB542_549.out
            have hnc60 := NB549_542.out
            have hcz61_0 : wc.cell? ⟨gb542, 0, none⟩ = some (.slice Ao34 t536.length co34) := (Bc_ BK542.out 0).trans rfl
            have hcz61_1 : wc.cell? ⟨gb542, 1, none⟩ = some (.int .i64 t539) := (Bc_ BK542.out 1).trans rfl
            have hcz61_2 : wc.cell? ⟨gb542, 2, none⟩ = some (.int .i64 t540) := (Bc_ BK542.out 2).trans rfl
            have hfz61_0 := Bf_ BK542.out 0
            have hfz61_1 := Bf_ BK542.out 1
            have hfz61_2 := Bf_ BK542.out 2
            try go_wp2_with (first | ((with_reducible refine gate_callee (f := 14) rfl ?_); refine goesL_ (some 71) rfl rfl Try.func14 (by kernel_rfl) rfl #[.agg #[.slice Ao34 t536.length co34, .int .i64 t539, .int .i64 t540], .int .i64 a1] rfl (by (try simp only [List.map_toArray, List.map_cons, List.map_nil]); first | done | rfl | (simp only [List.length_drop, List.length_take]; rfl)) ?_; (with_reducible refine (content_Size.calls _ _ t536 t539 t540 a1 t550 t551 _ ?side1 ?side2 A49.out).mono ?_); (case side1 => repeat (first | exact (Vr_ HO_543000.out).2.2 | (with_reducible refine Kd.C_alloc ?_ _) | (with_reducible refine Kd.C_drewN ?_ _) | (with_reducible refine Kd.C_drew ?_))); (case side2 => exact (Vr_ HO_543000.out).2.1); rintro e w62 ⟨rfl, hb⟩; refine ⟨_, rfl, ?_⟩; have n0_ := Am_ (Vb_ (by (with_reducible repeat (first | apply Va_ | apply Vn_ | apply Vd_)); exact HO_543000.out) hb); have n1_ := Am_ (Vb_ (by (with_reducible repeat (first | apply Va_ | apply Vn_ | apply Vd_)); exact HO_550000.out) hb); have n2_ := Am_ (Bb_ (g := gb525) (o := .cells #[.slice A0_0 l0_0.length c0_0, .int .i64 a0_1, .int .i64 a0_2] 24 (0, 0)) (by (with_reducible repeat (first | refine Bn_ ?_ _ | refine Bd_ ?_ | refine Ba_ ?_ _)); exact BK525.out) hb); have n3_ := Am_ (Bb_ (g := gb542) (o := .cells #[.slice Ao34 t536.length co34, .int .i64 t539, .int .i64 t540] 24 (0, 0)) (by (with_reducible repeat (first | refine Bn_ ?_ _ | refine Bd_ ?_ | refine Ba_ ?_ _)); exact BK542.out) hb); have n4_ := Am_ (Bb_ (g := gb549) (o := .cells #[.slice Ao41 t543.length co41, .int .i64 t546, .int .i64 t547] 24 (0, 0)) (by (with_reducible repeat (first | refine Bn_ ?_ _ | refine Bd_ ?_ | refine Ba_ ?_ _)); exact BK549.out) hb); have n5_ := Am_ (Be_ (by repeat (first | (with_reducible first | exact HB.out | apply Pa_ | apply Pn_ | apply Pd_ | refine Bs_ ?_ GE525.out | refine Bs_ ?_ GE542.out | refine Bs_ ?_ GE549.out) | exact HB.out)) hb); clear HO_543000; clear HO_550000; clear BK525; clear BK542; clear BK549; clear HB; have HO_543000 := n0_; have HO_550000 := n1_; have BK525 := n2_; have BK542 := n3_; have BK549 := n4_; have HB := n5_; clear n0_ n1_ n2_ n3_ n4_ n5_; (try clear hb); (try clear hb2); (try clear hk); (try clear hi)))
            have n0_ := Am_ (Vd_ HO_543000.out)
            have n1_ := Am_ (Vd_ HO_550000.out)
            have n2_ := Am_ (Bd_ BK525.out)
            have n3_ := Am_ (Bd_ BK542.out)
            have n4_ := Am_ (Bd_ BK549.out)
            have n5_ := Am_ (Pd_ HB.out)
            clear HO_543000
            clear HO_550000
            clear BK525
            clear BK542
            clear BK549
            clear HB
            have HO_543000 := n0_
            have HO_550000 := n1_
            have BK525 := n2_
            have BK542 := n3_
            have BK549 := n4_
            have HB := n5_
            clear n0_ n1_ n2_ n3_ n4_ n5_
            refine start_ (n := 27) (S := fun w' => w'.cell? ⟨gb542, 0, none⟩ = some (.slice Ao34 t536.length co34) ∧ w'.cell? ⟨gb542, 1, none⟩ = some (.int .i64 t539) ∧ w'.cell? ⟨gb542, 2, none⟩ = some (.int .i64 t540) ∧ w'.cell? ⟨gb525, 0, none⟩ = some (.slice A0_0 l0_0.length c0_0) ∧ w'.cell? ⟨gb525, 1, none⟩ = some (.int .i64 a0_1) ∧ w'.cell? ⟨gb525, 2, none⟩ = some (.int .i64 a0_2)) (ds := []) #[f_,f_,f_,f_,f_,f_,f_,f_,f_,f_,f_,f_,f_,f_,f_,f_,f_,f_,f_,f_,f_,f_,f_,f_,f_,f_,f_] (by kernel_rfl) rfl rfl ⟨(Bc_ BK542.out 0).trans rfl, (Bc_ BK542.out 1).trans rfl, (Bc_ BK542.out 2).trans rfl, (Bc_ BK525.out 0).trans rfl, (Bc_ BK525.out 1).trans rfl, (Bc_ BK525.out 2).trans rfl⟩ (fun hHeld => ?_); refine with_tabW flagstonelaw09_ContentSizes.tab11 flagstonelaw09_ContentSizes.bits11 (fun HT_ HW_ => ?_)
            generalize w62.drew = w63 at HO_543000 HO_550000 BK525 BK542 BK549 HB hHeld ⊢
            refine pure_ (i := 0) (N := some 74) (v := ?_) (a' := ?_) #[t_,f_,f_,f_,f_,f_,f_,f_,f_,f_,f_,f_,f_,f_,f_,f_,f_,f_,f_,f_,f_,f_,f_,f_,f_,f_,f_] rfl rfl (any_of HT_.out (by kernel_rfl)) (fun _ _ _ h => h) (Or.inl ⟨by rfl, ?_⟩) ?_ ?_
            rotate_left
            ·intro w'
             go_simp
             with_reducible rfl
            rotate_left
            ·simp only [Act.put, La_, Lb_, Lc_, i64_w, i32_w]
             rfl
            refine pure_ (i := 1) (N := some 75) (v := ?_) (a' := ?_) #[t_,t_,f_,f_,f_,f_,f_,f_,f_,f_,f_,f_,f_,f_,f_,f_,f_,f_,f_,f_,f_,f_,f_,f_,f_,f_,f_] rfl rfl (any_of HT_.out (by kernel_rfl)) (fun _ _ _ h => h) (Or.inl ⟨by rfl, ?_⟩) ?_ ?_
            rotate_left
            ·intro w'
             go_simp
             with_reducible rfl
            rotate_left
            ·simp only [Act.put, La_, Lb_, Lc_, i64_w, i32_w]
             rfl
            refine pure_ (i := 2) (N := some 76) (v := ?_) (a' := ?_) #[t_,t_,t_,f_,f_,f_,f_,f_,f_,f_,f_,f_,f_,f_,f_,f_,f_,f_,f_,f_,f_,f_,f_,f_,f_,f_,f_] rfl rfl (any_of HT_.out (by kernel_rfl)) (fun _ _ _ h => h) (Or.inl ⟨by rfl, ?_⟩) ?_ ?_
            rotate_left
            ·intro w'
             go_simp
             with_reducible rfl
            rotate_left
            ·simp only [Act.put, La_, Lb_, Lc_, i64_w, i32_w]
             rfl
            refine pure_ (i := 3) (N := some 77) (v := ?_) (a' := ?_) #[t_,t_,t_,t_,f_,f_,f_,f_,f_,f_,f_,f_,f_,f_,f_,f_,f_,f_,f_,f_,f_,f_,f_,f_,f_,f_,f_] rfl rfl (any_of HT_.out (by kernel_rfl)) (fun _ _ _ h => h) (Or.inl ⟨by rfl, ?_⟩) ?_ ?_
            rotate_left
            ·intro w'
             go_simp
             with_reducible rfl
            rotate_left
            ·simp only [Act.put, La_, Lb_, Lc_, i64_w, i32_w]
             rfl
            refine pure_ (i := 4) (N := some 78) (v := ?_) (a' := ?_) #[t_,t_,t_,t_,t_,f_,f_,f_,f_,f_,f_,f_,f_,f_,f_,f_,f_,f_,f_,f_,f_,f_,f_,f_,f_,f_,f_] rfl rfl (any_of HT_.out (by kernel_rfl)) (fun _ _ _ h => h) (Or.inl ⟨by rfl, ?_⟩) ?_ ?_
            rotate_left
            ·intro w'
             go_simp
             with_reducible rfl
            rotate_left
            ·simp only [Act.put, La_, Lb_, Lc_, i64_w, i32_w]
             rfl
            refine pure_ (i := 5) (N := some 79) (v := ?_) (a' := ?_) #[t_,t_,t_,t_,t_,t_,f_,f_,f_,f_,f_,f_,f_,f_,f_,f_,f_,f_,f_,f_,f_,f_,f_,f_,f_,f_,f_] rfl rfl (any_of HT_.out (by kernel_rfl)) (fun _ _ _ h => h) (Or.inl ⟨by rfl, ?_⟩) ?_ ?_
            rotate_left
            ·intro w'
             go_simp
             with_reducible rfl
            rotate_left
            ·simp only [Act.put, La_, Lb_, Lc_, i64_w, i32_w]
             rfl
            refine pure_ (i := 6) (N := some 80) (v := ?_) (a' := ?_) #[t_,t_,t_,t_,t_,t_,t_,f_,f_,f_,f_,f_,f_,f_,f_,f_,f_,f_,f_,f_,f_,f_,f_,f_,f_,f_,f_] rfl rfl (any_of HT_.out (by kernel_rfl)) (fun _ _ _ h => h) (Or.inl ⟨by rfl, ?_⟩) ?_ ?_
            rotate_left
            ·intro w'
             go_simp
             with_reducible rfl
            rotate_left
            ·simp only [Act.put, La_, Lb_, Lc_, i64_w, i32_w]
             rfl
            refine pure_ (i := 7) (N := some 81) (v := ?_) (a' := ?_) #[t_,t_,t_,t_,t_,t_,t_,t_,f_,f_,f_,f_,f_,f_,f_,f_,f_,f_,f_,f_,f_,f_,f_,f_,f_,f_,f_] rfl rfl (any_of HT_.out (by kernel_rfl)) (fun _ _ _ h => h) (Or.inl ⟨by rfl, ?_⟩) ?_ ?_
            rotate_left
            ·intro w'
             go_simp
             with_reducible rfl
            rotate_left
            ·simp only [Act.put, La_, Lb_, Lc_, i64_w, i32_w]
             rfl
            refine pure_ (i := 14) (N := some 88) (v := ?_) (a' := ?_) #[t_,t_,t_,t_,t_,t_,t_,t_,f_,f_,f_,f_,f_,f_,t_,f_,f_,f_,f_,f_,f_,f_,f_,f_,f_,f_,f_] rfl rfl (any_of HT_.out (by kernel_rfl)) (fun _ _ _ h => h) (Or.inl ⟨by rfl, ?_⟩) ?_ ?_
            rotate_left
            ·intro w'
             go_simp
             with_reducible rfl
            rotate_left
            ·simp only [Act.put, La_, Lb_, Lc_, i64_w, i32_w]
             rfl
            refine pure_ (i := 16) (N := some 90) (v := ?_) (a' := ?_) #[t_,t_,t_,t_,t_,t_,t_,t_,f_,f_,f_,f_,f_,f_,t_,f_,t_,f_,f_,f_,f_,f_,f_,f_,f_,f_,f_] rfl rfl (any_of HT_.out (by kernel_rfl)) (fun _ _ _ h => h) (Or.inl ⟨by rfl, ?_⟩) ?_ ?_
            rotate_left
            ·intro w'
             go_simp
             with_reducible rfl
            rotate_left
            ·simp only [Act.put, La_, Lb_, Lc_, i64_w, i32_w]
             rfl
            refine take_ (i := 8) (N := some 82) (v := ?_) (a' := ?_) #[t_,t_,t_,t_,t_,t_,t_,t_,t_,f_,f_,f_,f_,f_,t_,f_,t_,f_,f_,f_,f_,f_,f_,f_,f_,f_,f_] rfl rfl (take_ofW HT_.out HW_.out (by kernel_rfl)) (fun _ _ _ h => h) (Or.inl ⟨by rfl, ?_⟩) hHeld ?_ ?_
            rotate_left
            ·rintro w' ⟨s0, s1, s2, s3, s4, s5⟩
             go_simp
             with_reducible rfl
            rotate_left
            ·simp only [Act.put, La_, Lb_, Lc_, i64_w, i32_w]
             rfl
            refine take_ (i := 11) (N := some 85) (v := ?_) (a' := ?_) #[t_,t_,t_,t_,t_,t_,t_,t_,t_,f_,f_,t_,f_,f_,t_,f_,t_,f_,f_,f_,f_,f_,f_,f_,f_,f_,f_] rfl rfl (take_ofW HT_.out HW_.out (by kernel_rfl)) (fun _ _ _ h => h) (Or.inl ⟨by rfl, ?_⟩) hHeld ?_ ?_
            rotate_left
            ·rintro w' ⟨s0, s1, s2, s3, s4, s5⟩
             go_simp
             with_reducible rfl
            rotate_left
            ·simp only [Act.put, La_, Lb_, Lc_, i64_w, i32_w]
             rfl
            refine one_ (i := 9) (N := some 83) #[t_,t_,t_,t_,t_,t_,t_,t_,t_,t_,f_,t_,f_,f_,t_,f_,t_,f_,f_,f_,f_,f_,f_,f_,f_,f_,f_] rfl rfl (one_of HT_.out (by kernel_rfl)) (by decide) (fun K hK => ?_)
            refine goes_ Try.func13 (by kernel_rfl) rfl #[.agg #[.slice Ao34 t536.length co34, .int .i64 t539, .int .i64 t540]] (by rfl) rfl rfl (by (try simp only [List.map_toArray, List.map_cons, List.map_nil]); first | done | rfl | (simp only [List.length_drop, List.length_take]; rfl)) ?_
            with_reducible refine (flagstonelaw09_its.calls kj45 _ _ t536 t539 t540 t552 t555 t556 _ ?side1 ?side2 A52.out).mono ?_
            (case side1 => repeat (first | exact (Vr_ HO_543000.out).2.2 | (with_reducible refine Kd.C_alloc ?_ _) | (with_reducible refine Kd.C_drewN ?_ _) | (with_reducible refine Kd.C_drew ?_)))
            (case side2 => exact (Vr_ HO_543000.out).2.1)
            rintro e w64 ⟨v553, rfl, ho0, hb⟩
            refine ⟨_, rfl, ?_⟩
            have n0_ := Am_ (Kd.V_elder' (by (with_reducible repeat (first | apply Va_ | apply Vn_ | apply Vd_)); exact HO_543000.out) (Kd.S_base ho0) hb)
            have n1_ := Am_ (Kd.V_elder' (by (with_reducible repeat (first | apply Va_ | apply Vn_ | apply Vd_)); exact HO_550000.out) (Kd.S_base ho0) hb)
            have n2_ := Am_ (Kd.S_lower ho0 (Bz_ (by repeat (first | (with_reducible first | exact HB.out | apply Pa_ | apply Pn_ | apply Pd_ | refine Bs_ ?_ GE525.out | refine Bs_ ?_ GE542.out | refine Bs_ ?_ GE549.out) | exact HB.out))))
            have n3_ := Am_ (Bb_ (g := gb525) (o := .cells #[.slice A0_0 l0_0.length c0_0, .int .i64 a0_1, .int .i64 a0_2] 24 (0, 0)) (by (with_reducible repeat (first | refine Bn_ ?_ _ | refine Bd_ ?_ | refine Ba_ ?_ _)); exact BK525.out) hb)
            have n4_ := Am_ (Bb_ (g := gb542) (o := .cells #[.slice Ao34 t536.length co34, .int .i64 t539, .int .i64 t540] 24 (0, 0)) (by (with_reducible repeat (first | refine Bn_ ?_ _ | refine Bd_ ?_ | refine Ba_ ?_ _)); exact BK542.out) hb)
            have n5_ := Am_ (Bb_ (g := gb549) (o := .cells #[.slice Ao41 t543.length co41, .int .i64 t546, .int .i64 t547] 24 (0, 0)) (by (with_reducible repeat (first | refine Bn_ ?_ _ | refine Bd_ ?_ | refine Ba_ ?_ _)); exact BK549.out) hb)
            have n6_ := Am_ (Be_ (by repeat (first | (with_reducible first | exact HB.out | apply Pa_ | apply Pn_ | apply Pd_ | refine Bs_ ?_ GE525.out | refine Bs_ ?_ GE542.out | refine Bs_ ?_ GE549.out) | exact HB.out)) hb)
            clear HO_543000
            clear HO_550000
            clear BK525
            clear BK542
            clear BK549
            clear HB
            have HO_543000 := n0_
            have HO_550000 := n1_
            have HO554 := n2_
            have BK525 := n3_
            have BK542 := n4_
            have BK549 := n5_
            have HB := n6_
            clear n0_ n1_ n2_ n3_ n4_ n5_ n6_
            (try clear hb)
            (try clear hb2)
            (try clear hk)
            (try clear hi)
            (try clear ho0)
            obtain ⟨Ao65, co65, eo65⟩ := Kd.S_slice HO554.out
            (first | subst eo65 | (injection eo65 with f1_ f2_ f3_; have f4_ := f1_.symm; have f5_ := f3_.symm; clear f1_ f2_ f3_; subst f4_; subst f5_))
            refine hK.out _ _ ⟨(Bc_ BK542.out 0).trans rfl, (Bc_ BK542.out 1).trans rfl, (Bc_ BK542.out 2).trans rfl, (Bc_ BK525.out 0).trans rfl, (Bc_ BK525.out 1).trans rfl, (Bc_ BK525.out 2).trans rfl⟩ (fun hHeld => ?_)
            clear hK K
            refine norm_ (a' := ?_) ?_ ?_
            rotate_left
            ·show Act.put _ (some 83) _ = _
             simp only [Act.put, La_, Lb_, Lc_, i64_w, i32_w]
             rfl
            refine one_ (i := 10) (N := some 84) #[t_,t_,t_,t_,t_,t_,t_,t_,t_,t_,t_,t_,f_,f_,t_,f_,t_,f_,f_,f_,f_,f_,f_,f_,f_,f_,f_] rfl rfl (one_of HT_.out (by kernel_rfl)) (by decide) (fun K hK => ?_)
            refine goes_ Try.func21 (by kernel_rfl) rfl #[.agg #[.slice Ao65 t552.length co65, .int .i64 t555, .int .i64 t556]] (by rfl) rfl rfl (by (try simp only [List.map_toArray, List.map_cons, List.map_nil]); first | done | rfl | (simp only [List.length_drop, List.length_take]; rfl)) ?_
            with_reducible refine (flagstoneref06_Bytes.calls kj45 _ _ t552 t555 t556 t557 _ ?side1 ?side2 A53.out).mono ?_
            (case side1 => repeat (first | exact (Kd.S_reads' HO554.out).2.2 | (with_reducible refine Kd.C_alloc ?_ _) | (with_reducible refine Kd.C_drewN ?_ _) | (with_reducible refine Kd.C_drew ?_)))
            (case side2 => exact (Kd.S_reads' HO554.out).2.1)
            rintro e w66 ⟨rfl, hb⟩
            refine ⟨_, rfl, ?_⟩
            have n0_ := Am_ (Vb_ (by (with_reducible repeat (first | apply Va_ | apply Vn_ | apply Vd_)); exact HO_543000.out) hb)
            have n1_ := Am_ (Vb_ (by (with_reducible repeat (first | apply Va_ | apply Vn_ | apply Vd_)); exact HO_550000.out) hb)
            have n2_ := Am_ (Kd.S_below (by (with_reducible repeat (first | apply Kd.S_alloc | apply Kd.S_drewN | apply Kd.S_drew)); exact HO554.out) hb)
            have n3_ := Am_ (Bb_ (g := gb525) (o := .cells #[.slice A0_0 l0_0.length c0_0, .int .i64 a0_1, .int .i64 a0_2] 24 (0, 0)) (by (with_reducible repeat (first | refine Bn_ ?_ _ | refine Bd_ ?_ | refine Ba_ ?_ _)); exact BK525.out) hb)
            have n4_ := Am_ (Bb_ (g := gb542) (o := .cells #[.slice Ao34 t536.length co34, .int .i64 t539, .int .i64 t540] 24 (0, 0)) (by (with_reducible repeat (first | refine Bn_ ?_ _ | refine Bd_ ?_ | refine Ba_ ?_ _)); exact BK542.out) hb)
            have n5_ := Am_ (Bb_ (g := gb549) (o := .cells #[.slice Ao41 t543.length co41, .int .i64 t546, .int .i64 t547] 24 (0, 0)) (by (with_reducible repeat (first | refine Bn_ ?_ _ | refine Bd_ ?_ | refine Ba_ ?_ _)); exact BK549.out) hb)
            have n6_ := Am_ (Be_ (by repeat (first | (with_reducible first | exact HB.out | apply Pa_ | apply Pn_ | apply Pd_ | refine Bs_ ?_ GE525.out | refine Bs_ ?_ GE542.out | refine Bs_ ?_ GE549.out) | exact HB.out)) hb)
            clear HO_543000
            clear HO_550000
            clear HO554
            clear BK525
            clear BK542
            clear BK549
            clear HB
            have HO_543000 := n0_
            have HO_550000 := n1_
            have HO554 := n2_
            have BK525 := n3_
            have BK542 := n4_
            have BK549 := n5_
            have HB := n6_
            clear n0_ n1_ n2_ n3_ n4_ n5_ n6_
            (try clear hb)
            (try clear hb2)
            (try clear hk)
            (try clear hi)
            refine hK.out _ _ ⟨(Bc_ BK542.out 0).trans rfl, (Bc_ BK542.out 1).trans rfl, (Bc_ BK542.out 2).trans rfl, (Bc_ BK525.out 0).trans rfl, (Bc_ BK525.out 1).trans rfl, (Bc_ BK525.out 2).trans rfl⟩ (fun hHeld => ?_)
            clear hK K
            refine norm_ (a' := ?_) ?_ ?_
            rotate_left
            ·show Act.put _ (some 84) _ = _
             simp only [Act.put, La_, Lb_, Lc_, i64_w, i32_w]
             rfl
            refine one_ (i := 12) (N := some 86) #[t_,t_,t_,t_,t_,t_,t_,t_,t_,t_,t_,t_,t_,f_,t_,f_,t_,f_,f_,f_,f_,f_,f_,f_,f_,f_,f_] rfl rfl (one_of HT_.out (by kernel_rfl)) (by decide) (fun K hK => ?_)
            refine goes_ Try.func13 (by kernel_rfl) rfl #[.agg #[.slice A0_0 l0_0.length c0_0, .int .i64 a0_1, .int .i64 a0_2]] (by rfl) rfl rfl (by (try simp only [List.map_toArray, List.map_cons, List.map_nil]); first | done | rfl | (simp only [List.length_drop, List.length_take]; rfl)) ?_
            with_reducible refine (flagstonelaw09_its.calls kj45 _ _ l0_0 a0_1 a0_2 t558 t561 t562 _ ?side1 ?side2 A54.out).mono ?_
            (case side1 => repeat (first | exact (Kd.C_below HR0_0.out HB.out) | (with_reducible refine Kd.C_alloc ?_ _) | (with_reducible refine Kd.C_drewN ?_ _) | (with_reducible refine Kd.C_drew ?_)))
            (case side2 => exact HC0_0.out)
            rintro e w67 ⟨v559, rfl, ho0, hb⟩
            refine ⟨_, rfl, ?_⟩
            have n0_ := Am_ (Kd.V_elder' (by (with_reducible repeat (first | apply Va_ | apply Vn_ | apply Vd_)); exact HO_543000.out) (Kd.S_base ho0) hb)
            have n1_ := Am_ (Kd.V_elder' (by (with_reducible repeat (first | apply Va_ | apply Vn_ | apply Vd_)); exact HO_550000.out) (Kd.S_base ho0) hb)
            have n2_ := Am_ (Kd.S_elder' (by (with_reducible repeat (first | apply Kd.S_alloc | apply Kd.S_drewN | apply Kd.S_drew)); exact HO554.out) (Kd.S_base ho0) hb)
            have n3_ := Am_ (Kd.S_lower (Kd.S_new' ho0 (Kd.S_lt (by (with_reducible repeat (first | apply Kd.S_alloc | apply Kd.S_drewN | apply Kd.S_drew)); exact HO554.out))) (Bz_ (by repeat (first | (with_reducible first | exact HB.out | apply Pa_ | apply Pn_ | apply Pd_ | refine Bs_ ?_ GE525.out | refine Bs_ ?_ GE542.out | refine Bs_ ?_ GE549.out) | exact HB.out))))
            have n4_ := Am_ (Bb_ (g := gb525) (o := .cells #[.slice A0_0 l0_0.length c0_0, .int .i64 a0_1, .int .i64 a0_2] 24 (0, 0)) (by (with_reducible repeat (first | refine Bn_ ?_ _ | refine Bd_ ?_ | refine Ba_ ?_ _)); exact BK525.out) hb)
            have n5_ := Am_ (Bb_ (g := gb542) (o := .cells #[.slice Ao34 t536.length co34, .int .i64 t539, .int .i64 t540] 24 (0, 0)) (by (with_reducible repeat (first | refine Bn_ ?_ _ | refine Bd_ ?_ | refine Ba_ ?_ _)); exact BK542.out) hb)
            have n6_ := Am_ (Bb_ (g := gb549) (o := .cells #[.slice Ao41 t543.length co41, .int .i64 t546, .int .i64 t547] 24 (0, 0)) (by (with_reducible repeat (first | refine Bn_ ?_ _ | refine Bd_ ?_ | refine Ba_ ?_ _)); exact BK549.out) hb)
            have n7_ := Am_ (Be_ (by repeat (first | (with_reducible first | exact HB.out | apply Pa_ | apply Pn_ | apply Pd_ | refine Bs_ ?_ GE525.out | refine Bs_ ?_ GE542.out | refine Bs_ ?_ GE549.out) | exact HB.out)) hb)
            clear HO_543000
            clear HO_550000
            clear HO554
            clear BK525
            clear BK542
            clear BK549
            clear HB
            have HO_543000 := n0_
            have HO_550000 := n1_
            have HO554 := n2_
            have HO560 := n3_
            have BK525 := n4_
            have BK542 := n5_
            have BK549 := n6_
            have HB := n7_
            clear n0_ n1_ n2_ n3_ n4_ n5_ n6_ n7_
            (try clear hb)
            (try clear hb2)
            (try clear hk)
            (try clear hi)
            (try clear ho0)
            obtain ⟨Ao68, co68, eo68⟩ := Kd.S_slice HO560.out
            (first | subst eo68 | (injection eo68 with f1_ f2_ f3_; have f4_ := f1_.symm; have f5_ := f3_.symm; clear f1_ f2_ f3_; subst f4_; subst f5_))
            refine hK.out _ _ ⟨(Bc_ BK542.out 0).trans rfl, (Bc_ BK542.out 1).trans rfl, (Bc_ BK542.out 2).trans rfl, (Bc_ BK525.out 0).trans rfl, (Bc_ BK525.out 1).trans rfl, (Bc_ BK525.out 2).trans rfl⟩ (fun hHeld => ?_)
            clear hK K
            refine norm_ (a' := ?_) ?_ ?_
            rotate_left
            ·show Act.put _ (some 86) _ = _
             simp only [Act.put, La_, Lb_, Lc_, i64_w, i32_w]
             rfl
            refine one_ (i := 13) (N := some 87) #[t_,t_,t_,t_,t_,t_,t_,t_,t_,t_,t_,t_,t_,t_,t_,f_,t_,f_,f_,f_,f_,f_,f_,f_,f_,f_,f_] rfl rfl (one_of HT_.out (by kernel_rfl)) (by decide) (fun K hK => ?_)
            refine goes_ Try.func21 (by kernel_rfl) rfl #[.agg #[.slice Ao68 t558.length co68, .int .i64 t561, .int .i64 t562]] (by rfl) rfl rfl (by (try simp only [List.map_toArray, List.map_cons, List.map_nil]); first | done | rfl | (simp only [List.length_drop, List.length_take]; rfl)) ?_
            with_reducible refine (flagstoneref06_Bytes.calls kj45 _ _ t558 t561 t562 t563 _ ?side1 ?side2 A55.out).mono ?_
            (case side1 => repeat (first | exact (Kd.S_reads' HO560.out).2.2 | (with_reducible refine Kd.C_alloc ?_ _) | (with_reducible refine Kd.C_drewN ?_ _) | (with_reducible refine Kd.C_drew ?_)))
            (case side2 => exact (Kd.S_reads' HO560.out).2.1)
            rintro e w69 ⟨rfl, hb⟩
            refine ⟨_, rfl, ?_⟩
            have n0_ := Am_ (Vb_ (by (with_reducible repeat (first | apply Va_ | apply Vn_ | apply Vd_)); exact HO_543000.out) hb)
            have n1_ := Am_ (Vb_ (by (with_reducible repeat (first | apply Va_ | apply Vn_ | apply Vd_)); exact HO_550000.out) hb)
            have n2_ := Am_ (Kd.S_below (by (with_reducible repeat (first | apply Kd.S_alloc | apply Kd.S_drewN | apply Kd.S_drew)); exact HO554.out) hb)
            have n3_ := Am_ (Kd.S_below (by (with_reducible repeat (first | apply Kd.S_alloc | apply Kd.S_drewN | apply Kd.S_drew)); exact HO560.out) hb)
            have n4_ := Am_ (Bb_ (g := gb525) (o := .cells #[.slice A0_0 l0_0.length c0_0, .int .i64 a0_1, .int .i64 a0_2] 24 (0, 0)) (by (with_reducible repeat (first | refine Bn_ ?_ _ | refine Bd_ ?_ | refine Ba_ ?_ _)); exact BK525.out) hb)
            have n5_ := Am_ (Bb_ (g := gb542) (o := .cells #[.slice Ao34 t536.length co34, .int .i64 t539, .int .i64 t540] 24 (0, 0)) (by (with_reducible repeat (first | refine Bn_ ?_ _ | refine Bd_ ?_ | refine Ba_ ?_ _)); exact BK542.out) hb)
            have n6_ := Am_ (Bb_ (g := gb549) (o := .cells #[.slice Ao41 t543.length co41, .int .i64 t546, .int .i64 t547] 24 (0, 0)) (by (with_reducible repeat (first | refine Bn_ ?_ _ | refine Bd_ ?_ | refine Ba_ ?_ _)); exact BK549.out) hb)
            have n7_ := Am_ (Be_ (by repeat (first | (with_reducible first | exact HB.out | apply Pa_ | apply Pn_ | apply Pd_ | refine Bs_ ?_ GE525.out | refine Bs_ ?_ GE542.out | refine Bs_ ?_ GE549.out) | exact HB.out)) hb)
            clear HO_543000
            clear HO_550000
            clear HO554
            clear HO560
            clear BK525
            clear BK542
            clear BK549
            clear HB
            have HO_543000 := n0_
            have HO_550000 := n1_
            have HO554 := n2_
            have HO560 := n3_
            have BK525 := n4_
            have BK542 := n5_
            have BK549 := n6_
            have HB := n7_
            clear n0_ n1_ n2_ n3_ n4_ n5_ n6_ n7_
            (try clear hb)
            (try clear hb2)
            (try clear hk)
            (try clear hi)
            refine hK.out _ _ ⟨(Bc_ BK542.out 0).trans rfl, (Bc_ BK542.out 1).trans rfl, (Bc_ BK542.out 2).trans rfl, (Bc_ BK525.out 0).trans rfl, (Bc_ BK525.out 1).trans rfl, (Bc_ BK525.out 2).trans rfl⟩ (fun hHeld => ?_)
            clear hK K
            refine norm_ (a' := ?_) ?_ ?_
            rotate_left
            ·show Act.put _ (some 87) _ = _
             simp only [Act.put, La_, Lb_, Lc_, i64_w, i32_w]
             rfl
            refine pure_ (i := 15) (N := some 89) (v := ?_) (a' := ?_) #[t_,t_,t_,t_,t_,t_,t_,t_,t_,t_,t_,t_,t_,t_,t_,t_,t_,f_,f_,f_,f_,f_,f_,f_,f_,f_,f_] rfl rfl (any_of HT_.out (by kernel_rfl)) (fun _ _ _ h => h) (Or.inl ⟨by rfl, ?_⟩) ?_ ?_
            rotate_left
            ·intro w'
             go_simp
             with_reducible rfl
            rotate_left
            ·simp only [Act.put, La_, Lb_, Lc_, i64_w, i32_w]
             rfl
            refine pure_ (i := 17) (N := some 91) (v := ?_) (a' := ?_) #[t_,t_,t_,t_,t_,t_,t_,t_,t_,t_,t_,t_,t_,t_,t_,t_,t_,t_,f_,f_,f_,f_,f_,f_,f_,f_,f_] rfl rfl (any_of HT_.out (by kernel_rfl)) (fun _ _ _ h => h) (Or.inl ⟨by rfl, ?_⟩) ?_ ?_
            rotate_left
            ·intro w'
             go_simp
             with_reducible rfl
            rotate_left
            ·simp only [Act.put, La_, Lb_, Lc_, i64_w, i32_w]
             rfl
            refine pure_ (i := 18) (N := some 92) (v := ?_) (a' := ?_) #[t_,t_,t_,t_,t_,t_,t_,t_,t_,t_,t_,t_,t_,t_,t_,t_,t_,t_,t_,f_,f_,f_,f_,f_,f_,f_,f_] rfl rfl (any_of HT_.out (by kernel_rfl)) (fun _ _ _ h => h) (Or.inl ⟨by rfl, ?_⟩) ?_ ?_
            rotate_left
            ·intro w'
             go_simp
             with_reducible rfl
            rotate_left
            ·simp only [Act.put, La_, Lb_, Lc_, i64_w, i32_w]
             rfl
            refine pure_ (i := 19) (N := some 93) (v := ?_) (a' := ?_) #[t_,t_,t_,t_,t_,t_,t_,t_,t_,t_,t_,t_,t_,t_,t_,t_,t_,t_,t_,t_,f_,f_,f_,f_,f_,f_,f_] rfl rfl (any_of HT_.out (by kernel_rfl)) (fun _ _ _ h => h) (Or.inl ⟨by rfl, ?_⟩) ?_ ?_
            rotate_left
            ·intro w'
             go_simp
             with_reducible rfl
            rotate_left
            ·simp only [Act.put, La_, Lb_, Lc_, i64_w, i32_w]
             rfl
            refine pure_ (i := 20) (N := some 94) (v := ?_) (a' := ?_) #[t_,t_,t_,t_,t_,t_,t_,t_,t_,t_,t_,t_,t_,t_,t_,t_,t_,t_,t_,t_,t_,f_,f_,f_,f_,f_,f_] rfl rfl (any_of HT_.out (by kernel_rfl)) (fun _ _ _ h => h) (Or.inl ⟨by rfl, ?_⟩) ?_ ?_
            rotate_left
            ·intro w'
             go_simp
             with_reducible rfl
            rotate_left
            ·simp only [Act.put, La_, Lb_, Lc_, i64_w, i32_w]
             rfl
            refine pure_ (i := 23) (N := some 97) (v := ?_) (a' := ?_) #[t_,t_,t_,t_,t_,t_,t_,t_,t_,t_,t_,t_,t_,t_,t_,t_,t_,t_,t_,t_,t_,f_,f_,t_,f_,f_,f_] rfl rfl (any_of HT_.out (by kernel_rfl)) (fun _ _ _ h => h) (Or.inl ⟨by rfl, ?_⟩) ?_ ?_
            rotate_left
            ·intro w'
             go_simp
             with_reducible rfl
            rotate_left
            ·simp only [Act.put, La_, Lb_, Lc_, i64_w, i32_w]
             rfl
            refine take_ (i := 21) (N := some 95) (v := ?_) (a' := ?_) #[t_,t_,t_,t_,t_,t_,t_,t_,t_,t_,t_,t_,t_,t_,t_,t_,t_,t_,t_,t_,t_,t_,f_,t_,f_,f_,f_] rfl rfl (take_ofW HT_.out HW_.out (by kernel_rfl)) (fun _ _ _ h => h) (Or.inl ⟨by rfl, ?_⟩) hHeld ?_ ?_
            rotate_left
            ·rintro w' ⟨s0, s1, s2, s3, s4, s5⟩
             go_simp
             with_reducible rfl
            rotate_left
            ·simp only [Act.put, La_, Lb_, Lc_, i64_w, i32_w]
             rfl
            refine take_ (i := 22) (N := some 96) (v := ?_) (a' := ?_) #[t_,t_,t_,t_,t_,t_,t_,t_,t_,t_,t_,t_,t_,t_,t_,t_,t_,t_,t_,t_,t_,t_,t_,t_,f_,f_,f_] rfl rfl (take_ofW HT_.out HW_.out (by kernel_rfl)) (fun _ _ _ h => h) (Or.inl ⟨by rfl, ?_⟩) hHeld ?_ ?_
            rotate_left
            ·rintro w' ⟨s0, s1, s2, s3, s4, s5⟩
             go_simp
             with_reducible rfl
            rotate_left
            ·simp only [Act.put, La_, Lb_, Lc_, i64_w, i32_w]
             rfl
            refine one_ (i := 24) (N := some 98) #[t_,t_,t_,t_,t_,t_,t_,t_,t_,t_,t_,t_,t_,t_,t_,t_,t_,t_,t_,t_,t_,t_,t_,t_,t_,f_,f_] rfl rfl (one_of HT_.out (by kernel_rfl)) (by decide) (fun K hK => ?_)
            refine goes_ Try.func22 (by kernel_rfl) rfl #[.agg #[.slice Ao34 t536.length co34, .int .i64 t539, .int .i64 t540], .agg #[.slice A0_0 l0_0.length c0_0, .int .i64 a0_1, .int .i64 a0_2], .int .i64 a1] (by rfl) rfl rfl (by (try simp only [List.map_toArray, List.map_cons, List.map_nil]); first | done | rfl | (simp only [List.length_drop, List.length_take]; rfl)) ?_
            with_reducible refine (flagstonelaw09_others.calls kj45 _ _ t536 t539 t540 _ _ l0_0 a0_1 a0_2 a1 true _ ?side1 ?side2 ?side3 ?side4 A57.out).mono ?_
            (case side1 => repeat (first | exact (Vr_ HO_543000.out).2.2 | (with_reducible refine Kd.C_alloc ?_ _) | (with_reducible refine Kd.C_drewN ?_ _) | (with_reducible refine Kd.C_drew ?_)))
            (case side2 => exact (Vr_ HO_543000.out).2.1)
            (case side3 => repeat (first | exact (Kd.C_below HR0_0.out HB.out) | (with_reducible refine Kd.C_alloc ?_ _) | (with_reducible refine Kd.C_drewN ?_ _) | (with_reducible refine Kd.C_drew ?_)))
            (case side4 => exact HC0_0.out)
            rintro e w70 ⟨rfl, hb⟩
            refine ⟨_, rfl, ?_⟩
            have n0_ := Am_ (Vb_ (by (with_reducible repeat (first | apply Va_ | apply Vn_ | apply Vd_)); exact HO_543000.out) hb)
            have n1_ := Am_ (Vb_ (by (with_reducible repeat (first | apply Va_ | apply Vn_ | apply Vd_)); exact HO_550000.out) hb)
            have n2_ := Am_ (Kd.S_below (by (with_reducible repeat (first | apply Kd.S_alloc | apply Kd.S_drewN | apply Kd.S_drew)); exact HO554.out) hb)
            have n3_ := Am_ (Kd.S_below (by (with_reducible repeat (first | apply Kd.S_alloc | apply Kd.S_drewN | apply Kd.S_drew)); exact HO560.out) hb)
            have n4_ := Am_ (Bb_ (g := gb525) (o := .cells #[.slice A0_0 l0_0.length c0_0, .int .i64 a0_1, .int .i64 a0_2] 24 (0, 0)) (by (with_reducible repeat (first | refine Bn_ ?_ _ | refine Bd_ ?_ | refine Ba_ ?_ _)); exact BK525.out) hb)
            have n5_ := Am_ (Bb_ (g := gb542) (o := .cells #[.slice Ao34 t536.length co34, .int .i64 t539, .int .i64 t540] 24 (0, 0)) (by (with_reducible repeat (first | refine Bn_ ?_ _ | refine Bd_ ?_ | refine Ba_ ?_ _)); exact BK542.out) hb)
            have n6_ := Am_ (Bb_ (g := gb549) (o := .cells #[.slice Ao41 t543.length co41, .int .i64 t546, .int .i64 t547] 24 (0, 0)) (by (with_reducible repeat (first | refine Bn_ ?_ _ | refine Bd_ ?_ | refine Ba_ ?_ _)); exact BK549.out) hb)
            have n7_ := Am_ (Be_ (by repeat (first | (with_reducible first | exact HB.out | apply Pa_ | apply Pn_ | apply Pd_ | refine Bs_ ?_ GE525.out | refine Bs_ ?_ GE542.out | refine Bs_ ?_ GE549.out) | exact HB.out)) hb)
            clear HO_543000
            clear HO_550000
            clear HO554
            clear HO560
            clear BK525
            clear BK542
            clear BK549
            clear HB
            have HO_543000 := n0_
            have HO_550000 := n1_
            have HO554 := n2_
            have HO560 := n3_
            have BK525 := n4_
            have BK542 := n5_
            have BK549 := n6_
            have HB := n7_
            clear n0_ n1_ n2_ n3_ n4_ n5_ n6_ n7_
            (try clear hb)
            (try clear hb2)
            (try clear hk)
            (try clear hi)
            refine hK.out _ _ ⟨(Bc_ BK542.out 0).trans rfl, (Bc_ BK542.out 1).trans rfl, (Bc_ BK542.out 2).trans rfl, (Bc_ BK525.out 0).trans rfl, (Bc_ BK525.out 1).trans rfl, (Bc_ BK525.out 2).trans rfl⟩ (fun hHeld => ?_)
            clear hK K
            refine norm_ (a' := ?_) ?_ ?_
            rotate_left
            ·show Act.put _ (some 98) _ = _
             simp only [Act.put, La_, Lb_, Lc_, i64_w, i32_w]
             rfl
            refine pure_ (i := 25) (N := some 99) (v := ?_) (a' := ?_) #[t_,t_,t_,t_,t_,t_,t_,t_,t_,t_,t_,t_,t_,t_,t_,t_,t_,t_,t_,t_,t_,t_,t_,t_,t_,t_,f_] rfl rfl (any_of HT_.out (by kernel_rfl)) (fun _ _ _ h => h) (Or.inl ⟨by rfl, ?_⟩) ?_ ?_
            rotate_left
            ·intro w'
             go_simp
             with_reducible rfl
            rotate_left
            ·simp only [Act.put, La_, Lb_, Lc_, i64_w, i32_w]
             rfl
            refine pure_ (i := 26) (N := some 100) (v := ?_) (a' := ?_) #[t_,t_,t_,t_,t_,t_,t_,t_,t_,t_,t_,t_,t_,t_,t_,t_,t_,t_,t_,t_,t_,t_,t_,t_,t_,t_,t_] rfl rfl (any_of HT_.out (by kernel_rfl)) (fun _ _ _ h => h) (Or.inl ⟨by rfl, ?_⟩) ?_ ?_
            rotate_left
            ·intro w'
             go_simp
             with_reducible rfl
            rotate_left
            ·simp only [Act.put, La_, Lb_, Lc_, i64_w, i32_w]
             rfl
            refine done_ (done_of HT_.out (by kernel_rfl)) ?_
            try go_wp2
            go_meet
            case rel => exact ⟨_, H', ⟨by have := HJ5.out; have := HJ45.out; first | omega | exact Nat.le_refl _⟩, ⟨by (with_reducible repeat (first | apply Va_ | apply Vn_ | apply Vd_)); exact Vm_ HO_543000.out (fun _ hk => ⟨hk.1.1.1, ⟨hk.1.1.2.1, hk.1.1.2.2⟩⟩)⟩, ⟨by (with_reducible repeat (first | apply Va_ | apply Vn_ | apply Vd_)); exact Vm_ HO_550000.out (fun _ hk => ⟨hk.1.1.1, ⟨hk.1.1.2.1, hk.1.1.2.2⟩⟩)⟩, ⟨by (with_reducible repeat (first | refine Bn_ ?_ _ | refine Bd_ ?_ | refine Ba_ ?_ _)); exact BK525.out⟩, ⟨by (with_reducible repeat (first | refine Bn_ ?_ _ | refine Bd_ ?_ | refine Ba_ ?_ _)); exact BK542.out⟩, ⟨by (with_reducible repeat (first | refine Bn_ ?_ _ | refine Bd_ ?_ | refine Ba_ ?_ _)); exact BK549.out⟩, ⟨by repeat (first | (with_reducible first | exact HB.out | apply Pa_ | apply Pn_ | apply Pd_ | refine Bs_ ?_ GE525.out | refine Bs_ ?_ GE542.out | refine Bs_ ?_ GE549.out) | exact HB.out)⟩⟩
           ·replace c58 := Bool.eq_false_iff.mpr c58
            subst c58
            have H1 : (none) = some r := by rw [if_neg (show ¬ (false = true) by decide)] at H; exact H
            clear H
            have H := H1
            clear H1
            exact absurd H (by simp)
          ·rw [if_neg c56] at H
           have c56b0 : (t557 == (wrap64 ((wrap64 (t563 + x17_45)) - t534))) = false := beq_eq_false_iff_ne.mpr c56
           have c56b1 : (t557 != (wrap64 ((wrap64 (t563 + x17_45)) - t534))) = true := bne_iff_ne.mpr c56
           exact absurd H (by simp)
         ·rw [if_neg c51] at H
          have c51b0 : (t550 == x17_45) = false := beq_eq_false_iff_ne.mpr c51
          have c51b1 : (t550 != x17_45) = true := bne_iff_ne.mpr c51
          exact absurd H (by simp)
        ·rw [if_neg c50] at H
         have c50b0 : (t551 == 0) = false := beq_eq_false_iff_ne.mpr c50
         have c50b1 : (t551 != 0) = true := bne_iff_ne.mpr c50
         exact absurd H (by simp)
     ·rw [if_neg c45] at H
      have c45b0 : (t541 == 0) = false := beq_eq_false_iff_ne.mpr c45
      have c45b1 : (t541 != 0) = true := bne_iff_ne.mpr c45
      (first | rw [c45b0] | (simp only [i64_w, i32_w]; rw [c45b0]) | skip)
      have H' := Am_ H
      clear H
      go_wp2
      go_meet
      case rel => exact ⟨_, H', ⟨by have := HJ5.out; first | omega | exact Nat.le_refl _⟩, ⟨by (with_reducible repeat (first | apply Va_ | apply Vn_ | apply Vd_)); exact Vm_ (Vf_ (p := ⟨gb549, 2, none⟩) (Vf_ (p := ⟨gb549, 1, none⟩) (Vf_ (p := ⟨gb549, 0, none⟩) (Vm_ HO538.out (fun k_ hk => (⟨hk, hk.2⟩ : _ ∧ k_ ≠ gb549))) (fun _ hk => hk.2) (.slice Ao41 t543.length co41)) (fun _ hk => hk.2) (.int .i64 t546)) (fun _ hk => hk.2) (.int .i64 t547)) (fun _ hk => ⟨hk.1.1.2.1, ⟨hk.1.1.2.2, hk.1.2⟩⟩)⟩, ⟨by (with_reducible repeat (first | apply Va_ | apply Vn_ | apply Vd_)); exact Vm_ (Vf_ (p := ⟨gb549, 2, none⟩) (Vf_ (p := ⟨gb549, 1, none⟩) (Vf_ (p := ⟨gb549, 0, none⟩) (Vm_ HO545.out (fun k_ hk => (⟨hk, hk.2⟩ : _ ∧ k_ ≠ gb549))) (fun _ hk => hk.2) (.slice Ao41 t543.length co41)) (fun _ hk => hk.2) (.int .i64 t546)) (fun _ hk => hk.2) (.int .i64 t547)) (fun _ hk => ⟨hk.1.1.2.1, ⟨hk.1.1.2.2, hk.1.2⟩⟩)⟩, ⟨by (with_reducible repeat (first | refine Bn_ ?_ _ | refine Bd_ ?_ | refine Ba_ ?_ _)); refine blk_far ?_ NB525_549.out _; (with_reducible repeat (first | refine Bn_ ?_ _ | refine Bd_ ?_ | refine Ba_ ?_ _)); refine blk_far ?_ NB525_549.out _; (with_reducible repeat (first | refine Bn_ ?_ _ | refine Bd_ ?_ | refine Ba_ ?_ _)); refine blk_far ?_ NB525_549.out _; (with_reducible repeat (first | refine Bn_ ?_ _ | refine Bd_ ?_ | refine Ba_ ?_ _)); exact BK525.out⟩, ⟨by (with_reducible repeat (first | refine Bn_ ?_ _ | refine Bd_ ?_ | refine Ba_ ?_ _)); refine blk_far ?_ NB542_549.out _; (with_reducible repeat (first | refine Bn_ ?_ _ | refine Bd_ ?_ | refine Ba_ ?_ _)); refine blk_far ?_ NB542_549.out _; (with_reducible repeat (first | refine Bn_ ?_ _ | refine Bd_ ?_ | refine Ba_ ?_ _)); refine blk_far ?_ NB542_549.out _; (with_reducible repeat (first | refine Bn_ ?_ _ | refine Bd_ ?_ | refine Ba_ ?_ _)); exact BK542.out⟩, ⟨by (with_reducible repeat (first | refine Bn_ ?_ _ | refine Bd_ ?_ | refine Ba_ ?_ _)); refine Bp_ (cs := #[.slice Ao41 t543.length co41, .int .i64 t546, .int .i64 0]) ?_ 2 _ rfl; (with_reducible repeat (first | refine Bn_ ?_ _ | refine Bd_ ?_ | refine Ba_ ?_ _)); refine Bp_ (cs := #[.slice Ao41 t543.length co41, .int .i64 0, .int .i64 0]) ?_ 1 _ rfl; (with_reducible repeat (first | refine Bn_ ?_ _ | refine Bd_ ?_ | refine Ba_ ?_ _)); refine Bp_ (cs := #[.slice none 0 0, .int .i64 0, .int .i64 0]) ?_ 0 _ rfl; (with_reducible repeat (first | refine Bn_ ?_ _ | refine Bd_ ?_ | refine Ba_ ?_ _)); exact BK549.out⟩, ⟨by repeat (first | (with_reducible first | exact HB.out | apply Pa_ | apply Pn_ | apply Pd_ | refine Bs_ ?_ GE525.out | refine Bs_ ?_ GE542.out | refine Bs_ ?_ GE549.out) | exact HB.out)⟩⟩
    case rest =>
     clear HC26
     try clear c1
     try clear c2
     try clear p2
     try clear c3
     try clear c4
     try clear c5
     try clear c6
     try clear p6
     try clear c9
     try clear c10
     try clear c10b0
     try clear c10b1
     try clear c13
     try clear c14
     try clear c15
     try clear c16
     try clear c18
     try clear c19
     try clear c21
     try clear c22
     try clear c35
     try clear c42
     try clear c43
     try clear c45
     try clear c45b0
     try clear c45b1
     try clear c47
     try clear c47b0
     try clear c47b1
     try clear c50
     try clear c50b0
     try clear c50b1
     try clear c51
     try clear c51b0
     try clear c51b1
     try clear c56
     try clear c56b0
     try clear c56b1
     try clear c58
     try clear c59
     try clear c60
     try clear p64
     try clear hcz11_0
     try clear hcz11_1
     try clear hcz11_2
     try clear hcz14_0
     try clear hcz14_1
     try clear hcz14_2
     try clear hcz17_0
     try clear hcz17_1
     try clear hcz17_2
     try clear hcz27_0
     try clear hcz27_1
     try clear hcz27_2
     try clear hcz31_0
     try clear hcz31_1
     try clear hcz31_2
     try clear hcz36_0
     try clear hcz36_1
     try clear hcz36_2
     try clear hcz38_0
     try clear hcz38_1
     try clear hcz38_2
     try clear hcz44_0
     try clear hcz44_1
     try clear hcz44_2
     try clear hcz61_0
     try clear hcz61_1
     try clear hcz61_2
     try clear hfz11_0
     try clear hfz11_1
     try clear hfz11_2
     try clear hfz14_0
     try clear hfz14_1
     try clear hfz14_2
     try clear hfz17_0
     try clear hfz17_1
     try clear hfz17_2
     try clear hfz27_0
     try clear hfz27_1
     try clear hfz27_2
     try clear hfz31_0
     try clear hfz31_1
     try clear hfz31_2
     try clear hfz36_0
     try clear hfz36_1
     try clear hfz36_2
     try clear hfz38_0
     try clear hfz38_1
     try clear hfz38_2
     try clear hfz44_0
     try clear hfz44_1
     try clear hfz44_2
     try clear hfz61_0
     try clear hfz61_1
     try clear hfz61_2
     try clear p2
     try clear p6
     obtain ⟨kq, HA, HJ25, HO_543000, HO_550000, BK525, BK542, BK549, HB⟩ := hcut
     cases kq with
     | zero => exact absurd HA.out (by simp [flagstonelaw09_ContentSizes.j2])
     | succ kj25 =>
      have H := HA.out
      clear HA
      simp only [flagstonelaw09_ContentSizes.j2] at H
      by_cases c71 : t548 = 0
      ·rw [if_pos c71] at H
       have c71b0 : (t548 == 0) = true := beq_iff_eq.mpr c71
       have c71b1 : (t548 != 0) = false := bne_eq_false_iff_eq.mpr c71
       clear c71
       replace H := Option.bind_eq_some_iff.mp H
       obtain ⟨⟨t565, t566⟩, A720, H⟩ := H
       replace H : (if t566 = 0 then (if t565 = a4 then ((flagstonelaw09_its.f kj25 t543 t546 t547).bind fun bt567 => ((flagstoneref06_Bytes.f kj25 bt567.1 bt567.2.1 bt567.2.2).bind fun t572 => ((flagstonelaw09_its.f kj25 l0_0 a0_1 a0_2).bind fun bt573 => ((flagstoneref06_Bytes.f kj25 bt573.1 bt573.2.1 bt573.2.2).bind fun t578 => (if t572 = (wrap64 ((wrap64 (t578 + a4)) - t534)) then ((flagstonelaw09_others.f kj25 t543 t546 t547 l0_0 a0_1 a0_2 a1).bind fun t579 => (if t579 = true then (some true) else (none))) else (none)))))) else (none)) else (none)) = some r := H
       have A72 := Am_ A720
       clear A720
       by_cases c73 : t566 = 0
       ·rw [if_pos c73] at H
        have c73b0 : (t566 == 0) = true := beq_iff_eq.mpr c73
        have c73b1 : (t566 != 0) = false := bne_eq_false_iff_eq.mpr c73
        clear c73
        by_cases c74 : t565 = a4
        ·rw [if_pos c74] at H
         have c74b0 : (t565 == a4) = true := beq_iff_eq.mpr c74
         have c74b1 : (t565 != a4) = false := bne_eq_false_iff_eq.mpr c74
         clear c74
         replace H := Option.bind_eq_some_iff.mp H
         obtain ⟨⟨t567, t570, t571⟩, A750, H⟩ := H
         replace H : ((flagstoneref06_Bytes.f kj25 t567 t570 t571).bind fun t572 => ((flagstonelaw09_its.f kj25 l0_0 a0_1 a0_2).bind fun bt573 => ((flagstoneref06_Bytes.f kj25 bt573.1 bt573.2.1 bt573.2.2).bind fun t578 => (if t572 = (wrap64 ((wrap64 (t578 + a4)) - t534)) then ((flagstonelaw09_others.f kj25 t543 t546 t547 l0_0 a0_1 a0_2 a1).bind fun t579 => (if t579 = true then (some true) else (none))) else (none))))) = some r := H
         have A75 := Am_ A750
         clear A750
         replace H := Option.bind_eq_some_iff.mp H
         obtain ⟨t572, A760, H⟩ := H
         replace H : ((flagstonelaw09_its.f kj25 l0_0 a0_1 a0_2).bind fun bt573 => ((flagstoneref06_Bytes.f kj25 bt573.1 bt573.2.1 bt573.2.2).bind fun t578 => (if t572 = (wrap64 ((wrap64 (t578 + a4)) - t534)) then ((flagstonelaw09_others.f kj25 t543 t546 t547 l0_0 a0_1 a0_2 a1).bind fun t579 => (if t579 = true then (some true) else (none))) else (none)))) = some r := H
         have A76 := Am_ A760
         clear A760
         replace H := Option.bind_eq_some_iff.mp H
         obtain ⟨⟨t573, t576, t577⟩, A770, H⟩ := H
         replace H : ((flagstoneref06_Bytes.f kj25 t573 t576 t577).bind fun t578 => (if t572 = (wrap64 ((wrap64 (t578 + a4)) - t534)) then ((flagstonelaw09_others.f kj25 t543 t546 t547 l0_0 a0_1 a0_2 a1).bind fun t579 => (if t579 = true then (some true) else (none))) else (none))) = some r := H
         have A77 := Am_ A770
         clear A770
         replace H := Option.bind_eq_some_iff.mp H
         obtain ⟨t578, A780, H⟩ := H
         replace H : (if t572 = (wrap64 ((wrap64 (t578 + a4)) - t534)) then ((flagstonelaw09_others.f kj25 t543 t546 t547 l0_0 a0_1 a0_2 a1).bind fun t579 => (if t579 = true then (some true) else (none))) else (none)) = some r := H
         have A78 := Am_ A780
         clear A780
         by_cases c79 : t572 = (wrap64 ((wrap64 (t578 + a4)) - t534))
         ·rw [if_pos c79] at H
          have c79b0 : (t572 == (wrap64 ((wrap64 (t578 + a4)) - t534))) = true := beq_iff_eq.mpr c79
          have c79b1 : (t572 != (wrap64 ((wrap64 (t578 + a4)) - t534))) = false := bne_eq_false_iff_eq.mpr c79
          clear c79
          replace H := Option.bind_eq_some_iff.mp H
          obtain ⟨t579, A800, H⟩ := H
          replace H : (if t579 = true then (some true) else (none)) = some r := H
          have A80 := Am_ A800
          clear A800
          by_cases c81 : t579 = true
          ·subst c81
           have H1 : (some true) = some r := by rw [if_pos rfl] at H; exact H
           clear H
           have H := H1
           clear H1
           obtain rfl := Option.some.inj H
           have hnb82 := NB549_525.out
           have hnc82 := NB525_549.out
           have hnb83 := NB549_542.out
           have hnc83 := NB542_549.out
           have hcz84_0 : wc.cell? ⟨gb549, 0, none⟩ = some (.slice Ao41 t543.length co41) := (Bc_ BK549.out 0).trans rfl
           have hcz84_1 : wc.cell? ⟨gb549, 1, none⟩ = some (.int .i64 t546) := (Bc_ BK549.out 1).trans rfl
           have hcz84_2 : wc.cell? ⟨gb549, 2, none⟩ = some (.int .i64 t547) := (Bc_ BK549.out 2).trans rfl
           have hfz84_0 := Bf_ BK549.out 0
           have hfz84_1 := Bf_ BK549.out 1
           have hfz84_2 := Bf_ BK549.out 2
           try go_wp2_with (first | ((with_reducible refine gate_callee (f := 14) rfl ?_); refine goesL_ (some 106) rfl rfl Try.func14 (by kernel_rfl) rfl #[.agg #[.slice Ao41 t543.length co41, .int .i64 t546, .int .i64 t547], .int .i64 a1] rfl (by (try simp only [List.map_toArray, List.map_cons, List.map_nil]); first | done | rfl | (simp only [List.length_drop, List.length_take]; rfl)) ?_; (with_reducible refine (content_Size.calls _ _ t543 t546 t547 a1 t565 t566 _ ?side1 ?side2 A72.out).mono ?_); (case side1 => repeat (first | exact (Vr_ HO_550000.out).2.2 | (with_reducible refine Kd.C_alloc ?_ _) | (with_reducible refine Kd.C_drewN ?_ _) | (with_reducible refine Kd.C_drew ?_))); (case side2 => exact (Vr_ HO_550000.out).2.1); rintro e w85 ⟨rfl, hb⟩; refine ⟨_, rfl, ?_⟩; have n0_ := Am_ (Vb_ (by (with_reducible repeat (first | apply Va_ | apply Vn_ | apply Vd_)); exact HO_543000.out) hb); have n1_ := Am_ (Vb_ (by (with_reducible repeat (first | apply Va_ | apply Vn_ | apply Vd_)); exact HO_550000.out) hb); have n2_ := Am_ (Bb_ (g := gb525) (o := .cells #[.slice A0_0 l0_0.length c0_0, .int .i64 a0_1, .int .i64 a0_2] 24 (0, 0)) (by (with_reducible repeat (first | refine Bn_ ?_ _ | refine Bd_ ?_ | refine Ba_ ?_ _)); exact BK525.out) hb); have n3_ := Am_ (Bb_ (g := gb542) (o := .cells #[.slice Ao34 t536.length co34, .int .i64 t539, .int .i64 t540] 24 (0, 0)) (by (with_reducible repeat (first | refine Bn_ ?_ _ | refine Bd_ ?_ | refine Ba_ ?_ _)); exact BK542.out) hb); have n4_ := Am_ (Bb_ (g := gb549) (o := .cells #[.slice Ao41 t543.length co41, .int .i64 t546, .int .i64 t547] 24 (0, 0)) (by (with_reducible repeat (first | refine Bn_ ?_ _ | refine Bd_ ?_ | refine Ba_ ?_ _)); exact BK549.out) hb); have n5_ := Am_ (Be_ (by repeat (first | (with_reducible first | exact HB.out | apply Pa_ | apply Pn_ | apply Pd_ | refine Bs_ ?_ GE525.out | refine Bs_ ?_ GE542.out | refine Bs_ ?_ GE549.out) | exact HB.out)) hb); clear HO_543000; clear HO_550000; clear BK525; clear BK542; clear BK549; clear HB; have HO_543000 := n0_; have HO_550000 := n1_; have BK525 := n2_; have BK542 := n3_; have BK549 := n4_; have HB := n5_; clear n0_ n1_ n2_ n3_ n4_ n5_; (try clear hb); (try clear hb2); (try clear hk); (try clear hi)))
           have n0_ := Am_ (Vd_ HO_543000.out)
           have n1_ := Am_ (Vd_ HO_550000.out)
           have n2_ := Am_ (Bd_ BK525.out)
           have n3_ := Am_ (Bd_ BK542.out)
           have n4_ := Am_ (Bd_ BK549.out)
           have n5_ := Am_ (Pd_ HB.out)
           clear HO_543000
           clear HO_550000
           clear BK525
           clear BK542
           clear BK549
           clear HB
           have HO_543000 := n0_
           have HO_550000 := n1_
           have BK525 := n2_
           have BK542 := n3_
           have BK549 := n4_
           have HB := n5_
           clear n0_ n1_ n2_ n3_ n4_ n5_
           refine start_ (n := 27) (S := fun w' => w'.cell? ⟨gb549, 0, none⟩ = some (.slice Ao41 t543.length co41) ∧ w'.cell? ⟨gb549, 1, none⟩ = some (.int .i64 t546) ∧ w'.cell? ⟨gb549, 2, none⟩ = some (.int .i64 t547) ∧ w'.cell? ⟨gb525, 0, none⟩ = some (.slice A0_0 l0_0.length c0_0) ∧ w'.cell? ⟨gb525, 1, none⟩ = some (.int .i64 a0_1) ∧ w'.cell? ⟨gb525, 2, none⟩ = some (.int .i64 a0_2)) (ds := []) #[f_,f_,f_,f_,f_,f_,f_,f_,f_,f_,f_,f_,f_,f_,f_,f_,f_,f_,f_,f_,f_,f_,f_,f_,f_,f_,f_] (by kernel_rfl) rfl rfl ⟨(Bc_ BK549.out 0).trans rfl, (Bc_ BK549.out 1).trans rfl, (Bc_ BK549.out 2).trans rfl, (Bc_ BK525.out 0).trans rfl, (Bc_ BK525.out 1).trans rfl, (Bc_ BK525.out 2).trans rfl⟩ (fun hHeld => ?_); refine with_tabW flagstonelaw09_ContentSizes.tab15 flagstonelaw09_ContentSizes.bits15 (fun HT_ HW_ => ?_)
           generalize w85.drew = w86 at HO_543000 HO_550000 BK525 BK542 BK549 HB hHeld ⊢
           refine pure_ (i := 0) (N := some 109) (v := ?_) (a' := ?_) #[t_,f_,f_,f_,f_,f_,f_,f_,f_,f_,f_,f_,f_,f_,f_,f_,f_,f_,f_,f_,f_,f_,f_,f_,f_,f_,f_] rfl rfl (any_of HT_.out (by kernel_rfl)) (fun _ _ _ h => h) (Or.inl ⟨by rfl, ?_⟩) ?_ ?_
           rotate_left
           ·intro w'
            go_simp
            with_reducible rfl
           rotate_left
           ·simp only [Act.put, La_, Lb_, Lc_, i64_w, i32_w]
            rfl
           refine pure_ (i := 1) (N := some 110) (v := ?_) (a' := ?_) #[t_,t_,f_,f_,f_,f_,f_,f_,f_,f_,f_,f_,f_,f_,f_,f_,f_,f_,f_,f_,f_,f_,f_,f_,f_,f_,f_] rfl rfl (any_of HT_.out (by kernel_rfl)) (fun _ _ _ h => h) (Or.inl ⟨by rfl, ?_⟩) ?_ ?_
           rotate_left
           ·intro w'
            go_simp
            with_reducible rfl
           rotate_left
           ·simp only [Act.put, La_, Lb_, Lc_, i64_w, i32_w]
            rfl
           refine pure_ (i := 2) (N := some 111) (v := ?_) (a' := ?_) #[t_,t_,t_,f_,f_,f_,f_,f_,f_,f_,f_,f_,f_,f_,f_,f_,f_,f_,f_,f_,f_,f_,f_,f_,f_,f_,f_] rfl rfl (any_of HT_.out (by kernel_rfl)) (fun _ _ _ h => h) (Or.inl ⟨by rfl, ?_⟩) ?_ ?_
           rotate_left
           ·intro w'
            go_simp
            with_reducible rfl
           rotate_left
           ·simp only [Act.put, La_, Lb_, Lc_, i64_w, i32_w]
            rfl
           refine pure_ (i := 3) (N := some 112) (v := ?_) (a' := ?_) #[t_,t_,t_,t_,f_,f_,f_,f_,f_,f_,f_,f_,f_,f_,f_,f_,f_,f_,f_,f_,f_,f_,f_,f_,f_,f_,f_] rfl rfl (any_of HT_.out (by kernel_rfl)) (fun _ _ _ h => h) (Or.inl ⟨by rfl, ?_⟩) ?_ ?_
           rotate_left
           ·intro w'
            go_simp
            with_reducible rfl
           rotate_left
           ·simp only [Act.put, La_, Lb_, Lc_, i64_w, i32_w]
            rfl
           refine pure_ (i := 4) (N := some 113) (v := ?_) (a' := ?_) #[t_,t_,t_,t_,t_,f_,f_,f_,f_,f_,f_,f_,f_,f_,f_,f_,f_,f_,f_,f_,f_,f_,f_,f_,f_,f_,f_] rfl rfl (any_of HT_.out (by kernel_rfl)) (fun _ _ _ h => h) (Or.inl ⟨by rfl, ?_⟩) ?_ ?_
           rotate_left
           ·intro w'
            go_simp
            with_reducible rfl
           rotate_left
           ·simp only [Act.put, La_, Lb_, Lc_, i64_w, i32_w]
            rfl
           refine pure_ (i := 5) (N := some 114) (v := ?_) (a' := ?_) #[t_,t_,t_,t_,t_,t_,f_,f_,f_,f_,f_,f_,f_,f_,f_,f_,f_,f_,f_,f_,f_,f_,f_,f_,f_,f_,f_] rfl rfl (any_of HT_.out (by kernel_rfl)) (fun _ _ _ h => h) (Or.inl ⟨by rfl, ?_⟩) ?_ ?_
           rotate_left
           ·intro w'
            go_simp
            with_reducible rfl
           rotate_left
           ·simp only [Act.put, La_, Lb_, Lc_, i64_w, i32_w]
            rfl
           refine pure_ (i := 6) (N := some 115) (v := ?_) (a' := ?_) #[t_,t_,t_,t_,t_,t_,t_,f_,f_,f_,f_,f_,f_,f_,f_,f_,f_,f_,f_,f_,f_,f_,f_,f_,f_,f_,f_] rfl rfl (any_of HT_.out (by kernel_rfl)) (fun _ _ _ h => h) (Or.inl ⟨by rfl, ?_⟩) ?_ ?_
           rotate_left
           ·intro w'
            go_simp
            with_reducible rfl
           rotate_left
           ·simp only [Act.put, La_, Lb_, Lc_, i64_w, i32_w]
            rfl
           refine pure_ (i := 7) (N := some 116) (v := ?_) (a' := ?_) #[t_,t_,t_,t_,t_,t_,t_,t_,f_,f_,f_,f_,f_,f_,f_,f_,f_,f_,f_,f_,f_,f_,f_,f_,f_,f_,f_] rfl rfl (any_of HT_.out (by kernel_rfl)) (fun _ _ _ h => h) (Or.inl ⟨by rfl, ?_⟩) ?_ ?_
           rotate_left
           ·intro w'
            go_simp
            with_reducible rfl
           rotate_left
           ·simp only [Act.put, La_, Lb_, Lc_, i64_w, i32_w]
            rfl
           refine pure_ (i := 14) (N := some 123) (v := ?_) (a' := ?_) #[t_,t_,t_,t_,t_,t_,t_,t_,f_,f_,f_,f_,f_,f_,t_,f_,f_,f_,f_,f_,f_,f_,f_,f_,f_,f_,f_] rfl rfl (any_of HT_.out (by kernel_rfl)) (fun _ _ _ h => h) (Or.inl ⟨by rfl, ?_⟩) ?_ ?_
           rotate_left
           ·intro w'
            go_simp
            with_reducible rfl
           rotate_left
           ·simp only [Act.put, La_, Lb_, Lc_, i64_w, i32_w]
            rfl
           refine pure_ (i := 16) (N := some 125) (v := ?_) (a' := ?_) #[t_,t_,t_,t_,t_,t_,t_,t_,f_,f_,f_,f_,f_,f_,t_,f_,t_,f_,f_,f_,f_,f_,f_,f_,f_,f_,f_] rfl rfl (any_of HT_.out (by kernel_rfl)) (fun _ _ _ h => h) (Or.inl ⟨by rfl, ?_⟩) ?_ ?_
           rotate_left
           ·intro w'
            go_simp
            with_reducible rfl
           rotate_left
           ·simp only [Act.put, La_, Lb_, Lc_, i64_w, i32_w]
            rfl
           refine take_ (i := 8) (N := some 117) (v := ?_) (a' := ?_) #[t_,t_,t_,t_,t_,t_,t_,t_,t_,f_,f_,f_,f_,f_,t_,f_,t_,f_,f_,f_,f_,f_,f_,f_,f_,f_,f_] rfl rfl (take_ofW HT_.out HW_.out (by kernel_rfl)) (fun _ _ _ h => h) (Or.inl ⟨by rfl, ?_⟩) hHeld ?_ ?_
           rotate_left
           ·rintro w' ⟨s0, s1, s2, s3, s4, s5⟩
            go_simp
            with_reducible rfl
           rotate_left
           ·simp only [Act.put, La_, Lb_, Lc_, i64_w, i32_w]
            rfl
           refine take_ (i := 11) (N := some 120) (v := ?_) (a' := ?_) #[t_,t_,t_,t_,t_,t_,t_,t_,t_,f_,f_,t_,f_,f_,t_,f_,t_,f_,f_,f_,f_,f_,f_,f_,f_,f_,f_] rfl rfl (take_ofW HT_.out HW_.out (by kernel_rfl)) (fun _ _ _ h => h) (Or.inl ⟨by rfl, ?_⟩) hHeld ?_ ?_
           rotate_left
           ·rintro w' ⟨s0, s1, s2, s3, s4, s5⟩
            go_simp
            with_reducible rfl
           rotate_left
           ·simp only [Act.put, La_, Lb_, Lc_, i64_w, i32_w]
            rfl
           refine one_ (i := 9) (N := some 118) #[t_,t_,t_,t_,t_,t_,t_,t_,t_,t_,f_,t_,f_,f_,t_,f_,t_,f_,f_,f_,f_,f_,f_,f_,f_,f_,f_] rfl rfl (one_of HT_.out (by kernel_rfl)) (by decide) (fun K hK => ?_)
           refine goes_ Try.func13 (by kernel_rfl) rfl #[.agg #[.slice Ao41 t543.length co41, .int .i64 t546, .int .i64 t547]] (by rfl) rfl rfl (by (try simp only [List.map_toArray, List.map_cons, List.map_nil]); first | done | rfl | (simp only [List.length_drop, List.length_take]; rfl)) ?_
           with_reducible refine (flagstonelaw09_its.calls kj25 _ _ t543 t546 t547 t567 t570 t571 _ ?side1 ?side2 A75.out).mono ?_
           (case side1 => repeat (first | exact (Vr_ HO_550000.out).2.2 | (with_reducible refine Kd.C_alloc ?_ _) | (with_reducible refine Kd.C_drewN ?_ _) | (with_reducible refine Kd.C_drew ?_)))
           (case side2 => exact (Vr_ HO_550000.out).2.1)
           rintro e w87 ⟨v568, rfl, ho0, hb⟩
           refine ⟨_, rfl, ?_⟩
           have n0_ := Am_ (Kd.V_elder' (by (with_reducible repeat (first | apply Va_ | apply Vn_ | apply Vd_)); exact HO_543000.out) (Kd.S_base ho0) hb)
           have n1_ := Am_ (Kd.V_elder' (by (with_reducible repeat (first | apply Va_ | apply Vn_ | apply Vd_)); exact HO_550000.out) (Kd.S_base ho0) hb)
           have n2_ := Am_ (Kd.S_lower ho0 (Bz_ (by repeat (first | (with_reducible first | exact HB.out | apply Pa_ | apply Pn_ | apply Pd_ | refine Bs_ ?_ GE525.out | refine Bs_ ?_ GE542.out | refine Bs_ ?_ GE549.out) | exact HB.out))))
           have n3_ := Am_ (Bb_ (g := gb525) (o := .cells #[.slice A0_0 l0_0.length c0_0, .int .i64 a0_1, .int .i64 a0_2] 24 (0, 0)) (by (with_reducible repeat (first | refine Bn_ ?_ _ | refine Bd_ ?_ | refine Ba_ ?_ _)); exact BK525.out) hb)
           have n4_ := Am_ (Bb_ (g := gb542) (o := .cells #[.slice Ao34 t536.length co34, .int .i64 t539, .int .i64 t540] 24 (0, 0)) (by (with_reducible repeat (first | refine Bn_ ?_ _ | refine Bd_ ?_ | refine Ba_ ?_ _)); exact BK542.out) hb)
           have n5_ := Am_ (Bb_ (g := gb549) (o := .cells #[.slice Ao41 t543.length co41, .int .i64 t546, .int .i64 t547] 24 (0, 0)) (by (with_reducible repeat (first | refine Bn_ ?_ _ | refine Bd_ ?_ | refine Ba_ ?_ _)); exact BK549.out) hb)
           have n6_ := Am_ (Be_ (by repeat (first | (with_reducible first | exact HB.out | apply Pa_ | apply Pn_ | apply Pd_ | refine Bs_ ?_ GE525.out | refine Bs_ ?_ GE542.out | refine Bs_ ?_ GE549.out) | exact HB.out)) hb)
           clear HO_543000
           clear HO_550000
           clear BK525
           clear BK542
           clear BK549
           clear HB
           have HO_543000 := n0_
           have HO_550000 := n1_
           have HO569 := n2_
           have BK525 := n3_
           have BK542 := n4_
           have BK549 := n5_
           have HB := n6_
           clear n0_ n1_ n2_ n3_ n4_ n5_ n6_
           (try clear hb)
           (try clear hb2)
           (try clear hk)
           (try clear hi)
           (try clear ho0)
           obtain ⟨Ao88, co88, eo88⟩ := Kd.S_slice HO569.out
           (first | subst eo88 | (injection eo88 with f1_ f2_ f3_; have f4_ := f1_.symm; have f5_ := f3_.symm; clear f1_ f2_ f3_; subst f4_; subst f5_))
           refine hK.out _ _ ⟨(Bc_ BK549.out 0).trans rfl, (Bc_ BK549.out 1).trans rfl, (Bc_ BK549.out 2).trans rfl, (Bc_ BK525.out 0).trans rfl, (Bc_ BK525.out 1).trans rfl, (Bc_ BK525.out 2).trans rfl⟩ (fun hHeld => ?_)
           clear hK K
           refine norm_ (a' := ?_) ?_ ?_
           rotate_left
           ·show Act.put _ (some 118) _ = _
            simp only [Act.put, La_, Lb_, Lc_, i64_w, i32_w]
            rfl
           refine one_ (i := 10) (N := some 119) #[t_,t_,t_,t_,t_,t_,t_,t_,t_,t_,t_,t_,f_,f_,t_,f_,t_,f_,f_,f_,f_,f_,f_,f_,f_,f_,f_] rfl rfl (one_of HT_.out (by kernel_rfl)) (by decide) (fun K hK => ?_)
           refine goes_ Try.func21 (by kernel_rfl) rfl #[.agg #[.slice Ao88 t567.length co88, .int .i64 t570, .int .i64 t571]] (by rfl) rfl rfl (by (try simp only [List.map_toArray, List.map_cons, List.map_nil]); first | done | rfl | (simp only [List.length_drop, List.length_take]; rfl)) ?_
           with_reducible refine (flagstoneref06_Bytes.calls kj25 _ _ t567 t570 t571 t572 _ ?side1 ?side2 A76.out).mono ?_
           (case side1 => repeat (first | exact (Kd.S_reads' HO569.out).2.2 | (with_reducible refine Kd.C_alloc ?_ _) | (with_reducible refine Kd.C_drewN ?_ _) | (with_reducible refine Kd.C_drew ?_)))
           (case side2 => exact (Kd.S_reads' HO569.out).2.1)
           rintro e w89 ⟨rfl, hb⟩
           refine ⟨_, rfl, ?_⟩
           have n0_ := Am_ (Vb_ (by (with_reducible repeat (first | apply Va_ | apply Vn_ | apply Vd_)); exact HO_543000.out) hb)
           have n1_ := Am_ (Vb_ (by (with_reducible repeat (first | apply Va_ | apply Vn_ | apply Vd_)); exact HO_550000.out) hb)
           have n2_ := Am_ (Kd.S_below (by (with_reducible repeat (first | apply Kd.S_alloc | apply Kd.S_drewN | apply Kd.S_drew)); exact HO569.out) hb)
           have n3_ := Am_ (Bb_ (g := gb525) (o := .cells #[.slice A0_0 l0_0.length c0_0, .int .i64 a0_1, .int .i64 a0_2] 24 (0, 0)) (by (with_reducible repeat (first | refine Bn_ ?_ _ | refine Bd_ ?_ | refine Ba_ ?_ _)); exact BK525.out) hb)
           have n4_ := Am_ (Bb_ (g := gb542) (o := .cells #[.slice Ao34 t536.length co34, .int .i64 t539, .int .i64 t540] 24 (0, 0)) (by (with_reducible repeat (first | refine Bn_ ?_ _ | refine Bd_ ?_ | refine Ba_ ?_ _)); exact BK542.out) hb)
           have n5_ := Am_ (Bb_ (g := gb549) (o := .cells #[.slice Ao41 t543.length co41, .int .i64 t546, .int .i64 t547] 24 (0, 0)) (by (with_reducible repeat (first | refine Bn_ ?_ _ | refine Bd_ ?_ | refine Ba_ ?_ _)); exact BK549.out) hb)
           have n6_ := Am_ (Be_ (by repeat (first | (with_reducible first | exact HB.out | apply Pa_ | apply Pn_ | apply Pd_ | refine Bs_ ?_ GE525.out | refine Bs_ ?_ GE542.out | refine Bs_ ?_ GE549.out) | exact HB.out)) hb)
           clear HO_543000
           clear HO_550000
           clear HO569
           clear BK525
           clear BK542
           clear BK549
           clear HB
           have HO_543000 := n0_
           have HO_550000 := n1_
           have HO569 := n2_
           have BK525 := n3_
           have BK542 := n4_
           have BK549 := n5_
           have HB := n6_
           clear n0_ n1_ n2_ n3_ n4_ n5_ n6_
           (try clear hb)
           (try clear hb2)
           (try clear hk)
           (try clear hi)
           refine hK.out _ _ ⟨(Bc_ BK549.out 0).trans rfl, (Bc_ BK549.out 1).trans rfl, (Bc_ BK549.out 2).trans rfl, (Bc_ BK525.out 0).trans rfl, (Bc_ BK525.out 1).trans rfl, (Bc_ BK525.out 2).trans rfl⟩ (fun hHeld => ?_)
           clear hK K
           refine norm_ (a' := ?_) ?_ ?_
           rotate_left
           ·show Act.put _ (some 119) _ = _
            simp only [Act.put, La_, Lb_, Lc_, i64_w, i32_w]
            rfl
           refine one_ (i := 12) (N := some 121) #[t_,t_,t_,t_,t_,t_,t_,t_,t_,t_,t_,t_,t_,f_,t_,f_,t_,f_,f_,f_,f_,f_,f_,f_,f_,f_,f_] rfl rfl (one_of HT_.out (by kernel_rfl)) (by decide) (fun K hK => ?_)
           refine goes_ Try.func13 (by kernel_rfl) rfl #[.agg #[.slice A0_0 l0_0.length c0_0, .int .i64 a0_1, .int .i64 a0_2]] (by rfl) rfl rfl (by (try simp only [List.map_toArray, List.map_cons, List.map_nil]); first | done | rfl | (simp only [List.length_drop, List.length_take]; rfl)) ?_
           with_reducible refine (flagstonelaw09_its.calls kj25 _ _ l0_0 a0_1 a0_2 t573 t576 t577 _ ?side1 ?side2 A77.out).mono ?_
           (case side1 => repeat (first | exact (Kd.C_below HR0_0.out HB.out) | (with_reducible refine Kd.C_alloc ?_ _) | (with_reducible refine Kd.C_drewN ?_ _) | (with_reducible refine Kd.C_drew ?_)))
           (case side2 => exact HC0_0.out)
           rintro e w90 ⟨v574, rfl, ho0, hb⟩
           refine ⟨_, rfl, ?_⟩
           have n0_ := Am_ (Kd.V_elder' (by (with_reducible repeat (first | apply Va_ | apply Vn_ | apply Vd_)); exact HO_543000.out) (Kd.S_base ho0) hb)
           have n1_ := Am_ (Kd.V_elder' (by (with_reducible repeat (first | apply Va_ | apply Vn_ | apply Vd_)); exact HO_550000.out) (Kd.S_base ho0) hb)
           have n2_ := Am_ (Kd.S_elder' (by (with_reducible repeat (first | apply Kd.S_alloc | apply Kd.S_drewN | apply Kd.S_drew)); exact HO569.out) (Kd.S_base ho0) hb)
           have n3_ := Am_ (Kd.S_lower (Kd.S_new' ho0 (Kd.S_lt (by (with_reducible repeat (first | apply Kd.S_alloc | apply Kd.S_drewN | apply Kd.S_drew)); exact HO569.out))) (Bz_ (by repeat (first | (with_reducible first | exact HB.out | apply Pa_ | apply Pn_ | apply Pd_ | refine Bs_ ?_ GE525.out | refine Bs_ ?_ GE542.out | refine Bs_ ?_ GE549.out) | exact HB.out))))
           have n4_ := Am_ (Bb_ (g := gb525) (o := .cells #[.slice A0_0 l0_0.length c0_0, .int .i64 a0_1, .int .i64 a0_2] 24 (0, 0)) (by (with_reducible repeat (first | refine Bn_ ?_ _ | refine Bd_ ?_ | refine Ba_ ?_ _)); exact BK525.out) hb)
           have n5_ := Am_ (Bb_ (g := gb542) (o := .cells #[.slice Ao34 t536.length co34, .int .i64 t539, .int .i64 t540] 24 (0, 0)) (by (with_reducible repeat (first | refine Bn_ ?_ _ | refine Bd_ ?_ | refine Ba_ ?_ _)); exact BK542.out) hb)
           have n6_ := Am_ (Bb_ (g := gb549) (o := .cells #[.slice Ao41 t543.length co41, .int .i64 t546, .int .i64 t547] 24 (0, 0)) (by (with_reducible repeat (first | refine Bn_ ?_ _ | refine Bd_ ?_ | refine Ba_ ?_ _)); exact BK549.out) hb)
           have n7_ := Am_ (Be_ (by repeat (first | (with_reducible first | exact HB.out | apply Pa_ | apply Pn_ | apply Pd_ | refine Bs_ ?_ GE525.out | refine Bs_ ?_ GE542.out | refine Bs_ ?_ GE549.out) | exact HB.out)) hb)
           clear HO_543000
           clear HO_550000
           clear HO569
           clear BK525
           clear BK542
           clear BK549
           clear HB
           have HO_543000 := n0_
           have HO_550000 := n1_
           have HO569 := n2_
           have HO575 := n3_
           have BK525 := n4_
           have BK542 := n5_
           have BK549 := n6_
           have HB := n7_
           clear n0_ n1_ n2_ n3_ n4_ n5_ n6_ n7_
           (try clear hb)
           (try clear hb2)
           (try clear hk)
           (try clear hi)
           (try clear ho0)
           obtain ⟨Ao91, co91, eo91⟩ := Kd.S_slice HO575.out
           (first | subst eo91 | (injection eo91 with f1_ f2_ f3_; have f4_ := f1_.symm; have f5_ := f3_.symm; clear f1_ f2_ f3_; subst f4_; subst f5_))
           refine hK.out _ _ ⟨(Bc_ BK549.out 0).trans rfl, (Bc_ BK549.out 1).trans rfl, (Bc_ BK549.out 2).trans rfl, (Bc_ BK525.out 0).trans rfl, (Bc_ BK525.out 1).trans rfl, (Bc_ BK525.out 2).trans rfl⟩ (fun hHeld => ?_)
           clear hK K
           refine norm_ (a' := ?_) ?_ ?_
           rotate_left
           ·show Act.put _ (some 121) _ = _
            simp only [Act.put, La_, Lb_, Lc_, i64_w, i32_w]
            rfl
           refine one_ (i := 13) (N := some 122) #[t_,t_,t_,t_,t_,t_,t_,t_,t_,t_,t_,t_,t_,t_,t_,f_,t_,f_,f_,f_,f_,f_,f_,f_,f_,f_,f_] rfl rfl (one_of HT_.out (by kernel_rfl)) (by decide) (fun K hK => ?_)
           refine goes_ Try.func21 (by kernel_rfl) rfl #[.agg #[.slice Ao91 t573.length co91, .int .i64 t576, .int .i64 t577]] (by rfl) rfl rfl (by (try simp only [List.map_toArray, List.map_cons, List.map_nil]); first | done | rfl | (simp only [List.length_drop, List.length_take]; rfl)) ?_
           with_reducible refine (flagstoneref06_Bytes.calls kj25 _ _ t573 t576 t577 t578 _ ?side1 ?side2 A78.out).mono ?_
           (case side1 => repeat (first | exact (Kd.S_reads' HO575.out).2.2 | (with_reducible refine Kd.C_alloc ?_ _) | (with_reducible refine Kd.C_drewN ?_ _) | (with_reducible refine Kd.C_drew ?_)))
           (case side2 => exact (Kd.S_reads' HO575.out).2.1)
           rintro e w92 ⟨rfl, hb⟩
           refine ⟨_, rfl, ?_⟩
           have n0_ := Am_ (Vb_ (by (with_reducible repeat (first | apply Va_ | apply Vn_ | apply Vd_)); exact HO_543000.out) hb)
           have n1_ := Am_ (Vb_ (by (with_reducible repeat (first | apply Va_ | apply Vn_ | apply Vd_)); exact HO_550000.out) hb)
           have n2_ := Am_ (Kd.S_below (by (with_reducible repeat (first | apply Kd.S_alloc | apply Kd.S_drewN | apply Kd.S_drew)); exact HO569.out) hb)
           have n3_ := Am_ (Kd.S_below (by (with_reducible repeat (first | apply Kd.S_alloc | apply Kd.S_drewN | apply Kd.S_drew)); exact HO575.out) hb)
           have n4_ := Am_ (Bb_ (g := gb525) (o := .cells #[.slice A0_0 l0_0.length c0_0, .int .i64 a0_1, .int .i64 a0_2] 24 (0, 0)) (by (with_reducible repeat (first | refine Bn_ ?_ _ | refine Bd_ ?_ | refine Ba_ ?_ _)); exact BK525.out) hb)
           have n5_ := Am_ (Bb_ (g := gb542) (o := .cells #[.slice Ao34 t536.length co34, .int .i64 t539, .int .i64 t540] 24 (0, 0)) (by (with_reducible repeat (first | refine Bn_ ?_ _ | refine Bd_ ?_ | refine Ba_ ?_ _)); exact BK542.out) hb)
           have n6_ := Am_ (Bb_ (g := gb549) (o := .cells #[.slice Ao41 t543.length co41, .int .i64 t546, .int .i64 t547] 24 (0, 0)) (by (with_reducible repeat (first | refine Bn_ ?_ _ | refine Bd_ ?_ | refine Ba_ ?_ _)); exact BK549.out) hb)
           have n7_ := Am_ (Be_ (by repeat (first | (with_reducible first | exact HB.out | apply Pa_ | apply Pn_ | apply Pd_ | refine Bs_ ?_ GE525.out | refine Bs_ ?_ GE542.out | refine Bs_ ?_ GE549.out) | exact HB.out)) hb)
           clear HO_543000
           clear HO_550000
           clear HO569
           clear HO575
           clear BK525
           clear BK542
           clear BK549
           clear HB
           have HO_543000 := n0_
           have HO_550000 := n1_
           have HO569 := n2_
           have HO575 := n3_
           have BK525 := n4_
           have BK542 := n5_
           have BK549 := n6_
           have HB := n7_
           clear n0_ n1_ n2_ n3_ n4_ n5_ n6_ n7_
           (try clear hb)
           (try clear hb2)
           (try clear hk)
           (try clear hi)
           refine hK.out _ _ ⟨(Bc_ BK549.out 0).trans rfl, (Bc_ BK549.out 1).trans rfl, (Bc_ BK549.out 2).trans rfl, (Bc_ BK525.out 0).trans rfl, (Bc_ BK525.out 1).trans rfl, (Bc_ BK525.out 2).trans rfl⟩ (fun hHeld => ?_)
           clear hK K
           refine norm_ (a' := ?_) ?_ ?_
           rotate_left
           ·show Act.put _ (some 122) _ = _
            simp only [Act.put, La_, Lb_, Lc_, i64_w, i32_w]
            rfl
           refine pure_ (i := 15) (N := some 124) (v := ?_) (a' := ?_) #[t_,t_,t_,t_,t_,t_,t_,t_,t_,t_,t_,t_,t_,t_,t_,t_,t_,f_,f_,f_,f_,f_,f_,f_,f_,f_,f_] rfl rfl (any_of HT_.out (by kernel_rfl)) (fun _ _ _ h => h) (Or.inl ⟨by rfl, ?_⟩) ?_ ?_
           rotate_left
           ·intro w'
            go_simp
            with_reducible rfl
           rotate_left
           ·simp only [Act.put, La_, Lb_, Lc_, i64_w, i32_w]
            rfl
           refine pure_ (i := 17) (N := some 126) (v := ?_) (a' := ?_) #[t_,t_,t_,t_,t_,t_,t_,t_,t_,t_,t_,t_,t_,t_,t_,t_,t_,t_,f_,f_,f_,f_,f_,f_,f_,f_,f_] rfl rfl (any_of HT_.out (by kernel_rfl)) (fun _ _ _ h => h) (Or.inl ⟨by rfl, ?_⟩) ?_ ?_
           rotate_left
           ·intro w'
            go_simp
            with_reducible rfl
           rotate_left
           ·simp only [Act.put, La_, Lb_, Lc_, i64_w, i32_w]
            rfl
           refine pure_ (i := 18) (N := some 127) (v := ?_) (a' := ?_) #[t_,t_,t_,t_,t_,t_,t_,t_,t_,t_,t_,t_,t_,t_,t_,t_,t_,t_,t_,f_,f_,f_,f_,f_,f_,f_,f_] rfl rfl (any_of HT_.out (by kernel_rfl)) (fun _ _ _ h => h) (Or.inl ⟨by rfl, ?_⟩) ?_ ?_
           rotate_left
           ·intro w'
            go_simp
            with_reducible rfl
           rotate_left
           ·simp only [Act.put, La_, Lb_, Lc_, i64_w, i32_w]
            rfl
           refine pure_ (i := 19) (N := some 128) (v := ?_) (a' := ?_) #[t_,t_,t_,t_,t_,t_,t_,t_,t_,t_,t_,t_,t_,t_,t_,t_,t_,t_,t_,t_,f_,f_,f_,f_,f_,f_,f_] rfl rfl (any_of HT_.out (by kernel_rfl)) (fun _ _ _ h => h) (Or.inl ⟨by rfl, ?_⟩) ?_ ?_
           rotate_left
           ·intro w'
            go_simp
            with_reducible rfl
           rotate_left
           ·simp only [Act.put, La_, Lb_, Lc_, i64_w, i32_w]
            rfl
           refine pure_ (i := 20) (N := some 129) (v := ?_) (a' := ?_) #[t_,t_,t_,t_,t_,t_,t_,t_,t_,t_,t_,t_,t_,t_,t_,t_,t_,t_,t_,t_,t_,f_,f_,f_,f_,f_,f_] rfl rfl (any_of HT_.out (by kernel_rfl)) (fun _ _ _ h => h) (Or.inl ⟨by rfl, ?_⟩) ?_ ?_
           rotate_left
           ·intro w'
            go_simp
            with_reducible rfl
           rotate_left
           ·simp only [Act.put, La_, Lb_, Lc_, i64_w, i32_w]
            rfl
           refine pure_ (i := 23) (N := some 132) (v := ?_) (a' := ?_) #[t_,t_,t_,t_,t_,t_,t_,t_,t_,t_,t_,t_,t_,t_,t_,t_,t_,t_,t_,t_,t_,f_,f_,t_,f_,f_,f_] rfl rfl (any_of HT_.out (by kernel_rfl)) (fun _ _ _ h => h) (Or.inl ⟨by rfl, ?_⟩) ?_ ?_
           rotate_left
           ·intro w'
            go_simp
            with_reducible rfl
           rotate_left
           ·simp only [Act.put, La_, Lb_, Lc_, i64_w, i32_w]
            rfl
           refine take_ (i := 21) (N := some 130) (v := ?_) (a' := ?_) #[t_,t_,t_,t_,t_,t_,t_,t_,t_,t_,t_,t_,t_,t_,t_,t_,t_,t_,t_,t_,t_,t_,f_,t_,f_,f_,f_] rfl rfl (take_ofW HT_.out HW_.out (by kernel_rfl)) (fun _ _ _ h => h) (Or.inl ⟨by rfl, ?_⟩) hHeld ?_ ?_
           rotate_left
           ·rintro w' ⟨s0, s1, s2, s3, s4, s5⟩
            go_simp
            with_reducible rfl
           rotate_left
           ·simp only [Act.put, La_, Lb_, Lc_, i64_w, i32_w]
            rfl
           refine take_ (i := 22) (N := some 131) (v := ?_) (a' := ?_) #[t_,t_,t_,t_,t_,t_,t_,t_,t_,t_,t_,t_,t_,t_,t_,t_,t_,t_,t_,t_,t_,t_,t_,t_,f_,f_,f_] rfl rfl (take_ofW HT_.out HW_.out (by kernel_rfl)) (fun _ _ _ h => h) (Or.inl ⟨by rfl, ?_⟩) hHeld ?_ ?_
           rotate_left
           ·rintro w' ⟨s0, s1, s2, s3, s4, s5⟩
            go_simp
            with_reducible rfl
           rotate_left
           ·simp only [Act.put, La_, Lb_, Lc_, i64_w, i32_w]
            rfl
           refine one_ (i := 24) (N := some 133) #[t_,t_,t_,t_,t_,t_,t_,t_,t_,t_,t_,t_,t_,t_,t_,t_,t_,t_,t_,t_,t_,t_,t_,t_,t_,f_,f_] rfl rfl (one_of HT_.out (by kernel_rfl)) (by decide) (fun K hK => ?_)
           refine goes_ Try.func22 (by kernel_rfl) rfl #[.agg #[.slice Ao41 t543.length co41, .int .i64 t546, .int .i64 t547], .agg #[.slice A0_0 l0_0.length c0_0, .int .i64 a0_1, .int .i64 a0_2], .int .i64 a1] (by rfl) rfl rfl (by (try simp only [List.map_toArray, List.map_cons, List.map_nil]); first | done | rfl | (simp only [List.length_drop, List.length_take]; rfl)) ?_
           with_reducible refine (flagstonelaw09_others.calls kj25 _ _ t543 t546 t547 _ _ l0_0 a0_1 a0_2 a1 true _ ?side1 ?side2 ?side3 ?side4 A80.out).mono ?_
           (case side1 => repeat (first | exact (Vr_ HO_550000.out).2.2 | (with_reducible refine Kd.C_alloc ?_ _) | (with_reducible refine Kd.C_drewN ?_ _) | (with_reducible refine Kd.C_drew ?_)))
           (case side2 => exact (Vr_ HO_550000.out).2.1)
           (case side3 => repeat (first | exact (Kd.C_below HR0_0.out HB.out) | (with_reducible refine Kd.C_alloc ?_ _) | (with_reducible refine Kd.C_drewN ?_ _) | (with_reducible refine Kd.C_drew ?_)))
           (case side4 => exact HC0_0.out)
           rintro e w93 ⟨rfl, hb⟩
           refine ⟨_, rfl, ?_⟩
           have n0_ := Am_ (Vb_ (by (with_reducible repeat (first | apply Va_ | apply Vn_ | apply Vd_)); exact HO_543000.out) hb)
           have n1_ := Am_ (Vb_ (by (with_reducible repeat (first | apply Va_ | apply Vn_ | apply Vd_)); exact HO_550000.out) hb)
           have n2_ := Am_ (Kd.S_below (by (with_reducible repeat (first | apply Kd.S_alloc | apply Kd.S_drewN | apply Kd.S_drew)); exact HO569.out) hb)
           have n3_ := Am_ (Kd.S_below (by (with_reducible repeat (first | apply Kd.S_alloc | apply Kd.S_drewN | apply Kd.S_drew)); exact HO575.out) hb)
           have n4_ := Am_ (Bb_ (g := gb525) (o := .cells #[.slice A0_0 l0_0.length c0_0, .int .i64 a0_1, .int .i64 a0_2] 24 (0, 0)) (by (with_reducible repeat (first | refine Bn_ ?_ _ | refine Bd_ ?_ | refine Ba_ ?_ _)); exact BK525.out) hb)
           have n5_ := Am_ (Bb_ (g := gb542) (o := .cells #[.slice Ao34 t536.length co34, .int .i64 t539, .int .i64 t540] 24 (0, 0)) (by (with_reducible repeat (first | refine Bn_ ?_ _ | refine Bd_ ?_ | refine Ba_ ?_ _)); exact BK542.out) hb)
           have n6_ := Am_ (Bb_ (g := gb549) (o := .cells #[.slice Ao41 t543.length co41, .int .i64 t546, .int .i64 t547] 24 (0, 0)) (by (with_reducible repeat (first | refine Bn_ ?_ _ | refine Bd_ ?_ | refine Ba_ ?_ _)); exact BK549.out) hb)
           have n7_ := Am_ (Be_ (by repeat (first | (with_reducible first | exact HB.out | apply Pa_ | apply Pn_ | apply Pd_ | refine Bs_ ?_ GE525.out | refine Bs_ ?_ GE542.out | refine Bs_ ?_ GE549.out) | exact HB.out)) hb)
           clear HO_543000
           clear HO_550000
           clear HO569
           clear HO575
           clear BK525
           clear BK542
           clear BK549
           clear HB
           have HO_543000 := n0_
           have HO_550000 := n1_
           have HO569 := n2_
           have HO575 := n3_
           have BK525 := n4_
           have BK542 := n5_
           have BK549 := n6_
           have HB := n7_
           clear n0_ n1_ n2_ n3_ n4_ n5_ n6_ n7_
           (try clear hb)
           (try clear hb2)
           (try clear hk)
           (try clear hi)
           refine hK.out _ _ ⟨(Bc_ BK549.out 0).trans rfl, (Bc_ BK549.out 1).trans rfl, (Bc_ BK549.out 2).trans rfl, (Bc_ BK525.out 0).trans rfl, (Bc_ BK525.out 1).trans rfl, (Bc_ BK525.out 2).trans rfl⟩ (fun hHeld => ?_)
           clear hK K
           refine norm_ (a' := ?_) ?_ ?_
           rotate_left
           ·show Act.put _ (some 133) _ = _
            simp only [Act.put, La_, Lb_, Lc_, i64_w, i32_w]
            rfl
           refine pure_ (i := 25) (N := some 134) (v := ?_) (a' := ?_) #[t_,t_,t_,t_,t_,t_,t_,t_,t_,t_,t_,t_,t_,t_,t_,t_,t_,t_,t_,t_,t_,t_,t_,t_,t_,t_,f_] rfl rfl (any_of HT_.out (by kernel_rfl)) (fun _ _ _ h => h) (Or.inl ⟨by rfl, ?_⟩) ?_ ?_
           rotate_left
           ·intro w'
            go_simp
            with_reducible rfl
           rotate_left
           ·simp only [Act.put, La_, Lb_, Lc_, i64_w, i32_w]
            rfl
           refine pure_ (i := 26) (N := some 135) (v := ?_) (a' := ?_) #[t_,t_,t_,t_,t_,t_,t_,t_,t_,t_,t_,t_,t_,t_,t_,t_,t_,t_,t_,t_,t_,t_,t_,t_,t_,t_,t_] rfl rfl (any_of HT_.out (by kernel_rfl)) (fun _ _ _ h => h) (Or.inl ⟨by rfl, ?_⟩) ?_ ?_
           rotate_left
           ·intro w'
            go_simp
            with_reducible rfl
           rotate_left
           ·simp only [Act.put, La_, Lb_, Lc_, i64_w, i32_w]
            rfl
           refine done_ (done_of HT_.out (by kernel_rfl)) ?_
           try go_wp2
           go_ret
           exact ⟨by first | rfl | (simp [errW_none, errW_some] <;> rfl) | (simp [*, errW_none, errW_some] <;> rfl), by repeat (first | (with_reducible first | exact HB.out | apply Pa_ | apply Pn_ | apply Pd_ | refine Bs_ ?_ GE525.out | refine Bs_ ?_ GE542.out | refine Bs_ ?_ GE549.out) | exact HB.out)⟩
          ·replace c81 := Bool.eq_false_iff.mpr c81
           subst c81
           have H1 : (none) = some r := by rw [if_neg (show ¬ (false = true) by decide)] at H; exact H
           clear H
           have H := H1
           clear H1
           exact absurd H (by simp)
         ·rw [if_neg c79] at H
          have c79b0 : (t572 == (wrap64 ((wrap64 (t578 + a4)) - t534))) = false := beq_eq_false_iff_ne.mpr c79
          have c79b1 : (t572 != (wrap64 ((wrap64 (t578 + a4)) - t534))) = true := bne_iff_ne.mpr c79
          exact absurd H (by simp)
        ·rw [if_neg c74] at H
         have c74b0 : (t565 == a4) = false := beq_eq_false_iff_ne.mpr c74
         have c74b1 : (t565 != a4) = true := bne_iff_ne.mpr c74
         exact absurd H (by simp)
       ·rw [if_neg c73] at H
        have c73b0 : (t566 == 0) = false := beq_eq_false_iff_ne.mpr c73
        have c73b1 : (t566 != 0) = true := bne_iff_ne.mpr c73
        exact absurd H (by simp)
      ·rw [if_neg c71] at H
       have c71b0 : (t548 == 0) = false := beq_eq_false_iff_ne.mpr c71
       have c71b1 : (t548 != 0) = true := bne_iff_ne.mpr c71
       obtain rfl := Option.some.inj H
       go_wp2
       go_ret
       exact ⟨by first | rfl | (simp [errW_none, errW_some] <;> rfl) | (simp [*, errW_none, errW_some] <;> rfl), by repeat (first | (with_reducible first | exact HB.out | apply Pa_ | apply Pn_ | apply Pd_ | refine Bs_ ?_ GE525.out | refine Bs_ ?_ GE542.out | refine Bs_ ?_ GE549.out) | exact HB.out)⟩

end Go.Proofs.Ytpeelfambaedkaa.P
