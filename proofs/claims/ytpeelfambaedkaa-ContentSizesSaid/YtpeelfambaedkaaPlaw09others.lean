-- Printed by a program of this session (inject.py) over the kit's print, with functions that were proved by hand in their places.
import Derived.Test.YtpeelfambaedkaaPK
import Derived.Test.YtpeelfambaedkaaPlaw09node
import Derived.Test.YtpeelfambaedkaaPref06Alike
namespace Go.Proofs.Ytpeelfambaedkaa.P
open Go.RowKit Go.Proofs.YtpeelfambaedkaaW.PrintWords Go.Proofs.YtpeelfambaedkaaW.PrintLast Go.Proofs.YtpeelfambaedkaaW.PrintMore
attribute [local go_sem] max2_int min2_int max_two min_two max_three min_three max_four min_four   -- for this text's walks alone
set_option linter.unusedVariables false
set_option linter.unusedSimpArgs false

/-! ### flagstonelaw09_others: function 22 -/
def flagstonelaw09_others.l0 : Nat → Int → Int → List (S59) → Int → Int → List (S59) → Int → Int → Option (Bool)
 | 0, _, _, _, _, _, _, _, _ => none
 | k + 1, x2, x7, x501000, x501001, x501002, x502000, x502001, x502002 => if x7 < (x501000.length : Int) then (if x7 = x2 then (flagstonelaw09_others.l0 k x2 (wrap64 (x7 + 1)) x501000 x501001 x501002 x502000 x502001 x502002) else (if 0 ≤ x7 then ((flagstonelaw09_node.f k ((rd_T59 x501000 x7).f0) ((rd_T59 x501000 x7).f1) ((rd_T59 x501000 x7).f2) ((rd_T59 x501000 x7).f3) ((rd_T59 x501000 x7).f4) ((rd_T59 x501000 x7).f5) ((rd_T59 x501000 x7).f6) ((rd_T59 x501000 x7).f7)).bind fun bt503 => (if x7 < (x502000.length : Int) then ((flagstonelaw09_node.f k ((rd_T59 x502000 x7).f0) ((rd_T59 x502000 x7).f1) ((rd_T59 x502000 x7).f2) ((rd_T59 x502000 x7).f3) ((rd_T59 x502000 x7).f4) ((rd_T59 x502000 x7).f5) ((rd_T59 x502000 x7).f6) ((rd_T59 x502000 x7).f7)).bind fun bt514 => ((flagstoneref06_Alike.f k bt503.1 bt503.2.1 bt503.2.2.1 bt503.2.2.2.1 bt503.2.2.2.2.1 bt503.2.2.2.2.2.1 bt503.2.2.2.2.2.2.1 bt503.2.2.2.2.2.2.2 bt514.1 bt514.2.1 bt514.2.2.1 bt514.2.2.2.1 bt514.2.2.2.2.1 bt514.2.2.2.2.2.1 bt514.2.2.2.2.2.2.1 bt514.2.2.2.2.2.2.2).bind fun t524 => (if t524 = true then (flagstonelaw09_others.l0 k x2 (wrap64 (x7 + 1)) x501000 x501001 x501002 x502000 x502001 x502002) else (some false)))) else (none))) else (none))) else (some true)
def flagstonelaw09_others.f (k : Nat) (l0_0 : List (S59)) (a0_1 : Int) (a0_2 : Int) (l1_0 : List (S59)) (a1_1 : Int) (a1_2 : Int) (a2 : Int) : Option (Bool) := if (l0_0.length : Int) = (l1_0.length : Int) then (flagstonelaw09_others.l0 k a2 0 l0_0 a0_1 a0_2 l1_0 a1_1 a1_2) else (some false)
theorem flagstonelaw09_others.mono_l : ∀ k, (∀ y0 y1 y2 y3 y4 y5 y6 y7, LeO (flagstonelaw09_others.l0 k y0 y1 y2 y3 y4 y5 y6 y7) (flagstonelaw09_others.l0 (k + 1) y0 y1 y2 y3 y4 y5 y6 y7))
 | 0 => fun _ _ _ _ _ _ _ _ r h => by simp [flagstonelaw09_others.l0] at h
 | k + 1 => by
  have ih0 := flagstonelaw09_others.mono_l k
  ·intro y0 y1 y2 y3 y4 y5 y6 y7
   unfold flagstonelaw09_others.l0
   repeat' first
   | (with_reducible exact ih0 _ _ _ _ _ _ _ _)
   | (with_reducible exact flagstonelaw09_node.mono _ _ _ _ _ _ _ _ _)
   | (with_reducible exact flagstoneref06_Alike.mono _ _ _ _ _ _ _ _ _ _ _ _ _ _ _ _ _)
   | (with_reducible exact LeO.refl _)
   | (with_reducible exact LeO.none _)
   | (with_reducible refine LeO.ite ?_ ?_)
   | (with_reducible refine LeO.bind ?_ (fun _ => ?_))
   | exact ih0 _ _ _ _ _ _ _ _
   | exact flagstonelaw09_node.mono _ _ _ _ _ _ _ _ _
   | exact flagstoneref06_Alike.mono _ _ _ _ _ _ _ _ _ _ _ _ _ _ _ _ _
   | exact LeO.none _
   | refine LeO.ite ?_ ?_
   | refine LeO.bind ?_ (fun _ => ?_)
theorem flagstonelaw09_others.mono : ∀ a0 a1 a2 a3 a4 a5 a6 k, LeO (flagstonelaw09_others.f k a0 a1 a2 a3 a4 a5 a6) (flagstonelaw09_others.f (k + 1) a0 a1 a2 a3 a4 a5 a6) := by
 intro a0 a1 a2 a3 a4 a5 a6 k
 have ih0 := flagstonelaw09_others.mono_l k
 unfold flagstonelaw09_others.f
 repeat' first
   | (with_reducible exact ih0 _ _ _ _ _ _ _ _)
   | (with_reducible exact flagstonelaw09_node.mono _ _ _ _ _ _ _ _ _)
   | (with_reducible exact flagstoneref06_Alike.mono _ _ _ _ _ _ _ _ _ _ _ _ _ _ _ _ _)
   | (with_reducible exact LeO.refl _)
   | (with_reducible exact LeO.none _)
   | (with_reducible refine LeO.ite ?_ ?_)
   | (with_reducible refine LeO.bind ?_ (fun _ => ?_))
   | exact ih0 _ _ _ _ _ _ _ _
   | exact flagstonelaw09_node.mono _ _ _ _ _ _ _ _ _
   | exact flagstoneref06_Alike.mono _ _ _ _ _ _ _ _ _ _ _ _ _ _ _ _ _
   | exact LeO.none _
   | refine LeO.ite ?_ ?_
   | refine LeO.bind ?_ (fun _ => ?_)
def flagstonelaw09_others.T6 : Bool × List (List Nat × List Nat) := (true, [([], []), ([], []), ([0, 1], [0, 1]), ([2], [2]), ([3], [3]), ([4, 3], [3, 4]), ([3], [3]), ([5, 6, 3], [3, 5, 6]), ([7, 3], [3, 7]), ([8, 3, 3], [3, 8]), ([3], [3]), ([10, 3], [3, 10]), ([3], [3]), ([11, 12, 3], [3, 11, 12]), ([13, 3], [3, 13]), ([14, 9, 3], [3, 14]), ([9, 15, 15, 3], [3, 9, 15]), ([16, 3], [3, 16]), ([3, 17], [3, 17])])
def flagstonelaw09_others.B6 : List Nat := [0, 0, 3, 7, 15, 31, 15, 127, 255, 511, 15, 1039, 15, 7183, 15375, 32767, 65535, 131071, 262143]
theorem flagstonelaw09_others.tab6 : rtab .any (opsOf Try.f22 6) = flagstonelaw09_others.T6 := by kernel_rfl
theorem flagstonelaw09_others.bits6 : waitsOk flagstonelaw09_others.T6.2 flagstonelaw09_others.B6 = true := by kernel_rfl
set_option maxHeartbeats 8000000 in
set_option maxRecDepth 100000 in
theorem flagstonelaw09_others.calls (k : Nat) (A0_0 : Option Addr) (c0_0 : Nat) (l0_0 : List (S59)) (a0_1 : Int) (a0_2 : Int) (A1_0 : Option Addr) (c1_0 : Nat) (l1_0 : List (S59)) (a1_1 : Int) (a1_2 : Int) (a2 : Int) (r : Bool) (w : World) (hr0_0 : Kd.C k59 w A0_0 l0_0.length l0_0) (hc0_0 : l0_0.length ≤ c0_0) (hr1_0 : Kd.C k59 w A1_0 l1_0.length l1_0) (hc1_0 : l1_0.length ≤ c1_0) (h : flagstonelaw09_others.f k l0_0 a0_1 a0_2 l1_0 a1_1 a1_2 a2 = some r) :
  Calls Try.prog 22 #[.agg #[.slice A0_0 l0_0.length c0_0, .int .i64 a0_1, .int .i64 a0_2], .agg #[.slice A1_0 l1_0.length c1_0, .int .i64 a1_1, .int .i64 a1_2], .int .i64 a2] w fun e w' => e = .returned (.bool r) ∧ Below w.heap.size w w' := by
 have hu24 := Try.underlying24
 have hu59 := Try.underlying59
 have HR0_0 := Am_ hr0_0
 have HC0_0 := Am_ hc0_0
 clear hr0_0 hc0_0
 have HR1_0 := Am_ hr1_0
 have HC1_0 := Am_ hc1_0
 clear hr1_0 hc1_0
 have HB := Am_ (Below.refl w.heap.size w)
 have H : (if (l0_0.length : Int) = (l1_0.length : Int) then (flagstonelaw09_others.l0 k a2 0 l0_0 a0_1 a0_2 l1_0 a1_1 a1_2) else (some false)) = some r := h
 clear h
 by_cases c4 : (l0_0.length : Int) = (l1_0.length : Int)
 ·rw [if_pos c4] at H
  have c4b0 : ((l0_0.length : Int) == (l1_0.length : Int)) = true := beq_iff_eq.mpr c4
  have c4b1 : ((l0_0.length : Int) != (l1_0.length : Int)) = false := bne_eq_false_iff_eq.mpr c4
  have c4b2 : (l0_0.length == l1_0.length) = true := by first | simpa using c4 | (simp at c4 ⊢; omega)
  clear c4
  have H' := Am_ H
  clear H
  go_enter Try.func22, Try.ntmps22
  go_wp2_with (first | ((with_reducible refine gate_dst (N := 3) rfl ?_); refine box_event ?hg (N := 3) ?hd (cs := #[.slice A0_0 l0_0.length c0_0, .int .i64 a0_1, .int .i64 a0_2]) (t := 24) ?hr ?_; (case hd => rfl); (case hg => rfl); (case hr => first | (go_simp; done) | (go_simp; rfl)); intro gb500 hg w5 hbox hb; have n0_ := Am_ (Be_ (by repeat (first | (with_reducible first | exact HB.out | apply Pa_ | apply Pn_ | apply Pd_) | exact HB.out)) hb); have n1_ := Am_ (hbox); have n2_ := Am_ ((by rw [hg]; exact (Bz_ (by repeat (first | (with_reducible first | exact HB.out | apply Pa_ | apply Pn_ | apply Pd_) | exact HB.out))) : w.heap.size ≤ gb500)); have n3_ := Am_ ((by rw [hg]; exact (Bz_ (by repeat (first | (with_reducible first | exact HB.out | apply Pa_ | apply Pn_ | apply Pd_) | exact HB.out))) : w.heap.size ≤ gb500)); clear HB; have HB := n0_; have BK500 := n1_; have GW500 := n2_; have GE500 := n3_; clear n0_ n1_ n2_ n3_; clear hb hbox hg) | ((with_reducible refine gate_dst (N := 4) rfl ?_); refine box_event ?hg (N := 4) ?hd (cs := #[.slice A1_0 l1_0.length c1_0, .int .i64 a1_1, .int .i64 a1_2]) (t := 24) ?hr ?_; (case hd => rfl); (case hg => rfl); (case hr => first | (go_simp; done) | (go_simp; rfl)); intro gb501 hg w6 hbox hb; have n0_ := Am_ (Bb_ (g := gb500) (o := .cells #[.slice A0_0 l0_0.length c0_0, .int .i64 a0_1, .int .i64 a0_2] 24 (0, 0)) (by (with_reducible repeat (first | refine Bn_ ?_ _ | refine Bd_ ?_ | refine Ba_ ?_ _)); exact BK500.out) hb); have n1_ := Am_ (Be_ (by repeat (first | (with_reducible first | exact HB.out | apply Pa_ | apply Pn_ | apply Pd_ | refine Bs_ ?_ GE500.out) | exact HB.out)) hb); have n2_ := Am_ (hbox); have n3_ := Am_ ((by rw [hg]; exact (Bz_ (by repeat (first | (with_reducible first | exact HB.out | apply Pa_ | apply Pn_ | apply Pd_ | refine Bs_ ?_ GE500.out) | exact HB.out))) : w.heap.size ≤ gb501)); have n4_ := Am_ ((by rw [hg]; exact (Bz_ (by repeat (first | (with_reducible first | exact HB.out | apply Pa_ | apply Pn_ | apply Pd_ | refine Bs_ ?_ GE500.out) | exact HB.out))) : w.heap.size ≤ gb501)); have n5_ := Am_ ((by rw [hg]; exact Nat.ne_of_lt (blk_lt (g := gb500) (o := .cells #[.slice A0_0 l0_0.length c0_0, .int .i64 a0_1, .int .i64 a0_2] 24 (0, 0)) (by (with_reducible repeat (first | refine Bn_ ?_ _ | refine Bd_ ?_ | refine Ba_ ?_ _)); exact BK500.out)) : gb500 ≠ gb501)); have n6_ := Am_ ((by rw [hg]; exact Nat.ne_of_gt (blk_lt (g := gb500) (o := .cells #[.slice A0_0 l0_0.length c0_0, .int .i64 a0_1, .int .i64 a0_2] 24 (0, 0)) (by (with_reducible repeat (first | refine Bn_ ?_ _ | refine Bd_ ?_ | refine Ba_ ?_ _)); exact BK500.out)) : gb501 ≠ gb500)); clear BK500; clear HB; have BK500 := n0_; have HB := n1_; have BK501 := n2_; have GW501 := n3_; have GE501 := n4_; have NB500_501 := n5_; have NB501_500 := n6_; clear n0_ n1_ n2_ n3_ n4_ n5_ n6_; clear hb hbox hg; have hnb7 := NB500_501.out; have hnc7 := NB501_500.out; have hcz8_0 : w6.cell? ⟨gb500, 0, none⟩ = some (.slice A0_0 l0_0.length c0_0) := (Bc_ BK500.out 0).trans rfl; have hcz8_1 : w6.cell? ⟨gb500, 1, none⟩ = some (.int .i64 a0_1) := (Bc_ BK500.out 1).trans rfl; have hcz8_2 : w6.cell? ⟨gb500, 2, none⟩ = some (.int .i64 a0_2) := (Bc_ BK500.out 2).trans rfl; have hfz8_0 := Bf_ BK500.out 0; have hfz8_1 := Bf_ BK500.out 1; have hfz8_2 := Bf_ BK500.out 2; have hcz9_0 : w6.cell? ⟨gb501, 0, none⟩ = some (.slice A1_0 l1_0.length c1_0) := (Bc_ BK501.out 0).trans rfl; have hcz9_1 : w6.cell? ⟨gb501, 1, none⟩ = some (.int .i64 a1_1) := (Bc_ BK501.out 1).trans rfl; have hcz9_2 : w6.cell? ⟨gb501, 2, none⟩ = some (.int .i64 a1_2) := (Bc_ BK501.out 2).trans rfl; have hfz9_0 := Bf_ BK501.out 0; have hfz9_1 := Bf_ BK501.out 1; have hfz9_2 := Bf_ BK501.out 2))
  go_loopg [7] k (fun kq v7 w' => ∃ (x7_1 : Int), v7 = .int .i64 x7_1 ∧ Aside0 (flagstonelaw09_others.l0 kq a2 x7_1 l0_0 a0_1 a0_2 l1_0 a1_1 a1_2 = some r) ∧ Aside0 (kq ≤ k) ∧ Aside0 (w'.heap[gb500]? = some (.cells #[(.slice A0_0 l0_0.length c0_0), .int .i64 a0_1, .int .i64 a0_2] 24 (0, 0))) ∧ Aside0 (w'.heap[gb501]? = some (.cells #[(.slice A1_0 l1_0.length c1_0), .int .i64 a1_1, .int .i64 a1_2] 24 (0, 0))) ∧ Aside0 (Below w.heap.size w w'))
  case atStart => exact ⟨(0), (by first | rfl | (simp; done) | (simp [*]; done)), H', ⟨Nat.le_refl _⟩, ⟨by (with_reducible repeat (first | refine Bn_ ?_ _ | refine Bd_ ?_ | refine Ba_ ?_ _)); exact BK500.out⟩, ⟨by (with_reducible repeat (first | refine Bn_ ?_ _ | refine Bd_ ?_ | refine Ba_ ?_ _)); exact BK501.out⟩, ⟨by repeat (first | (with_reducible first | exact HB.out | apply Pa_ | apply Pn_ | apply Pd_ | refine Bs_ ?_ GE500.out | refine Bs_ ?_ GE501.out) | exact HB.out)⟩⟩
  case round =>
   clear H'
   try clear c1
   try clear c2
   try clear p2
   try clear c4
   try clear c4b0
   try clear c4b1
   try clear c4b2
   try clear c7
   try clear hcz8_0
   try clear hcz8_1
   try clear hcz8_2
   try clear hcz9_0
   try clear hcz9_1
   try clear hcz9_2
   try clear hfz8_0
   try clear hfz8_1
   try clear hfz8_2
   try clear hfz9_0
   try clear hfz9_1
   try clear hfz9_2
   obtain ⟨x7_1, rfl, HA, HK1, BK500, BK501, HB⟩ := hrel
   cases gk with
   | zero => exact absurd HA.out (by simp [flagstonelaw09_others.l0])
   | succ k1 =>
    have H := HA.out
    clear HA
    simp only [flagstonelaw09_others.l0] at H
    by_cases c10 : x7_1 < (l0_0.length : Int)
    ·rw [if_pos c10] at H
     have c10b0 : decide (x7_1 < (l0_0.length : Int)) = true := Dt_ c10
     clear c10
     by_cases c11 : x7_1 = a2
     ·rw [if_pos c11] at H
      have c11b0 : (x7_1 == a2) = true := beq_iff_eq.mpr c11
      have c11b1 : (x7_1 != a2) = false := bne_eq_false_iff_eq.mpr c11
      clear c11
      have H' := Am_ H
      clear H
      have hnb12 := NB500_501.out
      have hnc12 := NB501_500.out
      have hcz13_0 : wr.cell? ⟨gb500, 0, none⟩ = some (.slice A0_0 l0_0.length c0_0) := (Bc_ BK500.out 0).trans rfl
      have hcz13_1 : wr.cell? ⟨gb500, 1, none⟩ = some (.int .i64 a0_1) := (Bc_ BK500.out 1).trans rfl
      have hcz13_2 : wr.cell? ⟨gb500, 2, none⟩ = some (.int .i64 a0_2) := (Bc_ BK500.out 2).trans rfl
      have hfz13_0 := Bf_ BK500.out 0
      have hfz13_1 := Bf_ BK500.out 1
      have hfz13_2 := Bf_ BK500.out 2
      try go_wp2
      have n0_ := Am_ (Bd_ BK500.out)
      have n1_ := Am_ (Bd_ BK501.out)
      have n2_ := Am_ (Pd_ HB.out)
      clear BK500
      clear BK501
      clear HB
      have BK500 := n0_
      have BK501 := n1_
      have HB := n2_
      clear n0_ n1_ n2_
      refine start_ (n := 19) (S := fun w' => True) (ds := []) #[f_,f_,f_,f_,f_,f_,f_,f_,f_,f_,f_,f_,f_,f_,f_,f_,f_,f_,f_] (by kernel_rfl) rfl rfl trivial (fun hHeld => ?_); refine with_tabW flagstonelaw09_others.tab6 flagstonelaw09_others.bits6 (fun HT_ HW_ => ?_)
      generalize wr.drew = w14 at BK500 BK501 HB hHeld ⊢
      refine pure_ (i := 0) (N := some 22) (v := ?_) (a' := ?_) #[t_,f_,f_,f_,f_,f_,f_,f_,f_,f_,f_,f_,f_,f_,f_,f_,f_,f_,f_] rfl rfl (any_of HT_.out (by kernel_rfl)) (fun _ _ _ h => h) (Or.inl ⟨by rfl, ?_⟩) ?_ ?_
      rotate_left
      ·intro w'
       go_simp
       with_reducible rfl
      rotate_left
      ·simp only [Act.put, La_, Lb_, Lc_, i64_w, i32_w]
       rfl
      refine pure_ (i := 1) (N := some 23) (v := ?_) (a' := ?_) #[t_,t_,f_,f_,f_,f_,f_,f_,f_,f_,f_,f_,f_,f_,f_,f_,f_,f_,f_] rfl rfl (any_of HT_.out (by kernel_rfl)) (fun _ _ _ h => h) (Or.inl ⟨by rfl, ?_⟩) ?_ ?_
      rotate_left
      ·intro w'
       go_simp
       with_reducible rfl
      rotate_left
      ·simp only [Act.put, La_, Lb_, Lc_, i64_w, i32_w]
       rfl
      refine pure_ (i := 2) (N := some 24) (v := ?_) (a' := ?_) #[t_,t_,t_,f_,f_,f_,f_,f_,f_,f_,f_,f_,f_,f_,f_,f_,f_,f_,f_] rfl rfl (any_of HT_.out (by kernel_rfl)) (fun _ _ _ h => h) (Or.inl ⟨by rfl, ?_⟩) ?_ ?_
      rotate_left
      ·intro w'
       go_simp
       with_reducible rfl
      rotate_left
      ·simp only [Act.put, La_, Lb_, Lc_, i64_w, i32_w]
       rfl
      refine pure_ (i := 3) (N := some 25) (v := ?_) (a' := ?_) #[t_,t_,t_,t_,f_,f_,f_,f_,f_,f_,f_,f_,f_,f_,f_,f_,f_,f_,f_] rfl rfl (any_of HT_.out (by kernel_rfl)) (fun _ _ _ h => h) (Or.inl ⟨by rfl, ?_⟩) ?_ ?_
      rotate_left
      ·intro w'
       go_simp
       with_reducible rfl
      rotate_left
      ·simp only [Act.put, La_, Lb_, Lc_, i64_w, i32_w]
       rfl
      refine pure_ (i := 4) (N := some 26) (v := undef) (a' := ?_) #[t_,t_,t_,t_,t_,f_,f_,f_,f_,f_,f_,f_,f_,f_,f_,f_,f_,f_,f_] rfl rfl (any_of HT_.out (by kernel_rfl)) (fun _ _ _ h => h) (Or.inr ⟨by rfl, rfl⟩) ?_ ?_
      rotate_left
      ·simp only [Act.put, La_, Lb_, Lc_, i64_w, i32_w]
       rfl
      refine pure_ (i := 5) (N := some 27) (v := undef) (a' := ?_) #[t_,t_,t_,t_,t_,t_,f_,f_,f_,f_,f_,f_,f_,f_,f_,f_,f_,f_,f_] rfl rfl (any_of HT_.out (by kernel_rfl)) (fun _ _ _ h => h) (Or.inr ⟨by rfl, rfl⟩) ?_ ?_
      rotate_left
      ·simp only [Act.put, La_, Lb_, Lc_, i64_w, i32_w]
       rfl
      refine pure_ (i := 6) (N := some 28) (v := undef) (a' := ?_) #[t_,t_,t_,t_,t_,t_,t_,f_,f_,f_,f_,f_,f_,f_,f_,f_,f_,f_,f_] rfl rfl (any_of HT_.out (by kernel_rfl)) (fun _ _ _ h => h) (Or.inr ⟨by rfl, rfl⟩) ?_ ?_
      rotate_left
      ·simp only [Act.put, La_, Lb_, Lc_, i64_w, i32_w]
       rfl
      refine pure_ (i := 7) (N := some 29) (v := undef) (a' := ?_) #[t_,t_,t_,t_,t_,t_,t_,t_,f_,f_,f_,f_,f_,f_,f_,f_,f_,f_,f_] rfl rfl (any_of HT_.out (by kernel_rfl)) (fun _ _ _ h => h) (Or.inr ⟨by rfl, rfl⟩) ?_ ?_
      rotate_left
      ·simp only [Act.put, La_, Lb_, Lc_, i64_w, i32_w]
       rfl
      refine pure_ (i := 8) (N := some 30) (v := undef) (a' := ?_) #[t_,t_,t_,t_,t_,t_,t_,t_,t_,f_,f_,f_,f_,f_,f_,f_,f_,f_,f_] rfl rfl (any_of HT_.out (by kernel_rfl)) (fun _ _ _ h => h) (Or.inr ⟨by rfl, rfl⟩) ?_ ?_
      rotate_left
      ·simp only [Act.put, La_, Lb_, Lc_, i64_w, i32_w]
       rfl
      refine pure_ (i := 9) (N := some 31) (v := undef) (a' := ?_) #[t_,t_,t_,t_,t_,t_,t_,t_,t_,t_,f_,f_,f_,f_,f_,f_,f_,f_,f_] rfl rfl (any_of HT_.out (by kernel_rfl)) (fun _ _ _ h => h) (Or.inr ⟨by rfl, rfl⟩) ?_ ?_
      rotate_left
      ·simp only [Act.put, La_, Lb_, Lc_, i64_w, i32_w]
       rfl
      refine pure_ (i := 10) (N := some 32) (v := undef) (a' := ?_) #[t_,t_,t_,t_,t_,t_,t_,t_,t_,t_,t_,f_,f_,f_,f_,f_,f_,f_,f_] rfl rfl (any_of HT_.out (by kernel_rfl)) (fun _ _ _ h => h) (Or.inr ⟨by rfl, rfl⟩) ?_ ?_
      rotate_left
      ·simp only [Act.put, La_, Lb_, Lc_, i64_w, i32_w]
       rfl
      refine pure_ (i := 11) (N := some 33) (v := undef) (a' := ?_) #[t_,t_,t_,t_,t_,t_,t_,t_,t_,t_,t_,t_,f_,f_,f_,f_,f_,f_,f_] rfl rfl (any_of HT_.out (by kernel_rfl)) (fun _ _ _ h => h) (Or.inr ⟨by rfl, rfl⟩) ?_ ?_
      rotate_left
      ·simp only [Act.put, La_, Lb_, Lc_, i64_w, i32_w]
       rfl
      refine pure_ (i := 12) (N := some 34) (v := undef) (a' := ?_) #[t_,t_,t_,t_,t_,t_,t_,t_,t_,t_,t_,t_,t_,f_,f_,f_,f_,f_,f_] rfl rfl (any_of HT_.out (by kernel_rfl)) (fun _ _ _ h => h) (Or.inr ⟨by rfl, rfl⟩) ?_ ?_
      rotate_left
      ·simp only [Act.put, La_, Lb_, Lc_, i64_w, i32_w]
       rfl
      refine pure_ (i := 13) (N := some 35) (v := undef) (a' := ?_) #[t_,t_,t_,t_,t_,t_,t_,t_,t_,t_,t_,t_,t_,t_,f_,f_,f_,f_,f_] rfl rfl (any_of HT_.out (by kernel_rfl)) (fun _ _ _ h => h) (Or.inr ⟨by rfl, rfl⟩) ?_ ?_
      rotate_left
      ·simp only [Act.put, La_, Lb_, Lc_, i64_w, i32_w]
       rfl
      refine pure_ (i := 14) (N := some 36) (v := undef) (a' := ?_) #[t_,t_,t_,t_,t_,t_,t_,t_,t_,t_,t_,t_,t_,t_,t_,f_,f_,f_,f_] rfl rfl (any_of HT_.out (by kernel_rfl)) (fun _ _ _ h => h) (Or.inr ⟨by rfl, rfl⟩) ?_ ?_
      rotate_left
      ·simp only [Act.put, La_, Lb_, Lc_, i64_w, i32_w]
       rfl
      refine pure_ (i := 15) (N := some 37) (v := undef) (a' := ?_) #[t_,t_,t_,t_,t_,t_,t_,t_,t_,t_,t_,t_,t_,t_,t_,t_,f_,f_,f_] rfl rfl (any_of HT_.out (by kernel_rfl)) (fun _ _ _ h => h) (Or.inr ⟨by rfl, rfl⟩) ?_ ?_
      rotate_left
      ·simp only [Act.put, La_, Lb_, Lc_, i64_w, i32_w]
       rfl
      refine pure_ (i := 16) (N := some 38) (v := undef) (a' := ?_) #[t_,t_,t_,t_,t_,t_,t_,t_,t_,t_,t_,t_,t_,t_,t_,t_,t_,f_,f_] rfl rfl (any_of HT_.out (by kernel_rfl)) (fun _ _ _ h => h) (Or.inr ⟨by rfl, rfl⟩) ?_ ?_
      rotate_left
      ·simp only [Act.put, La_, Lb_, Lc_, i64_w, i32_w]
       rfl
      refine pure_ (i := 17) (N := some 39) (v := undef) (a' := ?_) #[t_,t_,t_,t_,t_,t_,t_,t_,t_,t_,t_,t_,t_,t_,t_,t_,t_,t_,f_] rfl rfl (any_of HT_.out (by kernel_rfl)) (fun _ _ _ h => h) (Or.inr ⟨by rfl, rfl⟩) ?_ ?_
      rotate_left
      ·simp only [Act.put, La_, Lb_, Lc_, i64_w, i32_w]
       rfl
      refine pure_ (i := 18) (N := some 40) (v := ?_) (a' := ?_) #[t_,t_,t_,t_,t_,t_,t_,t_,t_,t_,t_,t_,t_,t_,t_,t_,t_,t_,t_] rfl rfl (any_of HT_.out (by kernel_rfl)) (fun _ _ _ h => h) (Or.inl ⟨by rfl, ?_⟩) ?_ ?_
      rotate_left
      ·intro w'
       go_simp
       with_reducible rfl
      rotate_left
      ·simp only [Act.put, La_, Lb_, Lc_, i64_w, i32_w]
       rfl
      refine done_ (done_of HT_.out (by kernel_rfl)) ?_
      try go_wp2
      go_roundg k1
      case measure => have := HK1.out; omega
      case rel => exact ⟨(wrap64 (x7_1 + 1)), (by first | rfl | (simp; done) | (simp [*]; done)), H', ⟨by have := HK1.out; omega⟩, ⟨by (with_reducible repeat (first | refine Bn_ ?_ _ | refine Bd_ ?_ | refine Ba_ ?_ _)); exact BK500.out⟩, ⟨by (with_reducible repeat (first | refine Bn_ ?_ _ | refine Bd_ ?_ | refine Ba_ ?_ _)); exact BK501.out⟩, ⟨by repeat (first | (with_reducible first | exact HB.out | apply Pa_ | apply Pn_ | apply Pd_ | refine Bs_ ?_ GE500.out | refine Bs_ ?_ GE501.out) | exact HB.out)⟩⟩
     ·rw [if_neg c11] at H
      have c11b0 : (x7_1 == a2) = false := beq_eq_false_iff_ne.mpr c11
      have c11b1 : (x7_1 != a2) = true := bne_iff_ne.mpr c11
      by_cases c15 : 0 ≤ x7_1
      ·rw [if_pos c15] at H
       have c15b0 : decide (0 ≤ x7_1) = true := Dt_ c15
       clear c15
       replace H := Option.bind_eq_some_iff.mp H
       obtain ⟨⟨t503, t504, t505, t506, t507, t508, t509, t510⟩, A160, H⟩ := H
       replace H : (if x7_1 < (l1_0.length : Int) then ((flagstonelaw09_node.f k1 ((rd_T59 l1_0 x7_1).f0) ((rd_T59 l1_0 x7_1).f1) ((rd_T59 l1_0 x7_1).f2) ((rd_T59 l1_0 x7_1).f3) ((rd_T59 l1_0 x7_1).f4) ((rd_T59 l1_0 x7_1).f5) ((rd_T59 l1_0 x7_1).f6) ((rd_T59 l1_0 x7_1).f7)).bind fun bt514 => ((flagstoneref06_Alike.f k1 t503 t504 t505 t506 t507 t508 t509 t510 bt514.1 bt514.2.1 bt514.2.2.1 bt514.2.2.2.1 bt514.2.2.2.2.1 bt514.2.2.2.2.2.1 bt514.2.2.2.2.2.2.1 bt514.2.2.2.2.2.2.2).bind fun t524 => (if t524 = true then (flagstonelaw09_others.l0 k1 a2 (wrap64 (x7_1 + 1)) l0_0 a0_1 a0_2 l1_0 a1_1 a1_2) else (some false)))) else (none)) = some r := H
       have A16 := Am_ A160
       clear A160
       by_cases c17 : x7_1 < (l1_0.length : Int)
       ·rw [if_pos c17] at H
        have c17b0 : decide (x7_1 < (l1_0.length : Int)) = true := Dt_ c17
        clear c17
        replace H := Option.bind_eq_some_iff.mp H
        obtain ⟨⟨t514, t515, t516, t517, t518, t519, t520, t521⟩, A180, H⟩ := H
        replace H : ((flagstoneref06_Alike.f k1 t503 t504 t505 t506 t507 t508 t509 t510 t514 t515 t516 t517 t518 t519 t520 t521).bind fun t524 => (if t524 = true then (flagstonelaw09_others.l0 k1 a2 (wrap64 (x7_1 + 1)) l0_0 a0_1 a0_2 l1_0 a1_1 a1_2) else (some false))) = some r := H
        have A18 := Am_ A180
        clear A180
        replace H := Option.bind_eq_some_iff.mp H
        obtain ⟨t524, A190, H⟩ := H
        replace H : (if t524 = true then (flagstonelaw09_others.l0 k1 a2 (wrap64 (x7_1 + 1)) l0_0 a0_1 a0_2 l1_0 a1_1 a1_2) else (some false)) = some r := H
        have A19 := Am_ A190
        clear A190
        by_cases c20 : t524 = true
        ·subst c20
         have H1 : (flagstonelaw09_others.l0 k1 a2 (wrap64 (x7_1 + 1)) l0_0 a0_1 a0_2 l1_0 a1_1 a1_2) = some r := by rw [if_pos rfl] at H; exact H
         clear H
         have H := H1
         clear H1
         have H' := Am_ H
         clear H
         have hnb21 := NB500_501.out
         have hnc21 := NB501_500.out
         have hcz22_0 : wr.cell? ⟨gb500, 0, none⟩ = some (.slice A0_0 l0_0.length c0_0) := (Bc_ BK500.out 0).trans rfl
         have hcz22_1 : wr.cell? ⟨gb500, 1, none⟩ = some (.int .i64 a0_1) := (Bc_ BK500.out 1).trans rfl
         have hcz22_2 : wr.cell? ⟨gb500, 2, none⟩ = some (.int .i64 a0_2) := (Bc_ BK500.out 2).trans rfl
         have hfz22_0 := Bf_ BK500.out 0
         have hfz22_1 := Bf_ BK500.out 1
         have hfz22_2 := Bf_ BK500.out 2
         try go_wp2
         have n0_ := Am_ (Bd_ BK500.out)
         have n1_ := Am_ (Bd_ BK501.out)
         have n2_ := Am_ (Pd_ HB.out)
         clear BK500
         clear BK501
         clear HB
         have BK500 := n0_
         have BK501 := n1_
         have HB := n2_
         clear n0_ n1_ n2_
         have p502 : 0 ≤ (x7_1 : Int) := Ot_ (by first | (with_reducible assumption) | assumption)
         have q502 : x7_1 < (l0_0.length : Int) := Ot_ (by first | (with_reducible assumption) | assumption)
         obtain ⟨ad502, A502_7, c502_7, e502, hx502_0, hx502_1, hx502_2, hx502_3, hx502_4, hx502_5, hx502_6, hx502_7, hl502_7, hi502_7⟩ := at_T59 HR0_0.out x7_1 p502 q502
         have hw502_7 := hx502_7
         have hw502_6 := hx502_6
         have hw502_5 := hx502_5
         have hw502_4 := hx502_4
         have hw502_3 := hx502_3
         have hw502_2 := hx502_2
         have hw502_1 := hx502_1
         have hw502_0 := hx502_0
         cases e502
         replace hx502_0 := (HB.out.cell (Bl_ w _ hx502_0)).trans hx502_0
         replace hx502_1 := (HB.out.cell (Bl_ w _ hx502_1)).trans hx502_1
         replace hx502_2 := (HB.out.cell (Bl_ w _ hx502_2)).trans hx502_2
         replace hx502_3 := (HB.out.cell (Bl_ w _ hx502_3)).trans hx502_3
         replace hx502_4 := (HB.out.cell (Bl_ w _ hx502_4)).trans hx502_4
         replace hx502_5 := (HB.out.cell (Bl_ w _ hx502_5)).trans hx502_5
         replace hx502_6 := (HB.out.cell (Bl_ w _ hx502_6)).trans hx502_6
         replace hx502_7 := (HB.out.cell (Bl_ w _ hx502_7)).trans hx502_7
         have HR502_7 := Am_ hi502_7
         have HC502_7 := Am_ hl502_7
         clear hi502_7 hl502_7
         replace p502 := eq_true p502
         replace q502 := eq_true q502
         have p513 : 0 ≤ (x7_1 : Int) := Ot_ (by first | (with_reducible assumption) | assumption)
         have q513 : x7_1 < (l1_0.length : Int) := Ot_ (by first | (with_reducible assumption) | assumption)
         obtain ⟨ad513, A513_7, c513_7, e513, hx513_0, hx513_1, hx513_2, hx513_3, hx513_4, hx513_5, hx513_6, hx513_7, hl513_7, hi513_7⟩ := at_T59 HR1_0.out x7_1 p513 q513
         have hw513_7 := hx513_7
         have hw513_6 := hx513_6
         have hw513_5 := hx513_5
         have hw513_4 := hx513_4
         have hw513_3 := hx513_3
         have hw513_2 := hx513_2
         have hw513_1 := hx513_1
         have hw513_0 := hx513_0
         cases e513
         replace hx513_0 := (HB.out.cell (Bl_ w _ hx513_0)).trans hx513_0
         replace hx513_1 := (HB.out.cell (Bl_ w _ hx513_1)).trans hx513_1
         replace hx513_2 := (HB.out.cell (Bl_ w _ hx513_2)).trans hx513_2
         replace hx513_3 := (HB.out.cell (Bl_ w _ hx513_3)).trans hx513_3
         replace hx513_4 := (HB.out.cell (Bl_ w _ hx513_4)).trans hx513_4
         replace hx513_5 := (HB.out.cell (Bl_ w _ hx513_5)).trans hx513_5
         replace hx513_6 := (HB.out.cell (Bl_ w _ hx513_6)).trans hx513_6
         replace hx513_7 := (HB.out.cell (Bl_ w _ hx513_7)).trans hx513_7
         have HR513_7 := Am_ hi513_7
         have HC513_7 := Am_ hl513_7
         clear hi513_7 hl513_7
         replace p513 := eq_true p513
         replace q513 := eq_true q513
         refine start_ (n := 19) (S := fun w' => w'.cell? ⟨gb500, 0, none⟩ = some (.slice (some ad502) l0_0.length c0_0) ∧ w'.cell? ⟨gb500, 1, none⟩ = some (.int .i64 a0_1) ∧ w'.cell? ⟨gb500, 2, none⟩ = some (.int .i64 a0_2) ∧ w'.cell? ⟨gb501, 0, none⟩ = some (.slice (some ad513) l1_0.length c1_0) ∧ w'.cell? ⟨gb501, 1, none⟩ = some (.int .i64 a1_1) ∧ w'.cell? ⟨gb501, 2, none⟩ = some (.int .i64 a1_2) ∧ w'.cell? (ad502.add ((x7_1).toNat * 8)) = some (.int .i64 ((rd_T59 l0_0 x7_1).f0)) ∧ w'.cell? ⟨(ad502.add ((x7_1).toNat * 8)).block, (ad502.add ((x7_1).toNat * 8)).off + 1, none⟩ = some (.int .i64 ((rd_T59 l0_0 x7_1).f1)) ∧ w'.cell? ⟨(ad502.add ((x7_1).toNat * 8)).block, (ad502.add ((x7_1).toNat * 8)).off + 2, none⟩ = some (.int .i64 ((rd_T59 l0_0 x7_1).f2)) ∧ w'.cell? ⟨(ad502.add ((x7_1).toNat * 8)).block, (ad502.add ((x7_1).toNat * 8)).off + 3, none⟩ = some (.int .i64 ((rd_T59 l0_0 x7_1).f3)) ∧ w'.cell? ⟨(ad502.add ((x7_1).toNat * 8)).block, (ad502.add ((x7_1).toNat * 8)).off + 4, none⟩ = some (.int .i64 ((rd_T59 l0_0 x7_1).f4)) ∧ w'.cell? ⟨(ad502.add ((x7_1).toNat * 8)).block, (ad502.add ((x7_1).toNat * 8)).off + 5, none⟩ = some (.int .i64 ((rd_T59 l0_0 x7_1).f5)) ∧ w'.cell? ⟨(ad502.add ((x7_1).toNat * 8)).block, (ad502.add ((x7_1).toNat * 8)).off + 6, none⟩ = some (.string ((rd_T59 l0_0 x7_1).f6)) ∧ w'.cell? ⟨(ad502.add ((x7_1).toNat * 8)).block, (ad502.add ((x7_1).toNat * 8)).off + 7, none⟩ = some (.slice A502_7 ((rd_T59 l0_0 x7_1).f7).length c502_7) ∧ w'.cell? (ad513.add ((x7_1).toNat * 8)) = some (.int .i64 ((rd_T59 l1_0 x7_1).f0)) ∧ w'.cell? ⟨(ad513.add ((x7_1).toNat * 8)).block, (ad513.add ((x7_1).toNat * 8)).off + 1, none⟩ = some (.int .i64 ((rd_T59 l1_0 x7_1).f1)) ∧ w'.cell? ⟨(ad513.add ((x7_1).toNat * 8)).block, (ad513.add ((x7_1).toNat * 8)).off + 2, none⟩ = some (.int .i64 ((rd_T59 l1_0 x7_1).f2)) ∧ w'.cell? ⟨(ad513.add ((x7_1).toNat * 8)).block, (ad513.add ((x7_1).toNat * 8)).off + 3, none⟩ = some (.int .i64 ((rd_T59 l1_0 x7_1).f3)) ∧ w'.cell? ⟨(ad513.add ((x7_1).toNat * 8)).block, (ad513.add ((x7_1).toNat * 8)).off + 4, none⟩ = some (.int .i64 ((rd_T59 l1_0 x7_1).f4)) ∧ w'.cell? ⟨(ad513.add ((x7_1).toNat * 8)).block, (ad513.add ((x7_1).toNat * 8)).off + 5, none⟩ = some (.int .i64 ((rd_T59 l1_0 x7_1).f5)) ∧ w'.cell? ⟨(ad513.add ((x7_1).toNat * 8)).block, (ad513.add ((x7_1).toNat * 8)).off + 6, none⟩ = some (.string ((rd_T59 l1_0 x7_1).f6)) ∧ w'.cell? ⟨(ad513.add ((x7_1).toNat * 8)).block, (ad513.add ((x7_1).toNat * 8)).off + 7, none⟩ = some (.slice A513_7 ((rd_T59 l1_0 x7_1).f7).length c513_7)) (ds := []) #[f_,f_,f_,f_,f_,f_,f_,f_,f_,f_,f_,f_,f_,f_,f_,f_,f_,f_,f_] (by kernel_rfl) rfl rfl ⟨(Bc_ BK500.out 0).trans rfl, (Bc_ BK500.out 1).trans rfl, (Bc_ BK500.out 2).trans rfl, (Bc_ BK501.out 0).trans rfl, (Bc_ BK501.out 1).trans rfl, (Bc_ BK501.out 2).trans rfl, ((HB.out.cell (Bl_ w _ hw502_0)).trans hw502_0), ((HB.out.cell (Bl_ w _ hw502_1)).trans hw502_1), ((HB.out.cell (Bl_ w _ hw502_2)).trans hw502_2), ((HB.out.cell (Bl_ w _ hw502_3)).trans hw502_3), ((HB.out.cell (Bl_ w _ hw502_4)).trans hw502_4), ((HB.out.cell (Bl_ w _ hw502_5)).trans hw502_5), ((HB.out.cell (Bl_ w _ hw502_6)).trans hw502_6), ((HB.out.cell (Bl_ w _ hw502_7)).trans hw502_7), ((HB.out.cell (Bl_ w _ hw513_0)).trans hw513_0), ((HB.out.cell (Bl_ w _ hw513_1)).trans hw513_1), ((HB.out.cell (Bl_ w _ hw513_2)).trans hw513_2), ((HB.out.cell (Bl_ w _ hw513_3)).trans hw513_3), ((HB.out.cell (Bl_ w _ hw513_4)).trans hw513_4), ((HB.out.cell (Bl_ w _ hw513_5)).trans hw513_5), ((HB.out.cell (Bl_ w _ hw513_6)).trans hw513_6), ((HB.out.cell (Bl_ w _ hw513_7)).trans hw513_7)⟩ (fun hHeld => ?_); refine with_tabW flagstonelaw09_others.tab6 flagstonelaw09_others.bits6 (fun HT_ HW_ => ?_)
         generalize wr.drew = w23 at BK500 BK501 HB HR502_7 HR513_7 hx502_0 hx502_1 hx502_2 hx502_3 hx502_4 hx502_5 hx502_6 hx502_7 hx513_0 hx513_1 hx513_2 hx513_3 hx513_4 hx513_5 hx513_6 hx513_7 hHeld ⊢
         refine pure_ (i := 0) (N := some 22) (v := ?_) (a' := ?_) #[t_,f_,f_,f_,f_,f_,f_,f_,f_,f_,f_,f_,f_,f_,f_,f_,f_,f_,f_] rfl rfl (any_of HT_.out (by kernel_rfl)) (fun _ _ _ h => h) (Or.inl ⟨by rfl, ?_⟩) ?_ ?_
         rotate_left
         ·intro w'
          go_simp
          with_reducible rfl
         rotate_left
         ·simp only [Act.put, La_, Lb_, Lc_, i64_w, i32_w]
          rfl
         refine pure_ (i := 1) (N := some 23) (v := ?_) (a' := ?_) #[t_,t_,f_,f_,f_,f_,f_,f_,f_,f_,f_,f_,f_,f_,f_,f_,f_,f_,f_] rfl rfl (any_of HT_.out (by kernel_rfl)) (fun _ _ _ h => h) (Or.inl ⟨by rfl, ?_⟩) ?_ ?_
         rotate_left
         ·intro w'
          go_simp
          with_reducible rfl
         rotate_left
         ·simp only [Act.put, La_, Lb_, Lc_, i64_w, i32_w]
          rfl
         refine pure_ (i := 2) (N := some 24) (v := ?_) (a' := ?_) #[t_,t_,t_,f_,f_,f_,f_,f_,f_,f_,f_,f_,f_,f_,f_,f_,f_,f_,f_] rfl rfl (any_of HT_.out (by kernel_rfl)) (fun _ _ _ h => h) (Or.inl ⟨by rfl, ?_⟩) ?_ ?_
         rotate_left
         ·intro w'
          go_simp
          with_reducible rfl
         rotate_left
         ·simp only [Act.put, La_, Lb_, Lc_, i64_w, i32_w]
          rfl
         refine pure_ (i := 3) (N := some 25) (v := ?_) (a' := ?_) #[t_,t_,t_,t_,f_,f_,f_,f_,f_,f_,f_,f_,f_,f_,f_,f_,f_,f_,f_] rfl rfl (any_of HT_.out (by kernel_rfl)) (fun _ _ _ h => h) (Or.inl ⟨by rfl, ?_⟩) ?_ ?_
         rotate_left
         ·intro w'
          go_simp
          with_reducible rfl
         rotate_left
         ·simp only [Act.put, La_, Lb_, Lc_, i64_w, i32_w]
          rfl
         refine pure_ (i := 4) (N := some 26) (v := ?_) (a' := ?_) #[t_,t_,t_,t_,t_,f_,f_,f_,f_,f_,f_,f_,f_,f_,f_,f_,f_,f_,f_] rfl rfl (any_of HT_.out (by kernel_rfl)) (fun _ _ _ h => h) (Or.inl ⟨by rfl, ?_⟩) ?_ ?_
         rotate_left
         ·intro w'
          go_simp
          with_reducible rfl
         rotate_left
         ·simp only [Act.put, La_, Lb_, Lc_, i64_w, i32_w]
          rfl
         refine pure_ (i := 6) (N := some 28) (v := ?_) (a' := ?_) #[t_,t_,t_,t_,t_,f_,t_,f_,f_,f_,f_,f_,f_,f_,f_,f_,f_,f_,f_] rfl rfl (any_of HT_.out (by kernel_rfl)) (fun _ _ _ h => h) (Or.inl ⟨by rfl, ?_⟩) ?_ ?_
         rotate_left
         ·intro w'
          go_simp
          with_reducible rfl
         rotate_left
         ·simp only [Act.put, La_, Lb_, Lc_, i64_w, i32_w]
          rfl
         refine pure_ (i := 10) (N := some 32) (v := ?_) (a' := ?_) #[t_,t_,t_,t_,t_,f_,t_,f_,f_,f_,t_,f_,f_,f_,f_,f_,f_,f_,f_] rfl rfl (any_of HT_.out (by kernel_rfl)) (fun _ _ _ h => h) (Or.inl ⟨by rfl, ?_⟩) ?_ ?_
         rotate_left
         ·intro w'
          go_simp
          with_reducible rfl
         rotate_left
         ·simp only [Act.put, La_, Lb_, Lc_, i64_w, i32_w]
          rfl
         refine pure_ (i := 12) (N := some 34) (v := ?_) (a' := ?_) #[t_,t_,t_,t_,t_,f_,t_,f_,f_,f_,t_,f_,t_,f_,f_,f_,f_,f_,f_] rfl rfl (any_of HT_.out (by kernel_rfl)) (fun _ _ _ h => h) (Or.inl ⟨by rfl, ?_⟩) ?_ ?_
         rotate_left
         ·intro w'
          go_simp
          with_reducible rfl
         rotate_left
         ·simp only [Act.put, La_, Lb_, Lc_, i64_w, i32_w]
          rfl
         refine take_ (i := 5) (N := some 27) (v := ?_) (a' := ?_) #[t_,t_,t_,t_,t_,t_,t_,f_,f_,f_,t_,f_,t_,f_,f_,f_,f_,f_,f_] rfl rfl (take_ofW HT_.out HW_.out (by kernel_rfl)) (fun _ _ _ h => h) (Or.inl ⟨by rfl, ?_⟩) hHeld ?_ ?_
         rotate_left
         ·rintro w' ⟨s0, s1, s2, s3, s4, s5, s6, s7, s8, s9, s10, s11, s12, s13, s14, s15, s16, s17, s18, s19, s20, s21⟩
          go_simp
          with_reducible rfl
         rotate_left
         ·simp only [Act.put, La_, Lb_, Lc_, i64_w, i32_w]
          rfl
         refine pure_ (i := 7) (N := some 29) (v := ?_) (a' := ?_) #[t_,t_,t_,t_,t_,t_,t_,t_,f_,f_,t_,f_,t_,f_,f_,f_,f_,f_,f_] rfl rfl (any_of HT_.out (by kernel_rfl)) (fun _ _ _ h => h) (Or.inl ⟨by rfl, ?_⟩) ?_ ?_
         rotate_left
         ·intro w'
          go_simp
          with_reducible rfl
         rotate_left
         ·simp only [Act.put, La_, Lb_, Lc_, i64_w, i32_w]
          rfl
         refine take_ (i := 8) (N := some 30) (v := ?_) (a' := ?_) #[t_,t_,t_,t_,t_,t_,t_,t_,t_,f_,t_,f_,t_,f_,f_,f_,f_,f_,f_] rfl rfl (take_ofW HT_.out HW_.out (by kernel_rfl)) (fun _ _ _ h => h) (Or.inl ⟨by rfl, ?_⟩) hHeld ?_ ?_
         rotate_left
         ·rintro w' ⟨s0, s1, s2, s3, s4, s5, s6, s7, s8, s9, s10, s11, s12, s13, s14, s15, s16, s17, s18, s19, s20, s21⟩
          go_simp
          with_reducible rfl
         rotate_left
         ·simp only [Act.put, La_, Lb_, Lc_, i64_w, i32_w]
          rfl
         refine take_ (i := 11) (N := some 33) (v := ?_) (a' := ?_) #[t_,t_,t_,t_,t_,t_,t_,t_,t_,f_,t_,t_,t_,f_,f_,f_,f_,f_,f_] rfl rfl (take_ofW HT_.out HW_.out (by kernel_rfl)) (fun _ _ _ h => h) (Or.inl ⟨by rfl, ?_⟩) hHeld ?_ ?_
         rotate_left
         ·rintro w' ⟨s0, s1, s2, s3, s4, s5, s6, s7, s8, s9, s10, s11, s12, s13, s14, s15, s16, s17, s18, s19, s20, s21⟩
          go_simp
          with_reducible rfl
         rotate_left
         ·simp only [Act.put, La_, Lb_, Lc_, i64_w, i32_w]
          rfl
         refine pure_ (i := 13) (N := some 35) (v := ?_) (a' := ?_) #[t_,t_,t_,t_,t_,t_,t_,t_,t_,f_,t_,t_,t_,t_,f_,f_,f_,f_,f_] rfl rfl (any_of HT_.out (by kernel_rfl)) (fun _ _ _ h => h) (Or.inl ⟨by rfl, ?_⟩) ?_ ?_
         rotate_left
         ·intro w'
          go_simp
          with_reducible rfl
         rotate_left
         ·simp only [Act.put, La_, Lb_, Lc_, i64_w, i32_w]
          rfl
         refine take_ (i := 14) (N := some 36) (v := ?_) (a' := ?_) #[t_,t_,t_,t_,t_,t_,t_,t_,t_,f_,t_,t_,t_,t_,t_,f_,f_,f_,f_] rfl rfl (take_ofW HT_.out HW_.out (by kernel_rfl)) (fun _ _ _ h => h) (Or.inl ⟨by rfl, ?_⟩) hHeld ?_ ?_
         rotate_left
         ·rintro w' ⟨s0, s1, s2, s3, s4, s5, s6, s7, s8, s9, s10, s11, s12, s13, s14, s15, s16, s17, s18, s19, s20, s21⟩
          go_simp
          with_reducible rfl
         rotate_left
         ·simp only [Act.put, La_, Lb_, Lc_, i64_w, i32_w]
          rfl
         refine one_ (i := 9) (N := some 31) #[t_,t_,t_,t_,t_,t_,t_,t_,t_,t_,t_,t_,t_,t_,t_,f_,f_,f_,f_] rfl rfl (one_of HT_.out (by kernel_rfl)) (by decide) (fun K hK => ?_)
         refine goes_ Try.func26 (by kernel_rfl) rfl #[.agg #[.int .i64 ((rd_T59 l0_0 x7_1).f0), .int .i64 ((rd_T59 l0_0 x7_1).f1), .int .i64 ((rd_T59 l0_0 x7_1).f2), .int .i64 ((rd_T59 l0_0 x7_1).f3), .int .i64 ((rd_T59 l0_0 x7_1).f4), .int .i64 ((rd_T59 l0_0 x7_1).f5), .string ((rd_T59 l0_0 x7_1).f6), .slice A502_7 ((rd_T59 l0_0 x7_1).f7).length c502_7]] (by rfl) rfl rfl (by (try simp only [List.map_toArray, List.map_cons, List.map_nil]); first | done | rfl | (simp only [List.length_drop, List.length_take]; rfl)) ?_
         with_reducible refine (flagstonelaw09_node.calls k1 ((rd_T59 l0_0 x7_1).f0) ((rd_T59 l0_0 x7_1).f1) ((rd_T59 l0_0 x7_1).f2) ((rd_T59 l0_0 x7_1).f3) ((rd_T59 l0_0 x7_1).f4) ((rd_T59 l0_0 x7_1).f5) ((rd_T59 l0_0 x7_1).f6) _ _ ((rd_T59 l0_0 x7_1).f7) t503 t504 t505 t506 t507 t508 t509 t510 _ ?side1 ?side2 A16.out).mono ?_
         (case side1 => repeat (first | exact (Kd.C_below HR502_7.out HB.out) | (with_reducible refine Kd.C_alloc ?_ _) | (with_reducible refine Kd.C_drewN ?_ _) | (with_reducible refine Kd.C_drew ?_)))
         (case side2 => exact HC502_7.out)
         rintro e w24 ⟨v511, rfl, ho0, hb⟩
         refine ⟨_, rfl, ?_⟩
         have n0_ := Am_ (Kd.R_lower ho0 (Bz_ (by repeat (first | (with_reducible first | exact HB.out | apply Pa_ | apply Pn_ | apply Pd_ | refine Bs_ ?_ GE500.out | refine Bs_ ?_ GE501.out) | exact HB.out))))
         have n1_ := Am_ (Bb_ (g := gb500) (o := .cells #[.slice (some ad502) l0_0.length c0_0, .int .i64 a0_1, .int .i64 a0_2] 24 (0, 0)) (by (with_reducible repeat (first | refine Bn_ ?_ _ | refine Bd_ ?_ | refine Ba_ ?_ _)); exact BK500.out) hb)
         have n2_ := Am_ (Bb_ (g := gb501) (o := .cells #[.slice (some ad513) l1_0.length c1_0, .int .i64 a1_1, .int .i64 a1_2] 24 (0, 0)) (by (with_reducible repeat (first | refine Bn_ ?_ _ | refine Bd_ ?_ | refine Ba_ ?_ _)); exact BK501.out) hb)
         have n3_ := Am_ (Be_ (by repeat (first | (with_reducible first | exact HB.out | apply Pa_ | apply Pn_ | apply Pd_ | refine Bs_ ?_ GE500.out | refine Bs_ ?_ GE501.out) | exact HB.out)) hb)
         clear BK500
         clear BK501
         clear HB
         have HO512 := n0_
         have BK500 := n1_
         have BK501 := n2_
         have HB := n3_
         clear n0_ n1_ n2_ n3_
         (try clear hb)
         (try clear hb2)
         (try clear hk)
         (try clear hi)
         (try clear ho0)
         refine hK.out _ _ ⟨(Bc_ BK500.out 0).trans rfl, (Bc_ BK500.out 1).trans rfl, (Bc_ BK500.out 2).trans rfl, (Bc_ BK501.out 0).trans rfl, (Bc_ BK501.out 1).trans rfl, (Bc_ BK501.out 2).trans rfl, ((HB.out.cell (Bl_ w _ hw502_0)).trans hw502_0), ((HB.out.cell (Bl_ w _ hw502_1)).trans hw502_1), ((HB.out.cell (Bl_ w _ hw502_2)).trans hw502_2), ((HB.out.cell (Bl_ w _ hw502_3)).trans hw502_3), ((HB.out.cell (Bl_ w _ hw502_4)).trans hw502_4), ((HB.out.cell (Bl_ w _ hw502_5)).trans hw502_5), ((HB.out.cell (Bl_ w _ hw502_6)).trans hw502_6), ((HB.out.cell (Bl_ w _ hw502_7)).trans hw502_7), ((HB.out.cell (Bl_ w _ hw513_0)).trans hw513_0), ((HB.out.cell (Bl_ w _ hw513_1)).trans hw513_1), ((HB.out.cell (Bl_ w _ hw513_2)).trans hw513_2), ((HB.out.cell (Bl_ w _ hw513_3)).trans hw513_3), ((HB.out.cell (Bl_ w _ hw513_4)).trans hw513_4), ((HB.out.cell (Bl_ w _ hw513_5)).trans hw513_5), ((HB.out.cell (Bl_ w _ hw513_6)).trans hw513_6), ((HB.out.cell (Bl_ w _ hw513_7)).trans hw513_7)⟩ (fun hHeld => ?_)
         clear hK K
         refine norm_ (a' := ?_) ?_ ?_
         rotate_left
         ·show Act.put _ (some 31) _ = _
          simp only [Act.put, La_, Lb_, Lc_, i64_w, i32_w]
          rfl
         refine one_ (i := 15) (N := some 37) #[t_,t_,t_,t_,t_,t_,t_,t_,t_,t_,t_,t_,t_,t_,t_,t_,f_,f_,f_] rfl rfl (one_of HT_.out (by kernel_rfl)) (by decide) (fun K hK => ?_)
         refine goes_ Try.func26 (by kernel_rfl) rfl #[.agg #[.int .i64 ((rd_T59 l1_0 x7_1).f0), .int .i64 ((rd_T59 l1_0 x7_1).f1), .int .i64 ((rd_T59 l1_0 x7_1).f2), .int .i64 ((rd_T59 l1_0 x7_1).f3), .int .i64 ((rd_T59 l1_0 x7_1).f4), .int .i64 ((rd_T59 l1_0 x7_1).f5), .string ((rd_T59 l1_0 x7_1).f6), .slice A513_7 ((rd_T59 l1_0 x7_1).f7).length c513_7]] (by rfl) rfl rfl (by (try simp only [List.map_toArray, List.map_cons, List.map_nil]); first | done | rfl | (simp only [List.length_drop, List.length_take]; rfl)) ?_
         with_reducible refine (flagstonelaw09_node.calls k1 ((rd_T59 l1_0 x7_1).f0) ((rd_T59 l1_0 x7_1).f1) ((rd_T59 l1_0 x7_1).f2) ((rd_T59 l1_0 x7_1).f3) ((rd_T59 l1_0 x7_1).f4) ((rd_T59 l1_0 x7_1).f5) ((rd_T59 l1_0 x7_1).f6) _ _ ((rd_T59 l1_0 x7_1).f7) t514 t515 t516 t517 t518 t519 t520 t521 _ ?side1 ?side2 A18.out).mono ?_
         (case side1 => repeat (first | exact (Kd.C_below HR513_7.out HB.out) | (with_reducible refine Kd.C_alloc ?_ _) | (with_reducible refine Kd.C_drewN ?_ _) | (with_reducible refine Kd.C_drew ?_)))
         (case side2 => exact HC513_7.out)
         rintro e w25 ⟨v522, rfl, ho0, hb⟩
         refine ⟨_, rfl, ?_⟩
         have n0_ := Am_ (Kd.R_elder' (by (with_reducible repeat (first | apply Ra_ | apply Rn_ | apply Rd_)); exact HO512.out) (Kd.R_base ho0) hb)
         have n1_ := Am_ (Kd.R_lower (Kd.R_new' ho0 (Kd.R_lt (by (with_reducible repeat (first | apply Ra_ | apply Rn_ | apply Rd_)); exact HO512.out))) (Bz_ (by repeat (first | (with_reducible first | exact HB.out | apply Pa_ | apply Pn_ | apply Pd_ | refine Bs_ ?_ GE500.out | refine Bs_ ?_ GE501.out) | exact HB.out))))
         have n2_ := Am_ (Bb_ (g := gb500) (o := .cells #[.slice (some ad502) l0_0.length c0_0, .int .i64 a0_1, .int .i64 a0_2] 24 (0, 0)) (by (with_reducible repeat (first | refine Bn_ ?_ _ | refine Bd_ ?_ | refine Ba_ ?_ _)); exact BK500.out) hb)
         have n3_ := Am_ (Bb_ (g := gb501) (o := .cells #[.slice (some ad513) l1_0.length c1_0, .int .i64 a1_1, .int .i64 a1_2] 24 (0, 0)) (by (with_reducible repeat (first | refine Bn_ ?_ _ | refine Bd_ ?_ | refine Ba_ ?_ _)); exact BK501.out) hb)
         have n4_ := Am_ (Be_ (by repeat (first | (with_reducible first | exact HB.out | apply Pa_ | apply Pn_ | apply Pd_ | refine Bs_ ?_ GE500.out | refine Bs_ ?_ GE501.out) | exact HB.out)) hb)
         clear HO512
         clear BK500
         clear BK501
         clear HB
         have HO512 := n0_
         have HO523 := n1_
         have BK500 := n2_
         have BK501 := n3_
         have HB := n4_
         clear n0_ n1_ n2_ n3_ n4_
         (try clear hb)
         (try clear hb2)
         (try clear hk)
         (try clear hi)
         (try clear ho0)
         obtain ⟨Ao26, co26, eo26⟩ := Kd.R_slice HO512.out
         (first | subst eo26 | (injection eo26 with f1_ f2_ f3_; have f4_ := f1_.symm; have f5_ := f3_.symm; clear f1_ f2_ f3_; subst f4_; subst f5_))
         obtain ⟨Ao27, co27, eo27⟩ := Kd.R_slice HO523.out
         (first | subst eo27 | (injection eo27 with f1_ f2_ f3_; have f4_ := f1_.symm; have f5_ := f3_.symm; clear f1_ f2_ f3_; subst f4_; subst f5_))
         refine hK.out _ _ ⟨(Bc_ BK500.out 0).trans rfl, (Bc_ BK500.out 1).trans rfl, (Bc_ BK500.out 2).trans rfl, (Bc_ BK501.out 0).trans rfl, (Bc_ BK501.out 1).trans rfl, (Bc_ BK501.out 2).trans rfl, ((HB.out.cell (Bl_ w _ hw502_0)).trans hw502_0), ((HB.out.cell (Bl_ w _ hw502_1)).trans hw502_1), ((HB.out.cell (Bl_ w _ hw502_2)).trans hw502_2), ((HB.out.cell (Bl_ w _ hw502_3)).trans hw502_3), ((HB.out.cell (Bl_ w _ hw502_4)).trans hw502_4), ((HB.out.cell (Bl_ w _ hw502_5)).trans hw502_5), ((HB.out.cell (Bl_ w _ hw502_6)).trans hw502_6), ((HB.out.cell (Bl_ w _ hw502_7)).trans hw502_7), ((HB.out.cell (Bl_ w _ hw513_0)).trans hw513_0), ((HB.out.cell (Bl_ w _ hw513_1)).trans hw513_1), ((HB.out.cell (Bl_ w _ hw513_2)).trans hw513_2), ((HB.out.cell (Bl_ w _ hw513_3)).trans hw513_3), ((HB.out.cell (Bl_ w _ hw513_4)).trans hw513_4), ((HB.out.cell (Bl_ w _ hw513_5)).trans hw513_5), ((HB.out.cell (Bl_ w _ hw513_6)).trans hw513_6), ((HB.out.cell (Bl_ w _ hw513_7)).trans hw513_7)⟩ (fun hHeld => ?_)
         clear hK K
         refine norm_ (a' := ?_) ?_ ?_
         rotate_left
         ·show Act.put _ (some 37) _ = _
          simp only [Act.put, La_, Lb_, Lc_, i64_w, i32_w]
          rfl
         refine one_ (i := 16) (N := some 38) #[t_,t_,t_,t_,t_,t_,t_,t_,t_,t_,t_,t_,t_,t_,t_,t_,t_,f_,f_] rfl rfl (one_of HT_.out (by kernel_rfl)) (by decide) (fun K hK => ?_)
         refine goes_ Try.func32 (by kernel_rfl) rfl #[.agg #[.int .i64 t503, .int .i64 t504, .int .i64 t505, .int .i64 t506, .int .i64 t507, .int .i64 t508, .string t509, .slice Ao26 t510.length co26], .agg #[.int .i64 t514, .int .i64 t515, .int .i64 t516, .int .i64 t517, .int .i64 t518, .int .i64 t519, .string t520, .slice Ao27 t521.length co27]] (by rfl) rfl rfl (by (try simp only [List.map_toArray, List.map_cons, List.map_nil]); first | done | rfl | (simp only [List.length_drop, List.length_take]; rfl)) ?_
         with_reducible refine (flagstoneref06_Alike.calls k1 t503 t504 t505 t506 t507 t508 t509 _ _ t510 t514 t515 t516 t517 t518 t519 t520 _ _ t521 true _ ?side1 ?side2 ?side3 ?side4 A19.out).mono ?_
         (case side1 => repeat (first | exact (Kd.R_reads' HO512.out).2.2 | (with_reducible refine Kd.C_alloc ?_ _) | (with_reducible refine Kd.C_drewN ?_ _) | (with_reducible refine Kd.C_drew ?_)))
         (case side2 => exact (Kd.R_reads' HO512.out).2.1)
         (case side3 => repeat (first | exact (Kd.R_reads' HO523.out).2.2 | (with_reducible refine Kd.C_alloc ?_ _) | (with_reducible refine Kd.C_drewN ?_ _) | (with_reducible refine Kd.C_drew ?_)))
         (case side4 => exact (Kd.R_reads' HO523.out).2.1)
         rintro e w28 ⟨rfl, hb⟩
         refine ⟨_, rfl, ?_⟩
         have n0_ := Am_ (Rb_ (by (with_reducible repeat (first | apply Ra_ | apply Rn_ | apply Rd_)); exact HO512.out) hb)
         have n1_ := Am_ (Rb_ (by (with_reducible repeat (first | apply Ra_ | apply Rn_ | apply Rd_)); exact HO523.out) hb)
         have n2_ := Am_ (Bb_ (g := gb500) (o := .cells #[.slice (some ad502) l0_0.length c0_0, .int .i64 a0_1, .int .i64 a0_2] 24 (0, 0)) (by (with_reducible repeat (first | refine Bn_ ?_ _ | refine Bd_ ?_ | refine Ba_ ?_ _)); exact BK500.out) hb)
         have n3_ := Am_ (Bb_ (g := gb501) (o := .cells #[.slice (some ad513) l1_0.length c1_0, .int .i64 a1_1, .int .i64 a1_2] 24 (0, 0)) (by (with_reducible repeat (first | refine Bn_ ?_ _ | refine Bd_ ?_ | refine Ba_ ?_ _)); exact BK501.out) hb)
         have n4_ := Am_ (Be_ (by repeat (first | (with_reducible first | exact HB.out | apply Pa_ | apply Pn_ | apply Pd_ | refine Bs_ ?_ GE500.out | refine Bs_ ?_ GE501.out) | exact HB.out)) hb)
         clear HO512
         clear HO523
         clear BK500
         clear BK501
         clear HB
         have HO512 := n0_
         have HO523 := n1_
         have BK500 := n2_
         have BK501 := n3_
         have HB := n4_
         clear n0_ n1_ n2_ n3_ n4_
         (try clear hb)
         (try clear hb2)
         (try clear hk)
         (try clear hi)
         refine hK.out _ _ ⟨(Bc_ BK500.out 0).trans rfl, (Bc_ BK500.out 1).trans rfl, (Bc_ BK500.out 2).trans rfl, (Bc_ BK501.out 0).trans rfl, (Bc_ BK501.out 1).trans rfl, (Bc_ BK501.out 2).trans rfl, ((HB.out.cell (Bl_ w _ hw502_0)).trans hw502_0), ((HB.out.cell (Bl_ w _ hw502_1)).trans hw502_1), ((HB.out.cell (Bl_ w _ hw502_2)).trans hw502_2), ((HB.out.cell (Bl_ w _ hw502_3)).trans hw502_3), ((HB.out.cell (Bl_ w _ hw502_4)).trans hw502_4), ((HB.out.cell (Bl_ w _ hw502_5)).trans hw502_5), ((HB.out.cell (Bl_ w _ hw502_6)).trans hw502_6), ((HB.out.cell (Bl_ w _ hw502_7)).trans hw502_7), ((HB.out.cell (Bl_ w _ hw513_0)).trans hw513_0), ((HB.out.cell (Bl_ w _ hw513_1)).trans hw513_1), ((HB.out.cell (Bl_ w _ hw513_2)).trans hw513_2), ((HB.out.cell (Bl_ w _ hw513_3)).trans hw513_3), ((HB.out.cell (Bl_ w _ hw513_4)).trans hw513_4), ((HB.out.cell (Bl_ w _ hw513_5)).trans hw513_5), ((HB.out.cell (Bl_ w _ hw513_6)).trans hw513_6), ((HB.out.cell (Bl_ w _ hw513_7)).trans hw513_7)⟩ (fun hHeld => ?_)
         clear hK K
         refine norm_ (a' := ?_) ?_ ?_
         rotate_left
         ·show Act.put _ (some 38) _ = _
          simp only [Act.put, La_, Lb_, Lc_, i64_w, i32_w]
          rfl
         refine pure_ (i := 17) (N := some 39) (v := ?_) (a' := ?_) #[t_,t_,t_,t_,t_,t_,t_,t_,t_,t_,t_,t_,t_,t_,t_,t_,t_,t_,f_] rfl rfl (any_of HT_.out (by kernel_rfl)) (fun _ _ _ h => h) (Or.inl ⟨by rfl, ?_⟩) ?_ ?_
         rotate_left
         ·intro w'
          go_simp
          with_reducible rfl
         rotate_left
         ·simp only [Act.put, La_, Lb_, Lc_, i64_w, i32_w]
          rfl
         refine pure_ (i := 18) (N := some 40) (v := ?_) (a' := ?_) #[t_,t_,t_,t_,t_,t_,t_,t_,t_,t_,t_,t_,t_,t_,t_,t_,t_,t_,t_] rfl rfl (any_of HT_.out (by kernel_rfl)) (fun _ _ _ h => h) (Or.inl ⟨by rfl, ?_⟩) ?_ ?_
         rotate_left
         ·intro w'
          go_simp
          with_reducible rfl
         rotate_left
         ·simp only [Act.put, La_, Lb_, Lc_, i64_w, i32_w]
          rfl
         refine done_ (done_of HT_.out (by kernel_rfl)) ?_
         try go_wp2
         go_roundg k1
         case measure => have := HK1.out; omega
         case rel => exact ⟨(wrap64 (x7_1 + 1)), (by first | rfl | (simp; done) | (simp [*]; done)), H', ⟨by have := HK1.out; omega⟩, ⟨by (with_reducible repeat (first | refine Bn_ ?_ _ | refine Bd_ ?_ | refine Ba_ ?_ _)); exact BK500.out⟩, ⟨by (with_reducible repeat (first | refine Bn_ ?_ _ | refine Bd_ ?_ | refine Ba_ ?_ _)); exact BK501.out⟩, ⟨by repeat (first | (with_reducible first | exact HB.out | apply Pa_ | apply Pn_ | apply Pd_ | refine Bs_ ?_ GE500.out | refine Bs_ ?_ GE501.out) | exact HB.out)⟩⟩
        ·replace c20 := Bool.eq_false_iff.mpr c20
         subst c20
         have H1 : (some false) = some r := by rw [if_neg (show ¬ (false = true) by decide)] at H; exact H
         clear H
         have H := H1
         clear H1
         obtain rfl := Option.some.inj H
         have hnb29 := NB500_501.out
         have hnc29 := NB501_500.out
         have hcz30_0 : wr.cell? ⟨gb500, 0, none⟩ = some (.slice A0_0 l0_0.length c0_0) := (Bc_ BK500.out 0).trans rfl
         have hcz30_1 : wr.cell? ⟨gb500, 1, none⟩ = some (.int .i64 a0_1) := (Bc_ BK500.out 1).trans rfl
         have hcz30_2 : wr.cell? ⟨gb500, 2, none⟩ = some (.int .i64 a0_2) := (Bc_ BK500.out 2).trans rfl
         have hfz30_0 := Bf_ BK500.out 0
         have hfz30_1 := Bf_ BK500.out 1
         have hfz30_2 := Bf_ BK500.out 2
         try go_wp2
         have n0_ := Am_ (Bd_ BK500.out)
         have n1_ := Am_ (Bd_ BK501.out)
         have n2_ := Am_ (Pd_ HB.out)
         clear BK500
         clear BK501
         clear HB
         have BK500 := n0_
         have BK501 := n1_
         have HB := n2_
         clear n0_ n1_ n2_
         have p502 : 0 ≤ (x7_1 : Int) := Ot_ (by first | (with_reducible assumption) | assumption)
         have q502 : x7_1 < (l0_0.length : Int) := Ot_ (by first | (with_reducible assumption) | assumption)
         obtain ⟨ad502, A502_7, c502_7, e502, hx502_0, hx502_1, hx502_2, hx502_3, hx502_4, hx502_5, hx502_6, hx502_7, hl502_7, hi502_7⟩ := at_T59 HR0_0.out x7_1 p502 q502
         have hw502_7 := hx502_7
         have hw502_6 := hx502_6
         have hw502_5 := hx502_5
         have hw502_4 := hx502_4
         have hw502_3 := hx502_3
         have hw502_2 := hx502_2
         have hw502_1 := hx502_1
         have hw502_0 := hx502_0
         cases e502
         replace hx502_0 := (HB.out.cell (Bl_ w _ hx502_0)).trans hx502_0
         replace hx502_1 := (HB.out.cell (Bl_ w _ hx502_1)).trans hx502_1
         replace hx502_2 := (HB.out.cell (Bl_ w _ hx502_2)).trans hx502_2
         replace hx502_3 := (HB.out.cell (Bl_ w _ hx502_3)).trans hx502_3
         replace hx502_4 := (HB.out.cell (Bl_ w _ hx502_4)).trans hx502_4
         replace hx502_5 := (HB.out.cell (Bl_ w _ hx502_5)).trans hx502_5
         replace hx502_6 := (HB.out.cell (Bl_ w _ hx502_6)).trans hx502_6
         replace hx502_7 := (HB.out.cell (Bl_ w _ hx502_7)).trans hx502_7
         have HR502_7 := Am_ hi502_7
         have HC502_7 := Am_ hl502_7
         clear hi502_7 hl502_7
         replace p502 := eq_true p502
         replace q502 := eq_true q502
         have p513 : 0 ≤ (x7_1 : Int) := Ot_ (by first | (with_reducible assumption) | assumption)
         have q513 : x7_1 < (l1_0.length : Int) := Ot_ (by first | (with_reducible assumption) | assumption)
         obtain ⟨ad513, A513_7, c513_7, e513, hx513_0, hx513_1, hx513_2, hx513_3, hx513_4, hx513_5, hx513_6, hx513_7, hl513_7, hi513_7⟩ := at_T59 HR1_0.out x7_1 p513 q513
         have hw513_7 := hx513_7
         have hw513_6 := hx513_6
         have hw513_5 := hx513_5
         have hw513_4 := hx513_4
         have hw513_3 := hx513_3
         have hw513_2 := hx513_2
         have hw513_1 := hx513_1
         have hw513_0 := hx513_0
         cases e513
         replace hx513_0 := (HB.out.cell (Bl_ w _ hx513_0)).trans hx513_0
         replace hx513_1 := (HB.out.cell (Bl_ w _ hx513_1)).trans hx513_1
         replace hx513_2 := (HB.out.cell (Bl_ w _ hx513_2)).trans hx513_2
         replace hx513_3 := (HB.out.cell (Bl_ w _ hx513_3)).trans hx513_3
         replace hx513_4 := (HB.out.cell (Bl_ w _ hx513_4)).trans hx513_4
         replace hx513_5 := (HB.out.cell (Bl_ w _ hx513_5)).trans hx513_5
         replace hx513_6 := (HB.out.cell (Bl_ w _ hx513_6)).trans hx513_6
         replace hx513_7 := (HB.out.cell (Bl_ w _ hx513_7)).trans hx513_7
         have HR513_7 := Am_ hi513_7
         have HC513_7 := Am_ hl513_7
         clear hi513_7 hl513_7
         replace p513 := eq_true p513
         replace q513 := eq_true q513
         refine start_ (n := 19) (S := fun w' => w'.cell? ⟨gb500, 0, none⟩ = some (.slice (some ad502) l0_0.length c0_0) ∧ w'.cell? ⟨gb500, 1, none⟩ = some (.int .i64 a0_1) ∧ w'.cell? ⟨gb500, 2, none⟩ = some (.int .i64 a0_2) ∧ w'.cell? ⟨gb501, 0, none⟩ = some (.slice (some ad513) l1_0.length c1_0) ∧ w'.cell? ⟨gb501, 1, none⟩ = some (.int .i64 a1_1) ∧ w'.cell? ⟨gb501, 2, none⟩ = some (.int .i64 a1_2) ∧ w'.cell? (ad502.add ((x7_1).toNat * 8)) = some (.int .i64 ((rd_T59 l0_0 x7_1).f0)) ∧ w'.cell? ⟨(ad502.add ((x7_1).toNat * 8)).block, (ad502.add ((x7_1).toNat * 8)).off + 1, none⟩ = some (.int .i64 ((rd_T59 l0_0 x7_1).f1)) ∧ w'.cell? ⟨(ad502.add ((x7_1).toNat * 8)).block, (ad502.add ((x7_1).toNat * 8)).off + 2, none⟩ = some (.int .i64 ((rd_T59 l0_0 x7_1).f2)) ∧ w'.cell? ⟨(ad502.add ((x7_1).toNat * 8)).block, (ad502.add ((x7_1).toNat * 8)).off + 3, none⟩ = some (.int .i64 ((rd_T59 l0_0 x7_1).f3)) ∧ w'.cell? ⟨(ad502.add ((x7_1).toNat * 8)).block, (ad502.add ((x7_1).toNat * 8)).off + 4, none⟩ = some (.int .i64 ((rd_T59 l0_0 x7_1).f4)) ∧ w'.cell? ⟨(ad502.add ((x7_1).toNat * 8)).block, (ad502.add ((x7_1).toNat * 8)).off + 5, none⟩ = some (.int .i64 ((rd_T59 l0_0 x7_1).f5)) ∧ w'.cell? ⟨(ad502.add ((x7_1).toNat * 8)).block, (ad502.add ((x7_1).toNat * 8)).off + 6, none⟩ = some (.string ((rd_T59 l0_0 x7_1).f6)) ∧ w'.cell? ⟨(ad502.add ((x7_1).toNat * 8)).block, (ad502.add ((x7_1).toNat * 8)).off + 7, none⟩ = some (.slice A502_7 ((rd_T59 l0_0 x7_1).f7).length c502_7) ∧ w'.cell? (ad513.add ((x7_1).toNat * 8)) = some (.int .i64 ((rd_T59 l1_0 x7_1).f0)) ∧ w'.cell? ⟨(ad513.add ((x7_1).toNat * 8)).block, (ad513.add ((x7_1).toNat * 8)).off + 1, none⟩ = some (.int .i64 ((rd_T59 l1_0 x7_1).f1)) ∧ w'.cell? ⟨(ad513.add ((x7_1).toNat * 8)).block, (ad513.add ((x7_1).toNat * 8)).off + 2, none⟩ = some (.int .i64 ((rd_T59 l1_0 x7_1).f2)) ∧ w'.cell? ⟨(ad513.add ((x7_1).toNat * 8)).block, (ad513.add ((x7_1).toNat * 8)).off + 3, none⟩ = some (.int .i64 ((rd_T59 l1_0 x7_1).f3)) ∧ w'.cell? ⟨(ad513.add ((x7_1).toNat * 8)).block, (ad513.add ((x7_1).toNat * 8)).off + 4, none⟩ = some (.int .i64 ((rd_T59 l1_0 x7_1).f4)) ∧ w'.cell? ⟨(ad513.add ((x7_1).toNat * 8)).block, (ad513.add ((x7_1).toNat * 8)).off + 5, none⟩ = some (.int .i64 ((rd_T59 l1_0 x7_1).f5)) ∧ w'.cell? ⟨(ad513.add ((x7_1).toNat * 8)).block, (ad513.add ((x7_1).toNat * 8)).off + 6, none⟩ = some (.string ((rd_T59 l1_0 x7_1).f6)) ∧ w'.cell? ⟨(ad513.add ((x7_1).toNat * 8)).block, (ad513.add ((x7_1).toNat * 8)).off + 7, none⟩ = some (.slice A513_7 ((rd_T59 l1_0 x7_1).f7).length c513_7)) (ds := []) #[f_,f_,f_,f_,f_,f_,f_,f_,f_,f_,f_,f_,f_,f_,f_,f_,f_,f_,f_] (by kernel_rfl) rfl rfl ⟨(Bc_ BK500.out 0).trans rfl, (Bc_ BK500.out 1).trans rfl, (Bc_ BK500.out 2).trans rfl, (Bc_ BK501.out 0).trans rfl, (Bc_ BK501.out 1).trans rfl, (Bc_ BK501.out 2).trans rfl, ((HB.out.cell (Bl_ w _ hw502_0)).trans hw502_0), ((HB.out.cell (Bl_ w _ hw502_1)).trans hw502_1), ((HB.out.cell (Bl_ w _ hw502_2)).trans hw502_2), ((HB.out.cell (Bl_ w _ hw502_3)).trans hw502_3), ((HB.out.cell (Bl_ w _ hw502_4)).trans hw502_4), ((HB.out.cell (Bl_ w _ hw502_5)).trans hw502_5), ((HB.out.cell (Bl_ w _ hw502_6)).trans hw502_6), ((HB.out.cell (Bl_ w _ hw502_7)).trans hw502_7), ((HB.out.cell (Bl_ w _ hw513_0)).trans hw513_0), ((HB.out.cell (Bl_ w _ hw513_1)).trans hw513_1), ((HB.out.cell (Bl_ w _ hw513_2)).trans hw513_2), ((HB.out.cell (Bl_ w _ hw513_3)).trans hw513_3), ((HB.out.cell (Bl_ w _ hw513_4)).trans hw513_4), ((HB.out.cell (Bl_ w _ hw513_5)).trans hw513_5), ((HB.out.cell (Bl_ w _ hw513_6)).trans hw513_6), ((HB.out.cell (Bl_ w _ hw513_7)).trans hw513_7)⟩ (fun hHeld => ?_); refine with_tabW flagstonelaw09_others.tab6 flagstonelaw09_others.bits6 (fun HT_ HW_ => ?_)
         generalize wr.drew = w31 at BK500 BK501 HB HR502_7 HR513_7 hx502_0 hx502_1 hx502_2 hx502_3 hx502_4 hx502_5 hx502_6 hx502_7 hx513_0 hx513_1 hx513_2 hx513_3 hx513_4 hx513_5 hx513_6 hx513_7 hHeld ⊢
         refine pure_ (i := 0) (N := some 22) (v := ?_) (a' := ?_) #[t_,f_,f_,f_,f_,f_,f_,f_,f_,f_,f_,f_,f_,f_,f_,f_,f_,f_,f_] rfl rfl (any_of HT_.out (by kernel_rfl)) (fun _ _ _ h => h) (Or.inl ⟨by rfl, ?_⟩) ?_ ?_
         rotate_left
         ·intro w'
          go_simp
          with_reducible rfl
         rotate_left
         ·simp only [Act.put, La_, Lb_, Lc_, i64_w, i32_w]
          rfl
         refine pure_ (i := 1) (N := some 23) (v := ?_) (a' := ?_) #[t_,t_,f_,f_,f_,f_,f_,f_,f_,f_,f_,f_,f_,f_,f_,f_,f_,f_,f_] rfl rfl (any_of HT_.out (by kernel_rfl)) (fun _ _ _ h => h) (Or.inl ⟨by rfl, ?_⟩) ?_ ?_
         rotate_left
         ·intro w'
          go_simp
          with_reducible rfl
         rotate_left
         ·simp only [Act.put, La_, Lb_, Lc_, i64_w, i32_w]
          rfl
         refine pure_ (i := 2) (N := some 24) (v := ?_) (a' := ?_) #[t_,t_,t_,f_,f_,f_,f_,f_,f_,f_,f_,f_,f_,f_,f_,f_,f_,f_,f_] rfl rfl (any_of HT_.out (by kernel_rfl)) (fun _ _ _ h => h) (Or.inl ⟨by rfl, ?_⟩) ?_ ?_
         rotate_left
         ·intro w'
          go_simp
          with_reducible rfl
         rotate_left
         ·simp only [Act.put, La_, Lb_, Lc_, i64_w, i32_w]
          rfl
         refine pure_ (i := 3) (N := some 25) (v := ?_) (a' := ?_) #[t_,t_,t_,t_,f_,f_,f_,f_,f_,f_,f_,f_,f_,f_,f_,f_,f_,f_,f_] rfl rfl (any_of HT_.out (by kernel_rfl)) (fun _ _ _ h => h) (Or.inl ⟨by rfl, ?_⟩) ?_ ?_
         rotate_left
         ·intro w'
          go_simp
          with_reducible rfl
         rotate_left
         ·simp only [Act.put, La_, Lb_, Lc_, i64_w, i32_w]
          rfl
         refine pure_ (i := 4) (N := some 26) (v := ?_) (a' := ?_) #[t_,t_,t_,t_,t_,f_,f_,f_,f_,f_,f_,f_,f_,f_,f_,f_,f_,f_,f_] rfl rfl (any_of HT_.out (by kernel_rfl)) (fun _ _ _ h => h) (Or.inl ⟨by rfl, ?_⟩) ?_ ?_
         rotate_left
         ·intro w'
          go_simp
          with_reducible rfl
         rotate_left
         ·simp only [Act.put, La_, Lb_, Lc_, i64_w, i32_w]
          rfl
         refine pure_ (i := 6) (N := some 28) (v := ?_) (a' := ?_) #[t_,t_,t_,t_,t_,f_,t_,f_,f_,f_,f_,f_,f_,f_,f_,f_,f_,f_,f_] rfl rfl (any_of HT_.out (by kernel_rfl)) (fun _ _ _ h => h) (Or.inl ⟨by rfl, ?_⟩) ?_ ?_
         rotate_left
         ·intro w'
          go_simp
          with_reducible rfl
         rotate_left
         ·simp only [Act.put, La_, Lb_, Lc_, i64_w, i32_w]
          rfl
         refine pure_ (i := 10) (N := some 32) (v := ?_) (a' := ?_) #[t_,t_,t_,t_,t_,f_,t_,f_,f_,f_,t_,f_,f_,f_,f_,f_,f_,f_,f_] rfl rfl (any_of HT_.out (by kernel_rfl)) (fun _ _ _ h => h) (Or.inl ⟨by rfl, ?_⟩) ?_ ?_
         rotate_left
         ·intro w'
          go_simp
          with_reducible rfl
         rotate_left
         ·simp only [Act.put, La_, Lb_, Lc_, i64_w, i32_w]
          rfl
         refine pure_ (i := 12) (N := some 34) (v := ?_) (a' := ?_) #[t_,t_,t_,t_,t_,f_,t_,f_,f_,f_,t_,f_,t_,f_,f_,f_,f_,f_,f_] rfl rfl (any_of HT_.out (by kernel_rfl)) (fun _ _ _ h => h) (Or.inl ⟨by rfl, ?_⟩) ?_ ?_
         rotate_left
         ·intro w'
          go_simp
          with_reducible rfl
         rotate_left
         ·simp only [Act.put, La_, Lb_, Lc_, i64_w, i32_w]
          rfl
         refine take_ (i := 5) (N := some 27) (v := ?_) (a' := ?_) #[t_,t_,t_,t_,t_,t_,t_,f_,f_,f_,t_,f_,t_,f_,f_,f_,f_,f_,f_] rfl rfl (take_ofW HT_.out HW_.out (by kernel_rfl)) (fun _ _ _ h => h) (Or.inl ⟨by rfl, ?_⟩) hHeld ?_ ?_
         rotate_left
         ·rintro w' ⟨s0, s1, s2, s3, s4, s5, s6, s7, s8, s9, s10, s11, s12, s13, s14, s15, s16, s17, s18, s19, s20, s21⟩
          go_simp
          with_reducible rfl
         rotate_left
         ·simp only [Act.put, La_, Lb_, Lc_, i64_w, i32_w]
          rfl
         refine pure_ (i := 7) (N := some 29) (v := ?_) (a' := ?_) #[t_,t_,t_,t_,t_,t_,t_,t_,f_,f_,t_,f_,t_,f_,f_,f_,f_,f_,f_] rfl rfl (any_of HT_.out (by kernel_rfl)) (fun _ _ _ h => h) (Or.inl ⟨by rfl, ?_⟩) ?_ ?_
         rotate_left
         ·intro w'
          go_simp
          with_reducible rfl
         rotate_left
         ·simp only [Act.put, La_, Lb_, Lc_, i64_w, i32_w]
          rfl
         refine take_ (i := 8) (N := some 30) (v := ?_) (a' := ?_) #[t_,t_,t_,t_,t_,t_,t_,t_,t_,f_,t_,f_,t_,f_,f_,f_,f_,f_,f_] rfl rfl (take_ofW HT_.out HW_.out (by kernel_rfl)) (fun _ _ _ h => h) (Or.inl ⟨by rfl, ?_⟩) hHeld ?_ ?_
         rotate_left
         ·rintro w' ⟨s0, s1, s2, s3, s4, s5, s6, s7, s8, s9, s10, s11, s12, s13, s14, s15, s16, s17, s18, s19, s20, s21⟩
          go_simp
          with_reducible rfl
         rotate_left
         ·simp only [Act.put, La_, Lb_, Lc_, i64_w, i32_w]
          rfl
         refine take_ (i := 11) (N := some 33) (v := ?_) (a' := ?_) #[t_,t_,t_,t_,t_,t_,t_,t_,t_,f_,t_,t_,t_,f_,f_,f_,f_,f_,f_] rfl rfl (take_ofW HT_.out HW_.out (by kernel_rfl)) (fun _ _ _ h => h) (Or.inl ⟨by rfl, ?_⟩) hHeld ?_ ?_
         rotate_left
         ·rintro w' ⟨s0, s1, s2, s3, s4, s5, s6, s7, s8, s9, s10, s11, s12, s13, s14, s15, s16, s17, s18, s19, s20, s21⟩
          go_simp
          with_reducible rfl
         rotate_left
         ·simp only [Act.put, La_, Lb_, Lc_, i64_w, i32_w]
          rfl
         refine pure_ (i := 13) (N := some 35) (v := ?_) (a' := ?_) #[t_,t_,t_,t_,t_,t_,t_,t_,t_,f_,t_,t_,t_,t_,f_,f_,f_,f_,f_] rfl rfl (any_of HT_.out (by kernel_rfl)) (fun _ _ _ h => h) (Or.inl ⟨by rfl, ?_⟩) ?_ ?_
         rotate_left
         ·intro w'
          go_simp
          with_reducible rfl
         rotate_left
         ·simp only [Act.put, La_, Lb_, Lc_, i64_w, i32_w]
          rfl
         refine take_ (i := 14) (N := some 36) (v := ?_) (a' := ?_) #[t_,t_,t_,t_,t_,t_,t_,t_,t_,f_,t_,t_,t_,t_,t_,f_,f_,f_,f_] rfl rfl (take_ofW HT_.out HW_.out (by kernel_rfl)) (fun _ _ _ h => h) (Or.inl ⟨by rfl, ?_⟩) hHeld ?_ ?_
         rotate_left
         ·rintro w' ⟨s0, s1, s2, s3, s4, s5, s6, s7, s8, s9, s10, s11, s12, s13, s14, s15, s16, s17, s18, s19, s20, s21⟩
          go_simp
          with_reducible rfl
         rotate_left
         ·simp only [Act.put, La_, Lb_, Lc_, i64_w, i32_w]
          rfl
         refine one_ (i := 9) (N := some 31) #[t_,t_,t_,t_,t_,t_,t_,t_,t_,t_,t_,t_,t_,t_,t_,f_,f_,f_,f_] rfl rfl (one_of HT_.out (by kernel_rfl)) (by decide) (fun K hK => ?_)
         refine goes_ Try.func26 (by kernel_rfl) rfl #[.agg #[.int .i64 ((rd_T59 l0_0 x7_1).f0), .int .i64 ((rd_T59 l0_0 x7_1).f1), .int .i64 ((rd_T59 l0_0 x7_1).f2), .int .i64 ((rd_T59 l0_0 x7_1).f3), .int .i64 ((rd_T59 l0_0 x7_1).f4), .int .i64 ((rd_T59 l0_0 x7_1).f5), .string ((rd_T59 l0_0 x7_1).f6), .slice A502_7 ((rd_T59 l0_0 x7_1).f7).length c502_7]] (by rfl) rfl rfl (by (try simp only [List.map_toArray, List.map_cons, List.map_nil]); first | done | rfl | (simp only [List.length_drop, List.length_take]; rfl)) ?_
         with_reducible refine (flagstonelaw09_node.calls k1 ((rd_T59 l0_0 x7_1).f0) ((rd_T59 l0_0 x7_1).f1) ((rd_T59 l0_0 x7_1).f2) ((rd_T59 l0_0 x7_1).f3) ((rd_T59 l0_0 x7_1).f4) ((rd_T59 l0_0 x7_1).f5) ((rd_T59 l0_0 x7_1).f6) _ _ ((rd_T59 l0_0 x7_1).f7) t503 t504 t505 t506 t507 t508 t509 t510 _ ?side1 ?side2 A16.out).mono ?_
         (case side1 => repeat (first | exact (Kd.C_below HR502_7.out HB.out) | (with_reducible refine Kd.C_alloc ?_ _) | (with_reducible refine Kd.C_drewN ?_ _) | (with_reducible refine Kd.C_drew ?_)))
         (case side2 => exact HC502_7.out)
         rintro e w32 ⟨v511, rfl, ho0, hb⟩
         refine ⟨_, rfl, ?_⟩
         have n0_ := Am_ (Kd.R_lower ho0 (Bz_ (by repeat (first | (with_reducible first | exact HB.out | apply Pa_ | apply Pn_ | apply Pd_ | refine Bs_ ?_ GE500.out | refine Bs_ ?_ GE501.out) | exact HB.out))))
         have n1_ := Am_ (Bb_ (g := gb500) (o := .cells #[.slice (some ad502) l0_0.length c0_0, .int .i64 a0_1, .int .i64 a0_2] 24 (0, 0)) (by (with_reducible repeat (first | refine Bn_ ?_ _ | refine Bd_ ?_ | refine Ba_ ?_ _)); exact BK500.out) hb)
         have n2_ := Am_ (Bb_ (g := gb501) (o := .cells #[.slice (some ad513) l1_0.length c1_0, .int .i64 a1_1, .int .i64 a1_2] 24 (0, 0)) (by (with_reducible repeat (first | refine Bn_ ?_ _ | refine Bd_ ?_ | refine Ba_ ?_ _)); exact BK501.out) hb)
         have n3_ := Am_ (Be_ (by repeat (first | (with_reducible first | exact HB.out | apply Pa_ | apply Pn_ | apply Pd_ | refine Bs_ ?_ GE500.out | refine Bs_ ?_ GE501.out) | exact HB.out)) hb)
         clear BK500
         clear BK501
         clear HB
         have HO512 := n0_
         have BK500 := n1_
         have BK501 := n2_
         have HB := n3_
         clear n0_ n1_ n2_ n3_
         (try clear hb)
         (try clear hb2)
         (try clear hk)
         (try clear hi)
         (try clear ho0)
         refine hK.out _ _ ⟨(Bc_ BK500.out 0).trans rfl, (Bc_ BK500.out 1).trans rfl, (Bc_ BK500.out 2).trans rfl, (Bc_ BK501.out 0).trans rfl, (Bc_ BK501.out 1).trans rfl, (Bc_ BK501.out 2).trans rfl, ((HB.out.cell (Bl_ w _ hw502_0)).trans hw502_0), ((HB.out.cell (Bl_ w _ hw502_1)).trans hw502_1), ((HB.out.cell (Bl_ w _ hw502_2)).trans hw502_2), ((HB.out.cell (Bl_ w _ hw502_3)).trans hw502_3), ((HB.out.cell (Bl_ w _ hw502_4)).trans hw502_4), ((HB.out.cell (Bl_ w _ hw502_5)).trans hw502_5), ((HB.out.cell (Bl_ w _ hw502_6)).trans hw502_6), ((HB.out.cell (Bl_ w _ hw502_7)).trans hw502_7), ((HB.out.cell (Bl_ w _ hw513_0)).trans hw513_0), ((HB.out.cell (Bl_ w _ hw513_1)).trans hw513_1), ((HB.out.cell (Bl_ w _ hw513_2)).trans hw513_2), ((HB.out.cell (Bl_ w _ hw513_3)).trans hw513_3), ((HB.out.cell (Bl_ w _ hw513_4)).trans hw513_4), ((HB.out.cell (Bl_ w _ hw513_5)).trans hw513_5), ((HB.out.cell (Bl_ w _ hw513_6)).trans hw513_6), ((HB.out.cell (Bl_ w _ hw513_7)).trans hw513_7)⟩ (fun hHeld => ?_)
         clear hK K
         refine norm_ (a' := ?_) ?_ ?_
         rotate_left
         ·show Act.put _ (some 31) _ = _
          simp only [Act.put, La_, Lb_, Lc_, i64_w, i32_w]
          rfl
         refine one_ (i := 15) (N := some 37) #[t_,t_,t_,t_,t_,t_,t_,t_,t_,t_,t_,t_,t_,t_,t_,t_,f_,f_,f_] rfl rfl (one_of HT_.out (by kernel_rfl)) (by decide) (fun K hK => ?_)
         refine goes_ Try.func26 (by kernel_rfl) rfl #[.agg #[.int .i64 ((rd_T59 l1_0 x7_1).f0), .int .i64 ((rd_T59 l1_0 x7_1).f1), .int .i64 ((rd_T59 l1_0 x7_1).f2), .int .i64 ((rd_T59 l1_0 x7_1).f3), .int .i64 ((rd_T59 l1_0 x7_1).f4), .int .i64 ((rd_T59 l1_0 x7_1).f5), .string ((rd_T59 l1_0 x7_1).f6), .slice A513_7 ((rd_T59 l1_0 x7_1).f7).length c513_7]] (by rfl) rfl rfl (by (try simp only [List.map_toArray, List.map_cons, List.map_nil]); first | done | rfl | (simp only [List.length_drop, List.length_take]; rfl)) ?_
         with_reducible refine (flagstonelaw09_node.calls k1 ((rd_T59 l1_0 x7_1).f0) ((rd_T59 l1_0 x7_1).f1) ((rd_T59 l1_0 x7_1).f2) ((rd_T59 l1_0 x7_1).f3) ((rd_T59 l1_0 x7_1).f4) ((rd_T59 l1_0 x7_1).f5) ((rd_T59 l1_0 x7_1).f6) _ _ ((rd_T59 l1_0 x7_1).f7) t514 t515 t516 t517 t518 t519 t520 t521 _ ?side1 ?side2 A18.out).mono ?_
         (case side1 => repeat (first | exact (Kd.C_below HR513_7.out HB.out) | (with_reducible refine Kd.C_alloc ?_ _) | (with_reducible refine Kd.C_drewN ?_ _) | (with_reducible refine Kd.C_drew ?_)))
         (case side2 => exact HC513_7.out)
         rintro e w33 ⟨v522, rfl, ho0, hb⟩
         refine ⟨_, rfl, ?_⟩
         have n0_ := Am_ (Kd.R_elder' (by (with_reducible repeat (first | apply Ra_ | apply Rn_ | apply Rd_)); exact HO512.out) (Kd.R_base ho0) hb)
         have n1_ := Am_ (Kd.R_lower (Kd.R_new' ho0 (Kd.R_lt (by (with_reducible repeat (first | apply Ra_ | apply Rn_ | apply Rd_)); exact HO512.out))) (Bz_ (by repeat (first | (with_reducible first | exact HB.out | apply Pa_ | apply Pn_ | apply Pd_ | refine Bs_ ?_ GE500.out | refine Bs_ ?_ GE501.out) | exact HB.out))))
         have n2_ := Am_ (Bb_ (g := gb500) (o := .cells #[.slice (some ad502) l0_0.length c0_0, .int .i64 a0_1, .int .i64 a0_2] 24 (0, 0)) (by (with_reducible repeat (first | refine Bn_ ?_ _ | refine Bd_ ?_ | refine Ba_ ?_ _)); exact BK500.out) hb)
         have n3_ := Am_ (Bb_ (g := gb501) (o := .cells #[.slice (some ad513) l1_0.length c1_0, .int .i64 a1_1, .int .i64 a1_2] 24 (0, 0)) (by (with_reducible repeat (first | refine Bn_ ?_ _ | refine Bd_ ?_ | refine Ba_ ?_ _)); exact BK501.out) hb)
         have n4_ := Am_ (Be_ (by repeat (first | (with_reducible first | exact HB.out | apply Pa_ | apply Pn_ | apply Pd_ | refine Bs_ ?_ GE500.out | refine Bs_ ?_ GE501.out) | exact HB.out)) hb)
         clear HO512
         clear BK500
         clear BK501
         clear HB
         have HO512 := n0_
         have HO523 := n1_
         have BK500 := n2_
         have BK501 := n3_
         have HB := n4_
         clear n0_ n1_ n2_ n3_ n4_
         (try clear hb)
         (try clear hb2)
         (try clear hk)
         (try clear hi)
         (try clear ho0)
         obtain ⟨Ao34, co34, eo34⟩ := Kd.R_slice HO512.out
         (first | subst eo34 | (injection eo34 with f1_ f2_ f3_; have f4_ := f1_.symm; have f5_ := f3_.symm; clear f1_ f2_ f3_; subst f4_; subst f5_))
         obtain ⟨Ao35, co35, eo35⟩ := Kd.R_slice HO523.out
         (first | subst eo35 | (injection eo35 with f1_ f2_ f3_; have f4_ := f1_.symm; have f5_ := f3_.symm; clear f1_ f2_ f3_; subst f4_; subst f5_))
         refine hK.out _ _ ⟨(Bc_ BK500.out 0).trans rfl, (Bc_ BK500.out 1).trans rfl, (Bc_ BK500.out 2).trans rfl, (Bc_ BK501.out 0).trans rfl, (Bc_ BK501.out 1).trans rfl, (Bc_ BK501.out 2).trans rfl, ((HB.out.cell (Bl_ w _ hw502_0)).trans hw502_0), ((HB.out.cell (Bl_ w _ hw502_1)).trans hw502_1), ((HB.out.cell (Bl_ w _ hw502_2)).trans hw502_2), ((HB.out.cell (Bl_ w _ hw502_3)).trans hw502_3), ((HB.out.cell (Bl_ w _ hw502_4)).trans hw502_4), ((HB.out.cell (Bl_ w _ hw502_5)).trans hw502_5), ((HB.out.cell (Bl_ w _ hw502_6)).trans hw502_6), ((HB.out.cell (Bl_ w _ hw502_7)).trans hw502_7), ((HB.out.cell (Bl_ w _ hw513_0)).trans hw513_0), ((HB.out.cell (Bl_ w _ hw513_1)).trans hw513_1), ((HB.out.cell (Bl_ w _ hw513_2)).trans hw513_2), ((HB.out.cell (Bl_ w _ hw513_3)).trans hw513_3), ((HB.out.cell (Bl_ w _ hw513_4)).trans hw513_4), ((HB.out.cell (Bl_ w _ hw513_5)).trans hw513_5), ((HB.out.cell (Bl_ w _ hw513_6)).trans hw513_6), ((HB.out.cell (Bl_ w _ hw513_7)).trans hw513_7)⟩ (fun hHeld => ?_)
         clear hK K
         refine norm_ (a' := ?_) ?_ ?_
         rotate_left
         ·show Act.put _ (some 37) _ = _
          simp only [Act.put, La_, Lb_, Lc_, i64_w, i32_w]
          rfl
         refine one_ (i := 16) (N := some 38) #[t_,t_,t_,t_,t_,t_,t_,t_,t_,t_,t_,t_,t_,t_,t_,t_,t_,f_,f_] rfl rfl (one_of HT_.out (by kernel_rfl)) (by decide) (fun K hK => ?_)
         refine goes_ Try.func32 (by kernel_rfl) rfl #[.agg #[.int .i64 t503, .int .i64 t504, .int .i64 t505, .int .i64 t506, .int .i64 t507, .int .i64 t508, .string t509, .slice Ao34 t510.length co34], .agg #[.int .i64 t514, .int .i64 t515, .int .i64 t516, .int .i64 t517, .int .i64 t518, .int .i64 t519, .string t520, .slice Ao35 t521.length co35]] (by rfl) rfl rfl (by (try simp only [List.map_toArray, List.map_cons, List.map_nil]); first | done | rfl | (simp only [List.length_drop, List.length_take]; rfl)) ?_
         with_reducible refine (flagstoneref06_Alike.calls k1 t503 t504 t505 t506 t507 t508 t509 _ _ t510 t514 t515 t516 t517 t518 t519 t520 _ _ t521 false _ ?side1 ?side2 ?side3 ?side4 A19.out).mono ?_
         (case side1 => repeat (first | exact (Kd.R_reads' HO512.out).2.2 | (with_reducible refine Kd.C_alloc ?_ _) | (with_reducible refine Kd.C_drewN ?_ _) | (with_reducible refine Kd.C_drew ?_)))
         (case side2 => exact (Kd.R_reads' HO512.out).2.1)
         (case side3 => repeat (first | exact (Kd.R_reads' HO523.out).2.2 | (with_reducible refine Kd.C_alloc ?_ _) | (with_reducible refine Kd.C_drewN ?_ _) | (with_reducible refine Kd.C_drew ?_)))
         (case side4 => exact (Kd.R_reads' HO523.out).2.1)
         rintro e w36 ⟨rfl, hb⟩
         refine ⟨_, rfl, ?_⟩
         have n0_ := Am_ (Rb_ (by (with_reducible repeat (first | apply Ra_ | apply Rn_ | apply Rd_)); exact HO512.out) hb)
         have n1_ := Am_ (Rb_ (by (with_reducible repeat (first | apply Ra_ | apply Rn_ | apply Rd_)); exact HO523.out) hb)
         have n2_ := Am_ (Bb_ (g := gb500) (o := .cells #[.slice (some ad502) l0_0.length c0_0, .int .i64 a0_1, .int .i64 a0_2] 24 (0, 0)) (by (with_reducible repeat (first | refine Bn_ ?_ _ | refine Bd_ ?_ | refine Ba_ ?_ _)); exact BK500.out) hb)
         have n3_ := Am_ (Bb_ (g := gb501) (o := .cells #[.slice (some ad513) l1_0.length c1_0, .int .i64 a1_1, .int .i64 a1_2] 24 (0, 0)) (by (with_reducible repeat (first | refine Bn_ ?_ _ | refine Bd_ ?_ | refine Ba_ ?_ _)); exact BK501.out) hb)
         have n4_ := Am_ (Be_ (by repeat (first | (with_reducible first | exact HB.out | apply Pa_ | apply Pn_ | apply Pd_ | refine Bs_ ?_ GE500.out | refine Bs_ ?_ GE501.out) | exact HB.out)) hb)
         clear HO512
         clear HO523
         clear BK500
         clear BK501
         clear HB
         have HO512 := n0_
         have HO523 := n1_
         have BK500 := n2_
         have BK501 := n3_
         have HB := n4_
         clear n0_ n1_ n2_ n3_ n4_
         (try clear hb)
         (try clear hb2)
         (try clear hk)
         (try clear hi)
         refine hK.out _ _ ⟨(Bc_ BK500.out 0).trans rfl, (Bc_ BK500.out 1).trans rfl, (Bc_ BK500.out 2).trans rfl, (Bc_ BK501.out 0).trans rfl, (Bc_ BK501.out 1).trans rfl, (Bc_ BK501.out 2).trans rfl, ((HB.out.cell (Bl_ w _ hw502_0)).trans hw502_0), ((HB.out.cell (Bl_ w _ hw502_1)).trans hw502_1), ((HB.out.cell (Bl_ w _ hw502_2)).trans hw502_2), ((HB.out.cell (Bl_ w _ hw502_3)).trans hw502_3), ((HB.out.cell (Bl_ w _ hw502_4)).trans hw502_4), ((HB.out.cell (Bl_ w _ hw502_5)).trans hw502_5), ((HB.out.cell (Bl_ w _ hw502_6)).trans hw502_6), ((HB.out.cell (Bl_ w _ hw502_7)).trans hw502_7), ((HB.out.cell (Bl_ w _ hw513_0)).trans hw513_0), ((HB.out.cell (Bl_ w _ hw513_1)).trans hw513_1), ((HB.out.cell (Bl_ w _ hw513_2)).trans hw513_2), ((HB.out.cell (Bl_ w _ hw513_3)).trans hw513_3), ((HB.out.cell (Bl_ w _ hw513_4)).trans hw513_4), ((HB.out.cell (Bl_ w _ hw513_5)).trans hw513_5), ((HB.out.cell (Bl_ w _ hw513_6)).trans hw513_6), ((HB.out.cell (Bl_ w _ hw513_7)).trans hw513_7)⟩ (fun hHeld => ?_)
         clear hK K
         refine norm_ (a' := ?_) ?_ ?_
         rotate_left
         ·show Act.put _ (some 38) _ = _
          simp only [Act.put, La_, Lb_, Lc_, i64_w, i32_w]
          rfl
         refine pure_ (i := 17) (N := some 39) (v := ?_) (a' := ?_) #[t_,t_,t_,t_,t_,t_,t_,t_,t_,t_,t_,t_,t_,t_,t_,t_,t_,t_,f_] rfl rfl (any_of HT_.out (by kernel_rfl)) (fun _ _ _ h => h) (Or.inl ⟨by rfl, ?_⟩) ?_ ?_
         rotate_left
         ·intro w'
          go_simp
          with_reducible rfl
         rotate_left
         ·simp only [Act.put, La_, Lb_, Lc_, i64_w, i32_w]
          rfl
         refine pure_ (i := 18) (N := some 40) (v := ?_) (a' := ?_) #[t_,t_,t_,t_,t_,t_,t_,t_,t_,t_,t_,t_,t_,t_,t_,t_,t_,t_,t_] rfl rfl (any_of HT_.out (by kernel_rfl)) (fun _ _ _ h => h) (Or.inl ⟨by rfl, ?_⟩) ?_ ?_
         rotate_left
         ·intro w'
          go_simp
          with_reducible rfl
         rotate_left
         ·simp only [Act.put, La_, Lb_, Lc_, i64_w, i32_w]
          rfl
         refine done_ (done_of HT_.out (by kernel_rfl)) ?_
         try go_wp2
         go_ret
         exact ⟨by first | rfl | (simp [errW_none, errW_some] <;> rfl) | (simp [*, errW_none, errW_some] <;> rfl), by repeat (first | (with_reducible first | exact HB.out | apply Pa_ | apply Pn_ | apply Pd_ | refine Bs_ ?_ GE500.out | refine Bs_ ?_ GE501.out) | exact HB.out)⟩
       ·rw [if_neg c17] at H
        exact absurd H (by simp)
      ·rw [if_neg c15] at H
       exact absurd H (by simp)
    ·rw [if_neg c10] at H
     have c10b0 : decide (x7_1 < (l0_0.length : Int)) = false := Df_ c10
     clear c10
     obtain rfl := Option.some.inj H
     have hnb37 := NB500_501.out
     have hnc37 := NB501_500.out
     have hcz38_0 : wr.cell? ⟨gb500, 0, none⟩ = some (.slice A0_0 l0_0.length c0_0) := (Bc_ BK500.out 0).trans rfl
     have hcz38_1 : wr.cell? ⟨gb500, 1, none⟩ = some (.int .i64 a0_1) := (Bc_ BK500.out 1).trans rfl
     have hcz38_2 : wr.cell? ⟨gb500, 2, none⟩ = some (.int .i64 a0_2) := (Bc_ BK500.out 2).trans rfl
     have hfz38_0 := Bf_ BK500.out 0
     have hfz38_1 := Bf_ BK500.out 1
     have hfz38_2 := Bf_ BK500.out 2
     go_wp2
     go_ret
     exact ⟨by first | rfl | (simp [errW_none, errW_some] <;> rfl) | (simp [*, errW_none, errW_some] <;> rfl), by repeat (first | (with_reducible first | exact HB.out | apply Pa_ | apply Pn_ | apply Pd_ | refine Bs_ ?_ GE500.out | refine Bs_ ?_ GE501.out) | exact HB.out)⟩
 ·rw [if_neg c4] at H
  have c4b0 : ((l0_0.length : Int) == (l1_0.length : Int)) = false := beq_eq_false_iff_ne.mpr c4
  have c4b1 : ((l0_0.length : Int) != (l1_0.length : Int)) = true := bne_iff_ne.mpr c4
  have c4b2 : (l0_0.length == l1_0.length) = false := by first | simpa using c4 | (simp at c4 ⊢; omega)
  obtain rfl := Option.some.inj H
  go_enter Try.func22, Try.ntmps22
  go_wp2_with (first | ((with_reducible refine gate_dst (N := 3) rfl ?_); refine box_event ?hg (N := 3) ?hd (cs := #[.slice A0_0 l0_0.length c0_0, .int .i64 a0_1, .int .i64 a0_2]) (t := 24) ?hr ?_; (case hd => rfl); (case hg => rfl); (case hr => first | (go_simp; done) | (go_simp; rfl)); intro gb500 hg w39 hbox hb; have n0_ := Am_ (Be_ (by repeat (first | (with_reducible first | exact HB.out | apply Pa_ | apply Pn_ | apply Pd_) | exact HB.out)) hb); have n1_ := Am_ (hbox); have n2_ := Am_ ((by rw [hg]; exact (Bz_ (by repeat (first | (with_reducible first | exact HB.out | apply Pa_ | apply Pn_ | apply Pd_) | exact HB.out))) : w.heap.size ≤ gb500)); have n3_ := Am_ ((by rw [hg]; exact (Bz_ (by repeat (first | (with_reducible first | exact HB.out | apply Pa_ | apply Pn_ | apply Pd_) | exact HB.out))) : w.heap.size ≤ gb500)); clear HB; have HB := n0_; have BK500 := n1_; have GW500 := n2_; have GE500 := n3_; clear n0_ n1_ n2_ n3_; clear hb hbox hg) | ((with_reducible refine gate_dst (N := 4) rfl ?_); refine box_event ?hg (N := 4) ?hd (cs := #[.slice A1_0 l1_0.length c1_0, .int .i64 a1_1, .int .i64 a1_2]) (t := 24) ?hr ?_; (case hd => rfl); (case hg => rfl); (case hr => first | (go_simp; done) | (go_simp; rfl)); intro gb501 hg w40 hbox hb; have n0_ := Am_ (Bb_ (g := gb500) (o := .cells #[.slice A0_0 l0_0.length c0_0, .int .i64 a0_1, .int .i64 a0_2] 24 (0, 0)) (by (with_reducible repeat (first | refine Bn_ ?_ _ | refine Bd_ ?_ | refine Ba_ ?_ _)); exact BK500.out) hb); have n1_ := Am_ (Be_ (by repeat (first | (with_reducible first | exact HB.out | apply Pa_ | apply Pn_ | apply Pd_ | refine Bs_ ?_ GE500.out) | exact HB.out)) hb); have n2_ := Am_ (hbox); have n3_ := Am_ ((by rw [hg]; exact (Bz_ (by repeat (first | (with_reducible first | exact HB.out | apply Pa_ | apply Pn_ | apply Pd_ | refine Bs_ ?_ GE500.out) | exact HB.out))) : w.heap.size ≤ gb501)); have n4_ := Am_ ((by rw [hg]; exact (Bz_ (by repeat (first | (with_reducible first | exact HB.out | apply Pa_ | apply Pn_ | apply Pd_ | refine Bs_ ?_ GE500.out) | exact HB.out))) : w.heap.size ≤ gb501)); have n5_ := Am_ ((by rw [hg]; exact Nat.ne_of_lt (blk_lt (g := gb500) (o := .cells #[.slice A0_0 l0_0.length c0_0, .int .i64 a0_1, .int .i64 a0_2] 24 (0, 0)) (by (with_reducible repeat (first | refine Bn_ ?_ _ | refine Bd_ ?_ | refine Ba_ ?_ _)); exact BK500.out)) : gb500 ≠ gb501)); have n6_ := Am_ ((by rw [hg]; exact Nat.ne_of_gt (blk_lt (g := gb500) (o := .cells #[.slice A0_0 l0_0.length c0_0, .int .i64 a0_1, .int .i64 a0_2] 24 (0, 0)) (by (with_reducible repeat (first | refine Bn_ ?_ _ | refine Bd_ ?_ | refine Ba_ ?_ _)); exact BK500.out)) : gb501 ≠ gb500)); clear BK500; clear HB; have BK500 := n0_; have HB := n1_; have BK501 := n2_; have GW501 := n3_; have GE501 := n4_; have NB500_501 := n5_; have NB501_500 := n6_; clear n0_ n1_ n2_ n3_ n4_ n5_ n6_; clear hb hbox hg; have hnb41 := NB500_501.out; have hnc41 := NB501_500.out; have hcz42_0 : w40.cell? ⟨gb500, 0, none⟩ = some (.slice A0_0 l0_0.length c0_0) := (Bc_ BK500.out 0).trans rfl; have hcz42_1 : w40.cell? ⟨gb500, 1, none⟩ = some (.int .i64 a0_1) := (Bc_ BK500.out 1).trans rfl; have hcz42_2 : w40.cell? ⟨gb500, 2, none⟩ = some (.int .i64 a0_2) := (Bc_ BK500.out 2).trans rfl; have hfz42_0 := Bf_ BK500.out 0; have hfz42_1 := Bf_ BK500.out 1; have hfz42_2 := Bf_ BK500.out 2; have hcz43_0 : w40.cell? ⟨gb501, 0, none⟩ = some (.slice A1_0 l1_0.length c1_0) := (Bc_ BK501.out 0).trans rfl; have hcz43_1 : w40.cell? ⟨gb501, 1, none⟩ = some (.int .i64 a1_1) := (Bc_ BK501.out 1).trans rfl; have hcz43_2 : w40.cell? ⟨gb501, 2, none⟩ = some (.int .i64 a1_2) := (Bc_ BK501.out 2).trans rfl; have hfz43_0 := Bf_ BK501.out 0; have hfz43_1 := Bf_ BK501.out 1; have hfz43_2 := Bf_ BK501.out 2))
  go_ret
  exact ⟨by first | rfl | (simp [errW_none, errW_some] <;> rfl) | (simp [*, errW_none, errW_some] <;> rfl), by repeat (first | (with_reducible first | exact HB.out | apply Pa_ | apply Pn_ | apply Pd_ | refine Bs_ ?_ GE500.out | refine Bs_ ?_ GE501.out) | exact HB.out)⟩

end Go.Proofs.Ytpeelfambaedkaa.P
