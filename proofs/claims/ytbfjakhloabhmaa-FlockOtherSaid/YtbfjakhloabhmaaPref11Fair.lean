-- Printed by a program of this session (inject.py) over the kit's print, with functions that were proved by hand in their places.
import Derived.Test.YtbfjakhloabhmaaPK
import Derived.Test.YtbfjakhloabhmaaPref11Holders
namespace Go.Proofs.Ytbfjakhloabhmaa.P
open Go.RowKit Go.Proofs.YtbfjakhloabhmaaW.PrintWords Go.Proofs.YtbfjakhloabhmaaW.PrintLast Go.Proofs.YtbfjakhloabhmaaW.PrintMore
attribute [local go_sem] max2_int min2_int max_two min_two max_three min_three max_four min_four   -- for this text's walks alone
set_option linter.unusedVariables false
set_option linter.unusedSimpArgs false

/-! ### flagstoneref11_Fair: function 18 -/
mutual
def flagstoneref11_Fair.l0 : Nat → Int → List (S52) → List (List Int) → Option (Bool)
 | 0, _, _, _ => none
 | k + 1, x3, x254000, x254001 => if x3 < (x254000.length : Int) then (if 0 ≤ x3 then (if ((rd_T52 x254000 x3).f5) < 0 then (flagstoneref11_Fair.j1 k x3 true x254000 x254001) else (flagstoneref11_Fair.j1 k x3 (decide (((rd_T52 x254000 x3).f5) > 2)) x254000 x254001)) else (none)) else (some true)
def flagstoneref11_Fair.j1 : Nat → Int → Bool → List (S52) → List (List Int) → Option (Bool)
 | 0, _, _, _, _ => none
 | k + 1, x3, x28, x254000, x254001 => if x28 = true then (some false) else (if 0 ≤ x3 then (if x3 < (x254000.length : Int) then ((flagstoneref11_Holders.f k x254000 x254001 ((rd_T52 x254000 x3).f0)).bind fun bt257 => (if bt257.2 > 1 then (some false) else (if bt257.2 = 1 then (if bt257.1 > 0 then (some false) else (flagstoneref11_Fair.l0 k (wrap64 (x3 + 1)) x254000 x254001)) else (flagstoneref11_Fair.l0 k (wrap64 (x3 + 1)) x254000 x254001)))) else (none)) else (none))
end
def flagstoneref11_Fair.f (k : Nat) (l0_0 : List (S52)) (l0_1 : List (List Int)) : Option (Bool) := flagstoneref11_Fair.l0 k 0 l0_0 l0_1
theorem flagstoneref11_Fair.mono_l : ∀ k, (∀ y0 y1 y2, LeO (flagstoneref11_Fair.l0 k y0 y1 y2) (flagstoneref11_Fair.l0 (k + 1) y0 y1 y2)) ∧ (∀ y0 y1 y2 y3, LeO (flagstoneref11_Fair.j1 k y0 y1 y2 y3) (flagstoneref11_Fair.j1 (k + 1) y0 y1 y2 y3))
 | 0 => ⟨fun _ _ _ r h => by simp [flagstoneref11_Fair.l0] at h, fun _ _ _ _ r h => by simp [flagstoneref11_Fair.j1] at h⟩
 | k + 1 => by
  obtain ⟨ih0, ih1⟩ := flagstoneref11_Fair.mono_l k
  refine ⟨?_, ?_⟩
  ·intro y0 y1 y2
   unfold flagstoneref11_Fair.l0
   repeat' first
   | (with_reducible exact ih0 _ _ _)
   | (with_reducible exact ih1 _ _ _ _)
   | (with_reducible exact flagstoneref11_Holders.mono _ _ _ _)
   | (with_reducible exact LeO.refl _)
   | (with_reducible exact LeO.none _)
   | (with_reducible refine LeO.ite ?_ ?_)
   | (with_reducible refine LeO.bind ?_ (fun _ => ?_))
   | exact ih0 _ _ _
   | exact ih1 _ _ _ _
   | exact flagstoneref11_Holders.mono _ _ _ _
   | exact LeO.none _
   | refine LeO.ite ?_ ?_
   | refine LeO.bind ?_ (fun _ => ?_)
  ·intro y0 y1 y2 y3
   unfold flagstoneref11_Fair.j1
   repeat' first
   | (with_reducible exact ih0 _ _ _)
   | (with_reducible exact ih1 _ _ _ _)
   | (with_reducible exact flagstoneref11_Holders.mono _ _ _ _)
   | (with_reducible exact LeO.refl _)
   | (with_reducible exact LeO.none _)
   | (with_reducible refine LeO.ite ?_ ?_)
   | (with_reducible refine LeO.bind ?_ (fun _ => ?_))
   | exact ih0 _ _ _
   | exact ih1 _ _ _ _
   | exact flagstoneref11_Holders.mono _ _ _ _
   | exact LeO.none _
   | refine LeO.ite ?_ ?_
   | refine LeO.bind ?_ (fun _ => ?_)
theorem flagstoneref11_Fair.mono : ∀ a0 a1 k, LeO (flagstoneref11_Fair.f k a0 a1) (flagstoneref11_Fair.f (k + 1) a0 a1) := by
 intro a0 a1 k
 obtain ⟨ih0, ih1⟩ := flagstoneref11_Fair.mono_l k
 unfold flagstoneref11_Fair.f
 repeat' first
   | (with_reducible exact ih0 _ _ _)
   | (with_reducible exact ih1 _ _ _ _)
   | (with_reducible exact flagstoneref11_Holders.mono _ _ _ _)
   | (with_reducible exact LeO.refl _)
   | (with_reducible exact LeO.none _)
   | (with_reducible refine LeO.ite ?_ ?_)
   | (with_reducible refine LeO.bind ?_ (fun _ => ?_))
   | exact ih0 _ _ _
   | exact ih1 _ _ _ _
   | exact flagstoneref11_Holders.mono _ _ _ _
   | exact LeO.none _
   | refine LeO.ite ?_ ?_
   | refine LeO.bind ?_ (fun _ => ?_)
def flagstoneref11_Fair.T6 : Bool × List (List Nat × List Nat) := (true, [([], []), ([], []), ([1], [1]), ([], []), ([2, 3], [2, 3]), ([4], [4]), ([5], [5]), ([0, 6], [0, 6]), ([7], [7]), ([8], [8]), ([8], [8]), ([9, 7, 0, 1, 2, 3, 4, 5, 6, 7, 8, 9], [9]), ([10, 11, 0, 1, 2, 3, 4, 5, 6, 7, 8, 9, 10, 11], [10])])
def flagstoneref11_Fair.B6 : List Nat := [0, 0, 2, 0, 14, 30, 62, 127, 255, 511, 511, 1023, 4095]
theorem flagstoneref11_Fair.tab6 : rtab .any (opsOf Try.f18 6) = flagstoneref11_Fair.T6 := by kernel_rfl
theorem flagstoneref11_Fair.bits6 : waitsOk flagstoneref11_Fair.T6.2 flagstoneref11_Fair.B6 = true := by kernel_rfl
set_option maxHeartbeats 8000000 in
set_option maxRecDepth 100000 in
theorem flagstoneref11_Fair.calls (k : Nat) (A0_0 : Option Addr) (c0_0 : Nat) (l0_0 : List (S52)) (A0_1 : Option Addr) (c0_1 : Nat) (l0_1 : List (List Int)) (r : Bool) (w : World) (hr0_0 : Kd.C k52 w A0_0 l0_0.length l0_0) (hc0_0 : l0_0.length ≤ c0_0) (hr0_1 : Kd.C (Kd.slice 3 (Kd.int .i64)) w A0_1 l0_1.length l0_1) (hc0_1 : l0_1.length ≤ c0_1) (h : flagstoneref11_Fair.f k l0_0 l0_1 = some r) :
  Calls Try.prog 18 #[.agg #[.slice A0_0 l0_0.length c0_0, .slice A0_1 l0_1.length c0_1]] w fun e w' => e = .returned (.bool r) ∧ Below w.heap.size w w' := by
 have hu33 := Try.underlying33
 have HR0_0 := Am_ hr0_0
 have HC0_0 := Am_ hc0_0
 clear hr0_0 hc0_0
 have HR0_1 := Am_ hr0_1
 have HC0_1 := Am_ hc0_1
 clear hr0_1 hc0_1
 have HB := Am_ (Below.refl w.heap.size w)
 have H : (flagstoneref11_Fair.l0 k 0 l0_0 l0_1) = some r := h
 clear h
 have H' := Am_ H
 clear H
 go_enter Try.func18, Try.ntmps18
 go_wp2_with (first | ((with_reducible refine gate_dst (N := 1) rfl ?_); refine box_event ?hg (N := 1) ?hd (cs := #[.slice A0_0 l0_0.length c0_0, .slice A0_1 l0_1.length c0_1]) (t := 33) ?hr ?_; (case hd => rfl); (case hg => rfl); (case hr => first | (go_simp; done) | (go_simp; rfl)); intro gb253 hg w2 hbox hb; have n0_ := Am_ (Be_ (by repeat (first | (with_reducible first | exact HB.out | apply Pa_ | apply Pn_ | apply Pd_) | exact HB.out)) hb); have n1_ := Am_ (hbox); have n2_ := Am_ ((by rw [hg]; exact (Bz_ (by repeat (first | (with_reducible first | exact HB.out | apply Pa_ | apply Pn_ | apply Pd_) | exact HB.out))) : w.heap.size ≤ gb253)); have n3_ := Am_ ((by rw [hg]; exact (Bz_ (by repeat (first | (with_reducible first | exact HB.out | apply Pa_ | apply Pn_ | apply Pd_) | exact HB.out))) : w.heap.size ≤ gb253)); clear HB; have HB := n0_; have BK253 := n1_; have GW253 := n2_; have GE253 := n3_; clear n0_ n1_ n2_ n3_; clear hb hbox hg))
 go_loopg [3] k (fun kq v3 w' => ∃ (x3_1 : Int), v3 = .int .i64 x3_1 ∧ Aside0 (flagstoneref11_Fair.l0 kq x3_1 l0_0 l0_1 = some r) ∧ Aside0 (kq ≤ k) ∧ Aside0 (w'.heap[gb253]? = some (.cells #[(.slice A0_0 l0_0.length c0_0), (.slice A0_1 l0_1.length c0_1)] 33 (0, 0))) ∧ Aside0 (Below w.heap.size w w'))
 case atStart => exact ⟨(0), (by first | rfl | (simp; done) | (simp [*]; done)), H', ⟨Nat.le_refl _⟩, ⟨by (with_reducible repeat (first | refine Bn_ ?_ _ | refine Bd_ ?_ | refine Ba_ ?_ _)); exact BK253.out⟩, ⟨by repeat (first | (with_reducible first | exact HB.out | apply Pa_ | apply Pn_ | apply Pd_ | refine Bs_ ?_ GE253.out) | exact HB.out)⟩⟩
 case round =>
  clear H'
  try clear c1
  try clear p2
  obtain ⟨x3_1, rfl, HA, HK1, BK253, HB⟩ := hrel
  cases gk with
  | zero => exact absurd HA.out (by simp [flagstoneref11_Fair.l0])
  | succ k1 =>
   have H := HA.out
   clear HA
   simp only [flagstoneref11_Fair.l0] at H
   by_cases c3 : x3_1 < (l0_0.length : Int)
   ·rw [if_pos c3] at H
    have c3b0 : decide (x3_1 < (l0_0.length : Int)) = true := Dt_ c3
    clear c3
    have HC4 := Am_ H
    clear H
    have hcz5_0 : wr.cell? ⟨gb253, 0, none⟩ = some (.slice A0_0 l0_0.length c0_0) := (Bc_ BK253.out 0).trans rfl
    have hcz5_1 : wr.cell? ⟨gb253, 1, none⟩ = some (.slice A0_1 l0_1.length c0_1) := (Bc_ BK253.out 1).trans rfl
    have hfz5_0 := Bf_ BK253.out 0
    have hfz5_1 := Bf_ BK253.out 1
    go_upto_region 4 with (fail)
    go_cut [28] (fun v28 wc => ∃ (kq : Nat) (x28_3 : Bool), v28 = .bool x28_3 ∧ Aside0 (flagstoneref11_Fair.j1 kq x3_1 x28_3 l0_0 l0_1 = some r) ∧ Aside0 (kq ≤ k1) ∧ Aside0 (wc.heap[gb253]? = some (.cells #[(.slice A0_0 l0_0.length c0_0), (.slice A0_1 l0_1.length c0_1)] 33 (0, 0))) ∧ Aside0 (Below w.heap.size w wc))
    case first =>
     have H := HC4.out
     clear HC4
     by_cases c6 : 0 ≤ x3_1
     ·rw [if_pos c6] at H
      have c6b0 : decide (0 ≤ x3_1) = true := Dt_ c6
      clear c6
      (first | rw [c6b0] | (simp only [i64_w, i32_w]; rw [c6b0]) | skip)
      by_cases c7 : ((rd_T52 l0_0 x3_1).f5) < 0
      ·rw [if_pos c7] at H
       have c7b0 : decide (((rd_T52 l0_0 x3_1).f5) < 0) = true := Dt_ c7
       clear c7
       have H' := Am_ H
       clear H
       have hcz8_0 : wr.cell? ⟨gb253, 0, none⟩ = some (.slice A0_0 l0_0.length c0_0) := (Bc_ BK253.out 0).trans rfl
       have hcz8_1 : wr.cell? ⟨gb253, 1, none⟩ = some (.slice A0_1 l0_1.length c0_1) := (Bc_ BK253.out 1).trans rfl
       have hfz8_0 := Bf_ BK253.out 0
       have hfz8_1 := Bf_ BK253.out 1
       have p254 : 0 ≤ (x3_1 : Int) := Ot_ (by first | (with_reducible assumption) | assumption)
       have q254 : x3_1 < (l0_0.length : Int) := Ot_ (by first | (with_reducible assumption) | assumption)
       obtain ⟨ad254, e254, hx254_0, hx254_1, hx254_2, hx254_3, hx254_4, hx254_5⟩ := at_T52 HR0_0.out x3_1 p254 q254
       cases e254
       replace hx254_0 := (HB.out.cell (Bl_ w _ hx254_0)).trans hx254_0
       replace hx254_1 := (HB.out.cell (Bl_ w _ hx254_1)).trans hx254_1
       replace hx254_2 := (HB.out.cell (Bl_ w _ hx254_2)).trans hx254_2
       replace hx254_3 := (HB.out.cell (Bl_ w _ hx254_3)).trans hx254_3
       replace hx254_4 := (HB.out.cell (Bl_ w _ hx254_4)).trans hx254_4
       replace hx254_5 := (HB.out.cell (Bl_ w _ hx254_5)).trans hx254_5
       replace p254 := eq_true p254
       replace q254 := eq_true q254
       go_wp2
       go_meet
       case rel => exact ⟨_, (true), (by first | rfl | (simp; done) | (simp [*]; done)), H', ⟨by have := HK1.out; first | omega | exact Nat.le_refl _⟩, ⟨by (with_reducible repeat (first | refine Bn_ ?_ _ | refine Bd_ ?_ | refine Ba_ ?_ _)); exact BK253.out⟩, ⟨by repeat (first | (with_reducible first | exact HB.out | apply Pa_ | apply Pn_ | apply Pd_ | refine Bs_ ?_ GE253.out) | exact HB.out)⟩⟩
      ·rw [if_neg c7] at H
       have c7b0 : decide (((rd_T52 l0_0 x3_1).f5) < 0) = false := Df_ c7
       clear c7
       have H' := Am_ H
       clear H
       have hcz9_0 : wr.cell? ⟨gb253, 0, none⟩ = some (.slice A0_0 l0_0.length c0_0) := (Bc_ BK253.out 0).trans rfl
       have hcz9_1 : wr.cell? ⟨gb253, 1, none⟩ = some (.slice A0_1 l0_1.length c0_1) := (Bc_ BK253.out 1).trans rfl
       have hfz9_0 := Bf_ BK253.out 0
       have hfz9_1 := Bf_ BK253.out 1
       have p254 : 0 ≤ (x3_1 : Int) := Ot_ (by first | (with_reducible assumption) | assumption)
       have q254 : x3_1 < (l0_0.length : Int) := Ot_ (by first | (with_reducible assumption) | assumption)
       obtain ⟨ad254, e254, hx254_0, hx254_1, hx254_2, hx254_3, hx254_4, hx254_5⟩ := at_T52 HR0_0.out x3_1 p254 q254
       cases e254
       replace hx254_0 := (HB.out.cell (Bl_ w _ hx254_0)).trans hx254_0
       replace hx254_1 := (HB.out.cell (Bl_ w _ hx254_1)).trans hx254_1
       replace hx254_2 := (HB.out.cell (Bl_ w _ hx254_2)).trans hx254_2
       replace hx254_3 := (HB.out.cell (Bl_ w _ hx254_3)).trans hx254_3
       replace hx254_4 := (HB.out.cell (Bl_ w _ hx254_4)).trans hx254_4
       replace hx254_5 := (HB.out.cell (Bl_ w _ hx254_5)).trans hx254_5
       replace p254 := eq_true p254
       replace q254 := eq_true q254
       have p255 : 0 ≤ (x3_1 : Int) := Ot_ (by first | (with_reducible assumption) | assumption)
       have q255 : x3_1 < (l0_0.length : Int) := Ot_ (by first | (with_reducible assumption) | assumption)
       obtain ⟨ad255, e255, hx255_0, hx255_1, hx255_2, hx255_3, hx255_4, hx255_5⟩ := at_T52 HR0_0.out x3_1 p255 q255
       obtain rfl : ad254 = ad255 := (by injection e255)
       replace hx255_0 := (HB.out.cell (Bl_ w _ hx255_0)).trans hx255_0
       replace hx255_1 := (HB.out.cell (Bl_ w _ hx255_1)).trans hx255_1
       replace hx255_2 := (HB.out.cell (Bl_ w _ hx255_2)).trans hx255_2
       replace hx255_3 := (HB.out.cell (Bl_ w _ hx255_3)).trans hx255_3
       replace hx255_4 := (HB.out.cell (Bl_ w _ hx255_4)).trans hx255_4
       replace hx255_5 := (HB.out.cell (Bl_ w _ hx255_5)).trans hx255_5
       replace p255 := eq_true p255
       replace q255 := eq_true q255
       go_wp2
       go_meet
       case rel => exact ⟨_, (decide (((rd_T52 l0_0 x3_1).f5) > 2)), (by first | rfl | (simp; done) | (simp [*]; done)), H', ⟨by have := HK1.out; first | omega | exact Nat.le_refl _⟩, ⟨by (with_reducible repeat (first | refine Bn_ ?_ _ | refine Bd_ ?_ | refine Ba_ ?_ _)); exact BK253.out⟩, ⟨by repeat (first | (with_reducible first | exact HB.out | apply Pa_ | apply Pn_ | apply Pd_ | refine Bs_ ?_ GE253.out) | exact HB.out)⟩⟩
     ·rw [if_neg c6] at H
      exact absurd H (by simp)
    case rest =>
     clear HC4
     try clear c1
     try clear p2
     try clear q2
     try clear hx2
     try clear c3
     try clear c3b0
     try clear c6
     try clear c6b0
     try clear c7
     try clear c7b0
     try clear hcz5_0
     try clear hcz5_1
     try clear hcz8_0
     try clear hcz8_1
     try clear hcz9_0
     try clear hcz9_1
     try clear hfz5_0
     try clear hfz5_1
     try clear hfz8_0
     try clear hfz8_1
     try clear hfz9_0
     try clear hfz9_1
     try clear hx254_0
     try clear hx254_1
     try clear hx254_2
     try clear hx254_3
     try clear hx254_4
     try clear hx254_5
     try clear hx255_0
     try clear hx255_1
     try clear hx255_2
     try clear hx255_3
     try clear hx255_4
     try clear hx255_5
     try clear p2
     try clear p254
     try clear p255
     try clear q254
     try clear q255
     obtain ⟨kq, x28_3, rfl, HA, HJ3, BK253, HB⟩ := hcut
     cases kq with
     | zero => exact absurd HA.out (by simp [flagstoneref11_Fair.j1])
     | succ kj3 =>
      have H := HA.out
      clear HA
      simp only [flagstoneref11_Fair.j1] at H
      by_cases c10 : x28_3 = true
      ·subst c10
       have H1 : (some false) = some r := by rw [if_pos rfl] at H; exact H
       clear H
       have H := H1
       clear H1
       obtain rfl := Option.some.inj H
       go_wp2
       go_ret
       exact ⟨by first | rfl | (simp [errW_none, errW_some] <;> rfl) | (simp [*, errW_none, errW_some] <;> rfl), by repeat (first | (with_reducible first | exact HB.out | apply Pa_ | apply Pn_ | apply Pd_ | refine Bs_ ?_ GE253.out) | exact HB.out)⟩
      ·replace c10 := Bool.eq_false_iff.mpr c10
       subst c10
       have H1 : (if 0 ≤ x3_1 then (if x3_1 < (l0_0.length : Int) then ((flagstoneref11_Holders.f kj3 l0_0 l0_1 ((rd_T52 l0_0 x3_1).f0)).bind fun bt257 => (if bt257.2 > 1 then (some false) else (if bt257.2 = 1 then (if bt257.1 > 0 then (some false) else (flagstoneref11_Fair.l0 kj3 (wrap64 (x3_1 + 1)) l0_0 l0_1)) else (flagstoneref11_Fair.l0 kj3 (wrap64 (x3_1 + 1)) l0_0 l0_1)))) else (none)) else (none)) = some r := by rw [if_neg (show ¬ (false = true) by decide)] at H; exact H
       clear H
       have H := H1
       clear H1
       by_cases c11 : 0 ≤ x3_1
       ·rw [if_pos c11] at H
        have c11b0 : decide (0 ≤ x3_1) = true := Dt_ c11
        clear c11
        by_cases c12 : x3_1 < (l0_0.length : Int)
        ·rw [if_pos c12] at H
         have c12b0 : decide (x3_1 < (l0_0.length : Int)) = true := Dt_ c12
         clear c12
         replace H := Option.bind_eq_some_iff.mp H
         obtain ⟨⟨t257, t258⟩, A130, H⟩ := H
         replace H : (if t258 > 1 then (some false) else (if t258 = 1 then (if t257 > 0 then (some false) else (flagstoneref11_Fair.l0 kj3 (wrap64 (x3_1 + 1)) l0_0 l0_1)) else (flagstoneref11_Fair.l0 kj3 (wrap64 (x3_1 + 1)) l0_0 l0_1))) = some r := H
         have A13 := Am_ A130
         clear A130
         by_cases c14 : t258 > 1
         ·rw [if_pos c14] at H
          have c14b0 : decide (1 < t258) = true := Dt_ c14
          clear c14
          obtain rfl := Option.some.inj H
          try go_wp2
          have n0_ := Am_ (Bd_ BK253.out)
          have n1_ := Am_ (Pd_ HB.out)
          clear BK253
          clear HB
          have BK253 := n0_
          have HB := n1_
          clear n0_ n1_
          have p256 : 0 ≤ (x3_1 : Int) := Ot_ (by first | (with_reducible assumption) | assumption)
          have q256 : x3_1 < (l0_0.length : Int) := Ot_ (by first | (with_reducible assumption) | assumption)
          obtain ⟨ad256, e256, hx256_0, hx256_1, hx256_2, hx256_3, hx256_4, hx256_5⟩ := at_T52 HR0_0.out x3_1 p256 q256
          have hw256_5 := hx256_5
          have hw256_4 := hx256_4
          have hw256_3 := hx256_3
          have hw256_2 := hx256_2
          have hw256_1 := hx256_1
          have hw256_0 := hx256_0
          cases e256
          replace hx256_0 := (HB.out.cell (Bl_ w _ hx256_0)).trans hx256_0
          replace hx256_1 := (HB.out.cell (Bl_ w _ hx256_1)).trans hx256_1
          replace hx256_2 := (HB.out.cell (Bl_ w _ hx256_2)).trans hx256_2
          replace hx256_3 := (HB.out.cell (Bl_ w _ hx256_3)).trans hx256_3
          replace hx256_4 := (HB.out.cell (Bl_ w _ hx256_4)).trans hx256_4
          replace hx256_5 := (HB.out.cell (Bl_ w _ hx256_5)).trans hx256_5
          replace p256 := eq_true p256
          replace q256 := eq_true q256
          refine start_ (n := 13) (S := fun w' => w'.cell? ⟨gb253, 0, none⟩ = some (.slice (some ad256) l0_0.length c0_0) ∧ w'.cell? ⟨gb253, 1, none⟩ = some (.slice A0_1 l0_1.length c0_1) ∧ w'.cell? (ad256.add ((x3_1).toNat * 6)) = some (.int .i64 ((rd_T52 l0_0 x3_1).f0)) ∧ w'.cell? ⟨(ad256.add ((x3_1).toNat * 6)).block, (ad256.add ((x3_1).toNat * 6)).off + 1, none⟩ = some (.int .i64 ((rd_T52 l0_0 x3_1).f1)) ∧ w'.cell? ⟨(ad256.add ((x3_1).toNat * 6)).block, (ad256.add ((x3_1).toNat * 6)).off + 2, none⟩ = some (.bool ((rd_T52 l0_0 x3_1).f2)) ∧ w'.cell? ⟨(ad256.add ((x3_1).toNat * 6)).block, (ad256.add ((x3_1).toNat * 6)).off + 3, none⟩ = some (.bool ((rd_T52 l0_0 x3_1).f3)) ∧ w'.cell? ⟨(ad256.add ((x3_1).toNat * 6)).block, (ad256.add ((x3_1).toNat * 6)).off + 4, none⟩ = some (.int .i64 ((rd_T52 l0_0 x3_1).f4)) ∧ w'.cell? ⟨(ad256.add ((x3_1).toNat * 6)).block, (ad256.add ((x3_1).toNat * 6)).off + 5, none⟩ = some (.int .i64 ((rd_T52 l0_0 x3_1).f5))) (ds := []) #[f_,f_,f_,f_,f_,f_,f_,f_,f_,f_,f_,f_,f_] (by kernel_rfl) rfl rfl ⟨(Bc_ BK253.out 0).trans rfl, (Bc_ BK253.out 1).trans rfl, ((HB.out.cell (Bl_ w _ hw256_0)).trans hw256_0), ((HB.out.cell (Bl_ w _ hw256_1)).trans hw256_1), ((HB.out.cell (Bl_ w _ hw256_2)).trans hw256_2), ((HB.out.cell (Bl_ w _ hw256_3)).trans hw256_3), ((HB.out.cell (Bl_ w _ hw256_4)).trans hw256_4), ((HB.out.cell (Bl_ w _ hw256_5)).trans hw256_5)⟩ (fun hHeld => ?_); refine with_tabW flagstoneref11_Fair.tab6 flagstoneref11_Fair.bits6 (fun HT_ HW_ => ?_)
          generalize wc.drew = w15 at BK253 HB hx256_0 hx256_1 hx256_2 hx256_3 hx256_4 hx256_5 hHeld ⊢
          refine pure_ (i := 1) (N := some 31) (v := ?_) (a' := ?_) #[f_,t_,f_,f_,f_,f_,f_,f_,f_,f_,f_,f_,f_] rfl rfl (any_of HT_.out (by kernel_rfl)) (fun _ _ _ h => h) (Or.inl ⟨by rfl, ?_⟩) ?_ ?_
          rotate_left
          ·intro w'
           go_simp
           with_reducible rfl
          rotate_left
          ·simp only [Act.put, La_, Lb_, Lc_, i64_w, i32_w]
           rfl
          refine pure_ (i := 3) (N := some 33) (v := ?_) (a' := ?_) #[f_,t_,f_,t_,f_,f_,f_,f_,f_,f_,f_,f_,f_] rfl rfl (any_of HT_.out (by kernel_rfl)) (fun _ _ _ h => h) (Or.inl ⟨by rfl, ?_⟩) ?_ ?_
          rotate_left
          ·intro w'
           go_simp
           with_reducible rfl
          rotate_left
          ·simp only [Act.put, La_, Lb_, Lc_, i64_w, i32_w]
           rfl
          refine take_ (i := 0) (N := some 30) (v := ?_) (a' := ?_) #[t_,t_,f_,t_,f_,f_,f_,f_,f_,f_,f_,f_,f_] rfl rfl (take_ofW HT_.out HW_.out (by kernel_rfl)) (fun _ _ _ h => h) (Or.inl ⟨by rfl, ?_⟩) hHeld ?_ ?_
          rotate_left
          ·rintro w' ⟨s0, s1, s2, s3, s4, s5, s6, s7⟩
           go_simp
           with_reducible rfl
          rotate_left
          ·simp only [Act.put, La_, Lb_, Lc_, i64_w, i32_w]
           rfl
          refine take_ (i := 2) (N := some 32) (v := ?_) (a' := ?_) #[t_,t_,t_,t_,f_,f_,f_,f_,f_,f_,f_,f_,f_] rfl rfl (take_ofW HT_.out HW_.out (by kernel_rfl)) (fun _ _ _ h => h) (Or.inl ⟨by rfl, ?_⟩) hHeld ?_ ?_
          rotate_left
          ·rintro w' ⟨s0, s1, s2, s3, s4, s5, s6, s7⟩
           go_simp
           with_reducible rfl
          rotate_left
          ·simp only [Act.put, La_, Lb_, Lc_, i64_w, i32_w]
           rfl
          refine pure_ (i := 4) (N := some 34) (v := ?_) (a' := ?_) #[t_,t_,t_,t_,t_,f_,f_,f_,f_,f_,f_,f_,f_] rfl rfl (any_of HT_.out (by kernel_rfl)) (fun _ _ _ h => h) (Or.inl ⟨by rfl, ?_⟩) ?_ ?_
          rotate_left
          ·intro w'
           go_simp
           with_reducible rfl
          rotate_left
          ·simp only [Act.put, La_, Lb_, Lc_, i64_w, i32_w]
           rfl
          refine pure_ (i := 5) (N := some 35) (v := ?_) (a' := ?_) #[t_,t_,t_,t_,t_,t_,f_,f_,f_,f_,f_,f_,f_] rfl rfl (any_of HT_.out (by kernel_rfl)) (fun _ _ _ h => h) (Or.inl ⟨by rfl, ?_⟩) ?_ ?_
          rotate_left
          ·intro w'
           go_simp
           with_reducible rfl
          rotate_left
          ·simp only [Act.put, La_, Lb_, Lc_, i64_w, i32_w]
           rfl
          refine take_ (i := 6) (N := some 36) (v := ?_) (a' := ?_) #[t_,t_,t_,t_,t_,t_,t_,f_,f_,f_,f_,f_,f_] rfl rfl (take_ofW HT_.out HW_.out (by kernel_rfl)) (fun _ _ _ h => h) (Or.inl ⟨by rfl, ?_⟩) hHeld ?_ ?_
          rotate_left
          ·rintro w' ⟨s0, s1, s2, s3, s4, s5, s6, s7⟩
           go_simp
           with_reducible rfl
          rotate_left
          ·simp only [Act.put, La_, Lb_, Lc_, i64_w, i32_w]
           rfl
          refine one_ (i := 7) (N := some 37) #[t_,t_,t_,t_,t_,t_,t_,t_,f_,f_,f_,f_,f_] rfl rfl (one_of HT_.out (by kernel_rfl)) (by decide) (fun K hK => ?_)
          refine goes_ Try.func15 (by kernel_rfl) rfl #[.agg #[.slice (some ad256) l0_0.length c0_0, .slice A0_1 l0_1.length c0_1], .int .i64 ((rd_T52 l0_0 x3_1).f0)] (by rfl) rfl rfl (by (try simp only [List.map_toArray, List.map_cons, List.map_nil]); first | done | rfl | (simp only [List.length_drop, List.length_take]; rfl)) ?_
          with_reducible refine (flagstoneref11_Holders.calls kj3 _ _ l0_0 _ _ l0_1 ((rd_T52 l0_0 x3_1).f0) t257 t258 _ ?side1 ?side2 ?side3 ?side4 A13.out).mono ?_
          (case side1 => repeat (first | exact (Kd.C_below HR0_0.out HB.out) | (with_reducible refine Kd.C_alloc ?_ _) | (with_reducible refine Kd.C_drewN ?_ _) | (with_reducible refine Kd.C_drew ?_)))
          (case side2 => exact HC0_0.out)
          (case side3 => repeat (first | exact (Kd.C_below HR0_1.out HB.out) | (with_reducible refine Kd.C_alloc ?_ _) | (with_reducible refine Kd.C_drewN ?_ _) | (with_reducible refine Kd.C_drew ?_)))
          (case side4 => exact HC0_1.out)
          rintro e w16 ⟨rfl, hb⟩
          refine ⟨_, rfl, ?_⟩
          have n0_ := Am_ (Bb_ (g := gb253) (o := .cells #[.slice (some ad256) l0_0.length c0_0, .slice A0_1 l0_1.length c0_1] 33 (0, 0)) (by (with_reducible repeat (first | refine Bn_ ?_ _ | refine Bd_ ?_ | refine Ba_ ?_ _)); exact BK253.out) hb)
          have n1_ := Am_ (Be_ (by repeat (first | (with_reducible first | exact HB.out | apply Pa_ | apply Pn_ | apply Pd_ | refine Bs_ ?_ GE253.out) | exact HB.out)) hb)
          clear BK253
          clear HB
          have BK253 := n0_
          have HB := n1_
          clear n0_ n1_
          (try clear hb)
          (try clear hb2)
          (try clear hk)
          (try clear hi)
          refine hK.out _ _ ⟨(Bc_ BK253.out 0).trans rfl, (Bc_ BK253.out 1).trans rfl, ((HB.out.cell (Bl_ w _ hw256_0)).trans hw256_0), ((HB.out.cell (Bl_ w _ hw256_1)).trans hw256_1), ((HB.out.cell (Bl_ w _ hw256_2)).trans hw256_2), ((HB.out.cell (Bl_ w _ hw256_3)).trans hw256_3), ((HB.out.cell (Bl_ w _ hw256_4)).trans hw256_4), ((HB.out.cell (Bl_ w _ hw256_5)).trans hw256_5)⟩ (fun hHeld => ?_)
          clear hK K
          refine norm_ (a' := ?_) ?_ ?_
          rotate_left
          ·show Act.put _ (some 37) _ = _
           simp only [Act.put, La_, Lb_, Lc_, i64_w, i32_w]
           rfl
          refine pure_ (i := 8) (N := some 29) (v := ?_) (a' := ?_) #[t_,t_,t_,t_,t_,t_,t_,t_,t_,f_,f_,f_,f_] rfl rfl (any_of HT_.out (by kernel_rfl)) (fun _ _ _ h => h) (Or.inl ⟨by rfl, ?_⟩) ?_ ?_
          rotate_left
          ·intro w'
           go_simp
           with_reducible rfl
          rotate_left
          ·simp only [Act.put, La_, Lb_, Lc_, i64_w, i32_w]
           rfl
          refine pure_ (i := 9) (N := some 38) (v := ?_) (a' := ?_) #[t_,t_,t_,t_,t_,t_,t_,t_,t_,t_,f_,f_,f_] rfl rfl (any_of HT_.out (by kernel_rfl)) (fun _ _ _ h => h) (Or.inl ⟨by rfl, ?_⟩) ?_ ?_
          rotate_left
          ·intro w'
           go_simp
           with_reducible rfl
          rotate_left
          ·simp only [Act.put, La_, Lb_, Lc_, i64_w, i32_w]
           rfl
          refine pure_ (i := 10) (N := some 39) (v := ?_) (a' := ?_) #[t_,t_,t_,t_,t_,t_,t_,t_,t_,t_,t_,f_,f_] rfl rfl (any_of HT_.out (by kernel_rfl)) (fun _ _ _ h => h) (Or.inl ⟨by rfl, ?_⟩) ?_ ?_
          rotate_left
          ·intro w'
           go_simp
           with_reducible rfl
          rotate_left
          ·simp only [Act.put, La_, Lb_, Lc_, i64_w, i32_w]
           rfl
          refine pure_ (i := 11) (N := some 4) (v := ?_) (a' := ?_) #[t_,t_,t_,t_,t_,t_,t_,t_,t_,t_,t_,t_,f_] rfl rfl (any_of HT_.out (by kernel_rfl)) (fun _ _ _ h => h) (Or.inl ⟨by rfl, ?_⟩) ?_ ?_
          rotate_left
          ·intro w'
           go_simp
           with_reducible rfl
          rotate_left
          ·simp only [Act.put, La_, Lb_, Lc_, i64_w, i32_w]
           rfl
          refine pure_ (i := 12) (N := some 5) (v := ?_) (a' := ?_) #[t_,t_,t_,t_,t_,t_,t_,t_,t_,t_,t_,t_,t_] rfl rfl (any_of HT_.out (by kernel_rfl)) (fun _ _ _ h => h) (Or.inl ⟨by rfl, ?_⟩) ?_ ?_
          rotate_left
          ·intro w'
           go_simp
           with_reducible rfl
          rotate_left
          ·simp only [Act.put, La_, Lb_, Lc_, i64_w, i32_w]
           rfl
          refine done_ (done_of HT_.out (by kernel_rfl)) ?_
          try go_wp2
          go_ret
          exact ⟨by first | rfl | (simp [errW_none, errW_some] <;> rfl) | (simp [*, errW_none, errW_some] <;> rfl), by repeat (first | (with_reducible first | exact HB.out | apply Pa_ | apply Pn_ | apply Pd_ | refine Bs_ ?_ GE253.out) | exact HB.out)⟩
         ·rw [if_neg c14] at H
          have c14b0 : decide (1 < t258) = false := Df_ c14
          clear c14
          by_cases c17 : t258 = 1
          ·rw [if_pos c17] at H
           have c17b0 : (t258 == 1) = true := beq_iff_eq.mpr c17
           have c17b1 : (t258 != 1) = false := bne_eq_false_iff_eq.mpr c17
           clear c17
           by_cases c18 : t257 > 0
           ·rw [if_pos c18] at H
            have c18b0 : decide (0 < t257) = true := Dt_ c18
            clear c18
            obtain rfl := Option.some.inj H
            try go_wp2
            have n0_ := Am_ (Bd_ BK253.out)
            have n1_ := Am_ (Pd_ HB.out)
            clear BK253
            clear HB
            have BK253 := n0_
            have HB := n1_
            clear n0_ n1_
            have p256 : 0 ≤ (x3_1 : Int) := Ot_ (by first | (with_reducible assumption) | assumption)
            have q256 : x3_1 < (l0_0.length : Int) := Ot_ (by first | (with_reducible assumption) | assumption)
            obtain ⟨ad256, e256, hx256_0, hx256_1, hx256_2, hx256_3, hx256_4, hx256_5⟩ := at_T52 HR0_0.out x3_1 p256 q256
            have hw256_5 := hx256_5
            have hw256_4 := hx256_4
            have hw256_3 := hx256_3
            have hw256_2 := hx256_2
            have hw256_1 := hx256_1
            have hw256_0 := hx256_0
            cases e256
            replace hx256_0 := (HB.out.cell (Bl_ w _ hx256_0)).trans hx256_0
            replace hx256_1 := (HB.out.cell (Bl_ w _ hx256_1)).trans hx256_1
            replace hx256_2 := (HB.out.cell (Bl_ w _ hx256_2)).trans hx256_2
            replace hx256_3 := (HB.out.cell (Bl_ w _ hx256_3)).trans hx256_3
            replace hx256_4 := (HB.out.cell (Bl_ w _ hx256_4)).trans hx256_4
            replace hx256_5 := (HB.out.cell (Bl_ w _ hx256_5)).trans hx256_5
            replace p256 := eq_true p256
            replace q256 := eq_true q256
            refine start_ (n := 13) (S := fun w' => w'.cell? ⟨gb253, 0, none⟩ = some (.slice (some ad256) l0_0.length c0_0) ∧ w'.cell? ⟨gb253, 1, none⟩ = some (.slice A0_1 l0_1.length c0_1) ∧ w'.cell? (ad256.add ((x3_1).toNat * 6)) = some (.int .i64 ((rd_T52 l0_0 x3_1).f0)) ∧ w'.cell? ⟨(ad256.add ((x3_1).toNat * 6)).block, (ad256.add ((x3_1).toNat * 6)).off + 1, none⟩ = some (.int .i64 ((rd_T52 l0_0 x3_1).f1)) ∧ w'.cell? ⟨(ad256.add ((x3_1).toNat * 6)).block, (ad256.add ((x3_1).toNat * 6)).off + 2, none⟩ = some (.bool ((rd_T52 l0_0 x3_1).f2)) ∧ w'.cell? ⟨(ad256.add ((x3_1).toNat * 6)).block, (ad256.add ((x3_1).toNat * 6)).off + 3, none⟩ = some (.bool ((rd_T52 l0_0 x3_1).f3)) ∧ w'.cell? ⟨(ad256.add ((x3_1).toNat * 6)).block, (ad256.add ((x3_1).toNat * 6)).off + 4, none⟩ = some (.int .i64 ((rd_T52 l0_0 x3_1).f4)) ∧ w'.cell? ⟨(ad256.add ((x3_1).toNat * 6)).block, (ad256.add ((x3_1).toNat * 6)).off + 5, none⟩ = some (.int .i64 ((rd_T52 l0_0 x3_1).f5))) (ds := []) #[f_,f_,f_,f_,f_,f_,f_,f_,f_,f_,f_,f_,f_] (by kernel_rfl) rfl rfl ⟨(Bc_ BK253.out 0).trans rfl, (Bc_ BK253.out 1).trans rfl, ((HB.out.cell (Bl_ w _ hw256_0)).trans hw256_0), ((HB.out.cell (Bl_ w _ hw256_1)).trans hw256_1), ((HB.out.cell (Bl_ w _ hw256_2)).trans hw256_2), ((HB.out.cell (Bl_ w _ hw256_3)).trans hw256_3), ((HB.out.cell (Bl_ w _ hw256_4)).trans hw256_4), ((HB.out.cell (Bl_ w _ hw256_5)).trans hw256_5)⟩ (fun hHeld => ?_); refine with_tabW flagstoneref11_Fair.tab6 flagstoneref11_Fair.bits6 (fun HT_ HW_ => ?_)
            generalize wc.drew = w19 at BK253 HB hx256_0 hx256_1 hx256_2 hx256_3 hx256_4 hx256_5 hHeld ⊢
            refine pure_ (i := 1) (N := some 31) (v := ?_) (a' := ?_) #[f_,t_,f_,f_,f_,f_,f_,f_,f_,f_,f_,f_,f_] rfl rfl (any_of HT_.out (by kernel_rfl)) (fun _ _ _ h => h) (Or.inl ⟨by rfl, ?_⟩) ?_ ?_
            rotate_left
            ·intro w'
             go_simp
             with_reducible rfl
            rotate_left
            ·simp only [Act.put, La_, Lb_, Lc_, i64_w, i32_w]
             rfl
            refine pure_ (i := 3) (N := some 33) (v := ?_) (a' := ?_) #[f_,t_,f_,t_,f_,f_,f_,f_,f_,f_,f_,f_,f_] rfl rfl (any_of HT_.out (by kernel_rfl)) (fun _ _ _ h => h) (Or.inl ⟨by rfl, ?_⟩) ?_ ?_
            rotate_left
            ·intro w'
             go_simp
             with_reducible rfl
            rotate_left
            ·simp only [Act.put, La_, Lb_, Lc_, i64_w, i32_w]
             rfl
            refine take_ (i := 0) (N := some 30) (v := ?_) (a' := ?_) #[t_,t_,f_,t_,f_,f_,f_,f_,f_,f_,f_,f_,f_] rfl rfl (take_ofW HT_.out HW_.out (by kernel_rfl)) (fun _ _ _ h => h) (Or.inl ⟨by rfl, ?_⟩) hHeld ?_ ?_
            rotate_left
            ·rintro w' ⟨s0, s1, s2, s3, s4, s5, s6, s7⟩
             go_simp
             with_reducible rfl
            rotate_left
            ·simp only [Act.put, La_, Lb_, Lc_, i64_w, i32_w]
             rfl
            refine take_ (i := 2) (N := some 32) (v := ?_) (a' := ?_) #[t_,t_,t_,t_,f_,f_,f_,f_,f_,f_,f_,f_,f_] rfl rfl (take_ofW HT_.out HW_.out (by kernel_rfl)) (fun _ _ _ h => h) (Or.inl ⟨by rfl, ?_⟩) hHeld ?_ ?_
            rotate_left
            ·rintro w' ⟨s0, s1, s2, s3, s4, s5, s6, s7⟩
             go_simp
             with_reducible rfl
            rotate_left
            ·simp only [Act.put, La_, Lb_, Lc_, i64_w, i32_w]
             rfl
            refine pure_ (i := 4) (N := some 34) (v := ?_) (a' := ?_) #[t_,t_,t_,t_,t_,f_,f_,f_,f_,f_,f_,f_,f_] rfl rfl (any_of HT_.out (by kernel_rfl)) (fun _ _ _ h => h) (Or.inl ⟨by rfl, ?_⟩) ?_ ?_
            rotate_left
            ·intro w'
             go_simp
             with_reducible rfl
            rotate_left
            ·simp only [Act.put, La_, Lb_, Lc_, i64_w, i32_w]
             rfl
            refine pure_ (i := 5) (N := some 35) (v := ?_) (a' := ?_) #[t_,t_,t_,t_,t_,t_,f_,f_,f_,f_,f_,f_,f_] rfl rfl (any_of HT_.out (by kernel_rfl)) (fun _ _ _ h => h) (Or.inl ⟨by rfl, ?_⟩) ?_ ?_
            rotate_left
            ·intro w'
             go_simp
             with_reducible rfl
            rotate_left
            ·simp only [Act.put, La_, Lb_, Lc_, i64_w, i32_w]
             rfl
            refine take_ (i := 6) (N := some 36) (v := ?_) (a' := ?_) #[t_,t_,t_,t_,t_,t_,t_,f_,f_,f_,f_,f_,f_] rfl rfl (take_ofW HT_.out HW_.out (by kernel_rfl)) (fun _ _ _ h => h) (Or.inl ⟨by rfl, ?_⟩) hHeld ?_ ?_
            rotate_left
            ·rintro w' ⟨s0, s1, s2, s3, s4, s5, s6, s7⟩
             go_simp
             with_reducible rfl
            rotate_left
            ·simp only [Act.put, La_, Lb_, Lc_, i64_w, i32_w]
             rfl
            refine one_ (i := 7) (N := some 37) #[t_,t_,t_,t_,t_,t_,t_,t_,f_,f_,f_,f_,f_] rfl rfl (one_of HT_.out (by kernel_rfl)) (by decide) (fun K hK => ?_)
            refine goes_ Try.func15 (by kernel_rfl) rfl #[.agg #[.slice (some ad256) l0_0.length c0_0, .slice A0_1 l0_1.length c0_1], .int .i64 ((rd_T52 l0_0 x3_1).f0)] (by rfl) rfl rfl (by (try simp only [List.map_toArray, List.map_cons, List.map_nil]); first | done | rfl | (simp only [List.length_drop, List.length_take]; rfl)) ?_
            with_reducible refine (flagstoneref11_Holders.calls kj3 _ _ l0_0 _ _ l0_1 ((rd_T52 l0_0 x3_1).f0) t257 t258 _ ?side1 ?side2 ?side3 ?side4 A13.out).mono ?_
            (case side1 => repeat (first | exact (Kd.C_below HR0_0.out HB.out) | (with_reducible refine Kd.C_alloc ?_ _) | (with_reducible refine Kd.C_drewN ?_ _) | (with_reducible refine Kd.C_drew ?_)))
            (case side2 => exact HC0_0.out)
            (case side3 => repeat (first | exact (Kd.C_below HR0_1.out HB.out) | (with_reducible refine Kd.C_alloc ?_ _) | (with_reducible refine Kd.C_drewN ?_ _) | (with_reducible refine Kd.C_drew ?_)))
            (case side4 => exact HC0_1.out)
            rintro e w20 ⟨rfl, hb⟩
            refine ⟨_, rfl, ?_⟩
            have n0_ := Am_ (Bb_ (g := gb253) (o := .cells #[.slice (some ad256) l0_0.length c0_0, .slice A0_1 l0_1.length c0_1] 33 (0, 0)) (by (with_reducible repeat (first | refine Bn_ ?_ _ | refine Bd_ ?_ | refine Ba_ ?_ _)); exact BK253.out) hb)
            have n1_ := Am_ (Be_ (by repeat (first | (with_reducible first | exact HB.out | apply Pa_ | apply Pn_ | apply Pd_ | refine Bs_ ?_ GE253.out) | exact HB.out)) hb)
            clear BK253
            clear HB
            have BK253 := n0_
            have HB := n1_
            clear n0_ n1_
            (try clear hb)
            (try clear hb2)
            (try clear hk)
            (try clear hi)
            refine hK.out _ _ ⟨(Bc_ BK253.out 0).trans rfl, (Bc_ BK253.out 1).trans rfl, ((HB.out.cell (Bl_ w _ hw256_0)).trans hw256_0), ((HB.out.cell (Bl_ w _ hw256_1)).trans hw256_1), ((HB.out.cell (Bl_ w _ hw256_2)).trans hw256_2), ((HB.out.cell (Bl_ w _ hw256_3)).trans hw256_3), ((HB.out.cell (Bl_ w _ hw256_4)).trans hw256_4), ((HB.out.cell (Bl_ w _ hw256_5)).trans hw256_5)⟩ (fun hHeld => ?_)
            clear hK K
            refine norm_ (a' := ?_) ?_ ?_
            rotate_left
            ·show Act.put _ (some 37) _ = _
             simp only [Act.put, La_, Lb_, Lc_, i64_w, i32_w]
             rfl
            refine pure_ (i := 8) (N := some 29) (v := ?_) (a' := ?_) #[t_,t_,t_,t_,t_,t_,t_,t_,t_,f_,f_,f_,f_] rfl rfl (any_of HT_.out (by kernel_rfl)) (fun _ _ _ h => h) (Or.inl ⟨by rfl, ?_⟩) ?_ ?_
            rotate_left
            ·intro w'
             go_simp
             with_reducible rfl
            rotate_left
            ·simp only [Act.put, La_, Lb_, Lc_, i64_w, i32_w]
             rfl
            refine pure_ (i := 9) (N := some 38) (v := ?_) (a' := ?_) #[t_,t_,t_,t_,t_,t_,t_,t_,t_,t_,f_,f_,f_] rfl rfl (any_of HT_.out (by kernel_rfl)) (fun _ _ _ h => h) (Or.inl ⟨by rfl, ?_⟩) ?_ ?_
            rotate_left
            ·intro w'
             go_simp
             with_reducible rfl
            rotate_left
            ·simp only [Act.put, La_, Lb_, Lc_, i64_w, i32_w]
             rfl
            refine pure_ (i := 10) (N := some 39) (v := ?_) (a' := ?_) #[t_,t_,t_,t_,t_,t_,t_,t_,t_,t_,t_,f_,f_] rfl rfl (any_of HT_.out (by kernel_rfl)) (fun _ _ _ h => h) (Or.inl ⟨by rfl, ?_⟩) ?_ ?_
            rotate_left
            ·intro w'
             go_simp
             with_reducible rfl
            rotate_left
            ·simp only [Act.put, La_, Lb_, Lc_, i64_w, i32_w]
             rfl
            refine pure_ (i := 11) (N := some 4) (v := ?_) (a' := ?_) #[t_,t_,t_,t_,t_,t_,t_,t_,t_,t_,t_,t_,f_] rfl rfl (any_of HT_.out (by kernel_rfl)) (fun _ _ _ h => h) (Or.inl ⟨by rfl, ?_⟩) ?_ ?_
            rotate_left
            ·intro w'
             go_simp
             with_reducible rfl
            rotate_left
            ·simp only [Act.put, La_, Lb_, Lc_, i64_w, i32_w]
             rfl
            refine pure_ (i := 12) (N := some 5) (v := ?_) (a' := ?_) #[t_,t_,t_,t_,t_,t_,t_,t_,t_,t_,t_,t_,t_] rfl rfl (any_of HT_.out (by kernel_rfl)) (fun _ _ _ h => h) (Or.inl ⟨by rfl, ?_⟩) ?_ ?_
            rotate_left
            ·intro w'
             go_simp
             with_reducible rfl
            rotate_left
            ·simp only [Act.put, La_, Lb_, Lc_, i64_w, i32_w]
             rfl
            refine done_ (done_of HT_.out (by kernel_rfl)) ?_
            try go_wp2
            go_ret
            exact ⟨by first | rfl | (simp [errW_none, errW_some] <;> rfl) | (simp [*, errW_none, errW_some] <;> rfl), by repeat (first | (with_reducible first | exact HB.out | apply Pa_ | apply Pn_ | apply Pd_ | refine Bs_ ?_ GE253.out) | exact HB.out)⟩
           ·rw [if_neg c18] at H
            have c18b0 : decide (0 < t257) = false := Df_ c18
            clear c18
            have H' := Am_ H
            clear H
            try go_wp2
            have n0_ := Am_ (Bd_ BK253.out)
            have n1_ := Am_ (Pd_ HB.out)
            clear BK253
            clear HB
            have BK253 := n0_
            have HB := n1_
            clear n0_ n1_
            have p256 : 0 ≤ (x3_1 : Int) := Ot_ (by first | (with_reducible assumption) | assumption)
            have q256 : x3_1 < (l0_0.length : Int) := Ot_ (by first | (with_reducible assumption) | assumption)
            obtain ⟨ad256, e256, hx256_0, hx256_1, hx256_2, hx256_3, hx256_4, hx256_5⟩ := at_T52 HR0_0.out x3_1 p256 q256
            have hw256_5 := hx256_5
            have hw256_4 := hx256_4
            have hw256_3 := hx256_3
            have hw256_2 := hx256_2
            have hw256_1 := hx256_1
            have hw256_0 := hx256_0
            cases e256
            replace hx256_0 := (HB.out.cell (Bl_ w _ hx256_0)).trans hx256_0
            replace hx256_1 := (HB.out.cell (Bl_ w _ hx256_1)).trans hx256_1
            replace hx256_2 := (HB.out.cell (Bl_ w _ hx256_2)).trans hx256_2
            replace hx256_3 := (HB.out.cell (Bl_ w _ hx256_3)).trans hx256_3
            replace hx256_4 := (HB.out.cell (Bl_ w _ hx256_4)).trans hx256_4
            replace hx256_5 := (HB.out.cell (Bl_ w _ hx256_5)).trans hx256_5
            replace p256 := eq_true p256
            replace q256 := eq_true q256
            refine start_ (n := 13) (S := fun w' => w'.cell? ⟨gb253, 0, none⟩ = some (.slice (some ad256) l0_0.length c0_0) ∧ w'.cell? ⟨gb253, 1, none⟩ = some (.slice A0_1 l0_1.length c0_1) ∧ w'.cell? (ad256.add ((x3_1).toNat * 6)) = some (.int .i64 ((rd_T52 l0_0 x3_1).f0)) ∧ w'.cell? ⟨(ad256.add ((x3_1).toNat * 6)).block, (ad256.add ((x3_1).toNat * 6)).off + 1, none⟩ = some (.int .i64 ((rd_T52 l0_0 x3_1).f1)) ∧ w'.cell? ⟨(ad256.add ((x3_1).toNat * 6)).block, (ad256.add ((x3_1).toNat * 6)).off + 2, none⟩ = some (.bool ((rd_T52 l0_0 x3_1).f2)) ∧ w'.cell? ⟨(ad256.add ((x3_1).toNat * 6)).block, (ad256.add ((x3_1).toNat * 6)).off + 3, none⟩ = some (.bool ((rd_T52 l0_0 x3_1).f3)) ∧ w'.cell? ⟨(ad256.add ((x3_1).toNat * 6)).block, (ad256.add ((x3_1).toNat * 6)).off + 4, none⟩ = some (.int .i64 ((rd_T52 l0_0 x3_1).f4)) ∧ w'.cell? ⟨(ad256.add ((x3_1).toNat * 6)).block, (ad256.add ((x3_1).toNat * 6)).off + 5, none⟩ = some (.int .i64 ((rd_T52 l0_0 x3_1).f5))) (ds := []) #[f_,f_,f_,f_,f_,f_,f_,f_,f_,f_,f_,f_,f_] (by kernel_rfl) rfl rfl ⟨(Bc_ BK253.out 0).trans rfl, (Bc_ BK253.out 1).trans rfl, ((HB.out.cell (Bl_ w _ hw256_0)).trans hw256_0), ((HB.out.cell (Bl_ w _ hw256_1)).trans hw256_1), ((HB.out.cell (Bl_ w _ hw256_2)).trans hw256_2), ((HB.out.cell (Bl_ w _ hw256_3)).trans hw256_3), ((HB.out.cell (Bl_ w _ hw256_4)).trans hw256_4), ((HB.out.cell (Bl_ w _ hw256_5)).trans hw256_5)⟩ (fun hHeld => ?_); refine with_tabW flagstoneref11_Fair.tab6 flagstoneref11_Fair.bits6 (fun HT_ HW_ => ?_)
            generalize wc.drew = w21 at BK253 HB hx256_0 hx256_1 hx256_2 hx256_3 hx256_4 hx256_5 hHeld ⊢
            refine pure_ (i := 1) (N := some 31) (v := ?_) (a' := ?_) #[f_,t_,f_,f_,f_,f_,f_,f_,f_,f_,f_,f_,f_] rfl rfl (any_of HT_.out (by kernel_rfl)) (fun _ _ _ h => h) (Or.inl ⟨by rfl, ?_⟩) ?_ ?_
            rotate_left
            ·intro w'
             go_simp
             with_reducible rfl
            rotate_left
            ·simp only [Act.put, La_, Lb_, Lc_, i64_w, i32_w]
             rfl
            refine pure_ (i := 3) (N := some 33) (v := ?_) (a' := ?_) #[f_,t_,f_,t_,f_,f_,f_,f_,f_,f_,f_,f_,f_] rfl rfl (any_of HT_.out (by kernel_rfl)) (fun _ _ _ h => h) (Or.inl ⟨by rfl, ?_⟩) ?_ ?_
            rotate_left
            ·intro w'
             go_simp
             with_reducible rfl
            rotate_left
            ·simp only [Act.put, La_, Lb_, Lc_, i64_w, i32_w]
             rfl
            refine take_ (i := 0) (N := some 30) (v := ?_) (a' := ?_) #[t_,t_,f_,t_,f_,f_,f_,f_,f_,f_,f_,f_,f_] rfl rfl (take_ofW HT_.out HW_.out (by kernel_rfl)) (fun _ _ _ h => h) (Or.inl ⟨by rfl, ?_⟩) hHeld ?_ ?_
            rotate_left
            ·rintro w' ⟨s0, s1, s2, s3, s4, s5, s6, s7⟩
             go_simp
             with_reducible rfl
            rotate_left
            ·simp only [Act.put, La_, Lb_, Lc_, i64_w, i32_w]
             rfl
            refine take_ (i := 2) (N := some 32) (v := ?_) (a' := ?_) #[t_,t_,t_,t_,f_,f_,f_,f_,f_,f_,f_,f_,f_] rfl rfl (take_ofW HT_.out HW_.out (by kernel_rfl)) (fun _ _ _ h => h) (Or.inl ⟨by rfl, ?_⟩) hHeld ?_ ?_
            rotate_left
            ·rintro w' ⟨s0, s1, s2, s3, s4, s5, s6, s7⟩
             go_simp
             with_reducible rfl
            rotate_left
            ·simp only [Act.put, La_, Lb_, Lc_, i64_w, i32_w]
             rfl
            refine pure_ (i := 4) (N := some 34) (v := ?_) (a' := ?_) #[t_,t_,t_,t_,t_,f_,f_,f_,f_,f_,f_,f_,f_] rfl rfl (any_of HT_.out (by kernel_rfl)) (fun _ _ _ h => h) (Or.inl ⟨by rfl, ?_⟩) ?_ ?_
            rotate_left
            ·intro w'
             go_simp
             with_reducible rfl
            rotate_left
            ·simp only [Act.put, La_, Lb_, Lc_, i64_w, i32_w]
             rfl
            refine pure_ (i := 5) (N := some 35) (v := ?_) (a' := ?_) #[t_,t_,t_,t_,t_,t_,f_,f_,f_,f_,f_,f_,f_] rfl rfl (any_of HT_.out (by kernel_rfl)) (fun _ _ _ h => h) (Or.inl ⟨by rfl, ?_⟩) ?_ ?_
            rotate_left
            ·intro w'
             go_simp
             with_reducible rfl
            rotate_left
            ·simp only [Act.put, La_, Lb_, Lc_, i64_w, i32_w]
             rfl
            refine take_ (i := 6) (N := some 36) (v := ?_) (a' := ?_) #[t_,t_,t_,t_,t_,t_,t_,f_,f_,f_,f_,f_,f_] rfl rfl (take_ofW HT_.out HW_.out (by kernel_rfl)) (fun _ _ _ h => h) (Or.inl ⟨by rfl, ?_⟩) hHeld ?_ ?_
            rotate_left
            ·rintro w' ⟨s0, s1, s2, s3, s4, s5, s6, s7⟩
             go_simp
             with_reducible rfl
            rotate_left
            ·simp only [Act.put, La_, Lb_, Lc_, i64_w, i32_w]
             rfl
            refine one_ (i := 7) (N := some 37) #[t_,t_,t_,t_,t_,t_,t_,t_,f_,f_,f_,f_,f_] rfl rfl (one_of HT_.out (by kernel_rfl)) (by decide) (fun K hK => ?_)
            refine goes_ Try.func15 (by kernel_rfl) rfl #[.agg #[.slice (some ad256) l0_0.length c0_0, .slice A0_1 l0_1.length c0_1], .int .i64 ((rd_T52 l0_0 x3_1).f0)] (by rfl) rfl rfl (by (try simp only [List.map_toArray, List.map_cons, List.map_nil]); first | done | rfl | (simp only [List.length_drop, List.length_take]; rfl)) ?_
            with_reducible refine (flagstoneref11_Holders.calls kj3 _ _ l0_0 _ _ l0_1 ((rd_T52 l0_0 x3_1).f0) t257 t258 _ ?side1 ?side2 ?side3 ?side4 A13.out).mono ?_
            (case side1 => repeat (first | exact (Kd.C_below HR0_0.out HB.out) | (with_reducible refine Kd.C_alloc ?_ _) | (with_reducible refine Kd.C_drewN ?_ _) | (with_reducible refine Kd.C_drew ?_)))
            (case side2 => exact HC0_0.out)
            (case side3 => repeat (first | exact (Kd.C_below HR0_1.out HB.out) | (with_reducible refine Kd.C_alloc ?_ _) | (with_reducible refine Kd.C_drewN ?_ _) | (with_reducible refine Kd.C_drew ?_)))
            (case side4 => exact HC0_1.out)
            rintro e w22 ⟨rfl, hb⟩
            refine ⟨_, rfl, ?_⟩
            have n0_ := Am_ (Bb_ (g := gb253) (o := .cells #[.slice (some ad256) l0_0.length c0_0, .slice A0_1 l0_1.length c0_1] 33 (0, 0)) (by (with_reducible repeat (first | refine Bn_ ?_ _ | refine Bd_ ?_ | refine Ba_ ?_ _)); exact BK253.out) hb)
            have n1_ := Am_ (Be_ (by repeat (first | (with_reducible first | exact HB.out | apply Pa_ | apply Pn_ | apply Pd_ | refine Bs_ ?_ GE253.out) | exact HB.out)) hb)
            clear BK253
            clear HB
            have BK253 := n0_
            have HB := n1_
            clear n0_ n1_
            (try clear hb)
            (try clear hb2)
            (try clear hk)
            (try clear hi)
            refine hK.out _ _ ⟨(Bc_ BK253.out 0).trans rfl, (Bc_ BK253.out 1).trans rfl, ((HB.out.cell (Bl_ w _ hw256_0)).trans hw256_0), ((HB.out.cell (Bl_ w _ hw256_1)).trans hw256_1), ((HB.out.cell (Bl_ w _ hw256_2)).trans hw256_2), ((HB.out.cell (Bl_ w _ hw256_3)).trans hw256_3), ((HB.out.cell (Bl_ w _ hw256_4)).trans hw256_4), ((HB.out.cell (Bl_ w _ hw256_5)).trans hw256_5)⟩ (fun hHeld => ?_)
            clear hK K
            refine norm_ (a' := ?_) ?_ ?_
            rotate_left
            ·show Act.put _ (some 37) _ = _
             simp only [Act.put, La_, Lb_, Lc_, i64_w, i32_w]
             rfl
            refine pure_ (i := 8) (N := some 29) (v := ?_) (a' := ?_) #[t_,t_,t_,t_,t_,t_,t_,t_,t_,f_,f_,f_,f_] rfl rfl (any_of HT_.out (by kernel_rfl)) (fun _ _ _ h => h) (Or.inl ⟨by rfl, ?_⟩) ?_ ?_
            rotate_left
            ·intro w'
             go_simp
             with_reducible rfl
            rotate_left
            ·simp only [Act.put, La_, Lb_, Lc_, i64_w, i32_w]
             rfl
            refine pure_ (i := 9) (N := some 38) (v := ?_) (a' := ?_) #[t_,t_,t_,t_,t_,t_,t_,t_,t_,t_,f_,f_,f_] rfl rfl (any_of HT_.out (by kernel_rfl)) (fun _ _ _ h => h) (Or.inl ⟨by rfl, ?_⟩) ?_ ?_
            rotate_left
            ·intro w'
             go_simp
             with_reducible rfl
            rotate_left
            ·simp only [Act.put, La_, Lb_, Lc_, i64_w, i32_w]
             rfl
            refine pure_ (i := 10) (N := some 39) (v := ?_) (a' := ?_) #[t_,t_,t_,t_,t_,t_,t_,t_,t_,t_,t_,f_,f_] rfl rfl (any_of HT_.out (by kernel_rfl)) (fun _ _ _ h => h) (Or.inl ⟨by rfl, ?_⟩) ?_ ?_
            rotate_left
            ·intro w'
             go_simp
             with_reducible rfl
            rotate_left
            ·simp only [Act.put, La_, Lb_, Lc_, i64_w, i32_w]
             rfl
            refine pure_ (i := 11) (N := some 4) (v := ?_) (a' := ?_) #[t_,t_,t_,t_,t_,t_,t_,t_,t_,t_,t_,t_,f_] rfl rfl (any_of HT_.out (by kernel_rfl)) (fun _ _ _ h => h) (Or.inl ⟨by rfl, ?_⟩) ?_ ?_
            rotate_left
            ·intro w'
             go_simp
             with_reducible rfl
            rotate_left
            ·simp only [Act.put, La_, Lb_, Lc_, i64_w, i32_w]
             rfl
            refine pure_ (i := 12) (N := some 5) (v := ?_) (a' := ?_) #[t_,t_,t_,t_,t_,t_,t_,t_,t_,t_,t_,t_,t_] rfl rfl (any_of HT_.out (by kernel_rfl)) (fun _ _ _ h => h) (Or.inl ⟨by rfl, ?_⟩) ?_ ?_
            rotate_left
            ·intro w'
             go_simp
             with_reducible rfl
            rotate_left
            ·simp only [Act.put, La_, Lb_, Lc_, i64_w, i32_w]
             rfl
            refine done_ (done_of HT_.out (by kernel_rfl)) ?_
            try go_wp2
            go_roundg kj3
            case measure => have := HK1.out; have := HJ3.out; omega
            case rel => exact ⟨(wrap64 (x3_1 + 1)), (by first | rfl | (simp; done) | (simp [*]; done)), H', ⟨by have := HK1.out; have := HJ3.out; omega⟩, ⟨by (with_reducible repeat (first | refine Bn_ ?_ _ | refine Bd_ ?_ | refine Ba_ ?_ _)); exact BK253.out⟩, ⟨by repeat (first | (with_reducible first | exact HB.out | apply Pa_ | apply Pn_ | apply Pd_ | refine Bs_ ?_ GE253.out) | exact HB.out)⟩⟩
          ·rw [if_neg c17] at H
           have c17b0 : (t258 == 1) = false := beq_eq_false_iff_ne.mpr c17
           have c17b1 : (t258 != 1) = true := bne_iff_ne.mpr c17
           have H' := Am_ H
           clear H
           try go_wp2
           have n0_ := Am_ (Bd_ BK253.out)
           have n1_ := Am_ (Pd_ HB.out)
           clear BK253
           clear HB
           have BK253 := n0_
           have HB := n1_
           clear n0_ n1_
           have p256 : 0 ≤ (x3_1 : Int) := Ot_ (by first | (with_reducible assumption) | assumption)
           have q256 : x3_1 < (l0_0.length : Int) := Ot_ (by first | (with_reducible assumption) | assumption)
           obtain ⟨ad256, e256, hx256_0, hx256_1, hx256_2, hx256_3, hx256_4, hx256_5⟩ := at_T52 HR0_0.out x3_1 p256 q256
           have hw256_5 := hx256_5
           have hw256_4 := hx256_4
           have hw256_3 := hx256_3
           have hw256_2 := hx256_2
           have hw256_1 := hx256_1
           have hw256_0 := hx256_0
           cases e256
           replace hx256_0 := (HB.out.cell (Bl_ w _ hx256_0)).trans hx256_0
           replace hx256_1 := (HB.out.cell (Bl_ w _ hx256_1)).trans hx256_1
           replace hx256_2 := (HB.out.cell (Bl_ w _ hx256_2)).trans hx256_2
           replace hx256_3 := (HB.out.cell (Bl_ w _ hx256_3)).trans hx256_3
           replace hx256_4 := (HB.out.cell (Bl_ w _ hx256_4)).trans hx256_4
           replace hx256_5 := (HB.out.cell (Bl_ w _ hx256_5)).trans hx256_5
           replace p256 := eq_true p256
           replace q256 := eq_true q256
           refine start_ (n := 13) (S := fun w' => w'.cell? ⟨gb253, 0, none⟩ = some (.slice (some ad256) l0_0.length c0_0) ∧ w'.cell? ⟨gb253, 1, none⟩ = some (.slice A0_1 l0_1.length c0_1) ∧ w'.cell? (ad256.add ((x3_1).toNat * 6)) = some (.int .i64 ((rd_T52 l0_0 x3_1).f0)) ∧ w'.cell? ⟨(ad256.add ((x3_1).toNat * 6)).block, (ad256.add ((x3_1).toNat * 6)).off + 1, none⟩ = some (.int .i64 ((rd_T52 l0_0 x3_1).f1)) ∧ w'.cell? ⟨(ad256.add ((x3_1).toNat * 6)).block, (ad256.add ((x3_1).toNat * 6)).off + 2, none⟩ = some (.bool ((rd_T52 l0_0 x3_1).f2)) ∧ w'.cell? ⟨(ad256.add ((x3_1).toNat * 6)).block, (ad256.add ((x3_1).toNat * 6)).off + 3, none⟩ = some (.bool ((rd_T52 l0_0 x3_1).f3)) ∧ w'.cell? ⟨(ad256.add ((x3_1).toNat * 6)).block, (ad256.add ((x3_1).toNat * 6)).off + 4, none⟩ = some (.int .i64 ((rd_T52 l0_0 x3_1).f4)) ∧ w'.cell? ⟨(ad256.add ((x3_1).toNat * 6)).block, (ad256.add ((x3_1).toNat * 6)).off + 5, none⟩ = some (.int .i64 ((rd_T52 l0_0 x3_1).f5))) (ds := []) #[f_,f_,f_,f_,f_,f_,f_,f_,f_,f_,f_,f_,f_] (by kernel_rfl) rfl rfl ⟨(Bc_ BK253.out 0).trans rfl, (Bc_ BK253.out 1).trans rfl, ((HB.out.cell (Bl_ w _ hw256_0)).trans hw256_0), ((HB.out.cell (Bl_ w _ hw256_1)).trans hw256_1), ((HB.out.cell (Bl_ w _ hw256_2)).trans hw256_2), ((HB.out.cell (Bl_ w _ hw256_3)).trans hw256_3), ((HB.out.cell (Bl_ w _ hw256_4)).trans hw256_4), ((HB.out.cell (Bl_ w _ hw256_5)).trans hw256_5)⟩ (fun hHeld => ?_); refine with_tabW flagstoneref11_Fair.tab6 flagstoneref11_Fair.bits6 (fun HT_ HW_ => ?_)
           generalize wc.drew = w23 at BK253 HB hx256_0 hx256_1 hx256_2 hx256_3 hx256_4 hx256_5 hHeld ⊢
           refine pure_ (i := 1) (N := some 31) (v := ?_) (a' := ?_) #[f_,t_,f_,f_,f_,f_,f_,f_,f_,f_,f_,f_,f_] rfl rfl (any_of HT_.out (by kernel_rfl)) (fun _ _ _ h => h) (Or.inl ⟨by rfl, ?_⟩) ?_ ?_
           rotate_left
           ·intro w'
            go_simp
            with_reducible rfl
           rotate_left
           ·simp only [Act.put, La_, Lb_, Lc_, i64_w, i32_w]
            rfl
           refine pure_ (i := 3) (N := some 33) (v := ?_) (a' := ?_) #[f_,t_,f_,t_,f_,f_,f_,f_,f_,f_,f_,f_,f_] rfl rfl (any_of HT_.out (by kernel_rfl)) (fun _ _ _ h => h) (Or.inl ⟨by rfl, ?_⟩) ?_ ?_
           rotate_left
           ·intro w'
            go_simp
            with_reducible rfl
           rotate_left
           ·simp only [Act.put, La_, Lb_, Lc_, i64_w, i32_w]
            rfl
           refine take_ (i := 0) (N := some 30) (v := ?_) (a' := ?_) #[t_,t_,f_,t_,f_,f_,f_,f_,f_,f_,f_,f_,f_] rfl rfl (take_ofW HT_.out HW_.out (by kernel_rfl)) (fun _ _ _ h => h) (Or.inl ⟨by rfl, ?_⟩) hHeld ?_ ?_
           rotate_left
           ·rintro w' ⟨s0, s1, s2, s3, s4, s5, s6, s7⟩
            go_simp
            with_reducible rfl
           rotate_left
           ·simp only [Act.put, La_, Lb_, Lc_, i64_w, i32_w]
            rfl
           refine take_ (i := 2) (N := some 32) (v := ?_) (a' := ?_) #[t_,t_,t_,t_,f_,f_,f_,f_,f_,f_,f_,f_,f_] rfl rfl (take_ofW HT_.out HW_.out (by kernel_rfl)) (fun _ _ _ h => h) (Or.inl ⟨by rfl, ?_⟩) hHeld ?_ ?_
           rotate_left
           ·rintro w' ⟨s0, s1, s2, s3, s4, s5, s6, s7⟩
            go_simp
            with_reducible rfl
           rotate_left
           ·simp only [Act.put, La_, Lb_, Lc_, i64_w, i32_w]
            rfl
           refine pure_ (i := 4) (N := some 34) (v := ?_) (a' := ?_) #[t_,t_,t_,t_,t_,f_,f_,f_,f_,f_,f_,f_,f_] rfl rfl (any_of HT_.out (by kernel_rfl)) (fun _ _ _ h => h) (Or.inl ⟨by rfl, ?_⟩) ?_ ?_
           rotate_left
           ·intro w'
            go_simp
            with_reducible rfl
           rotate_left
           ·simp only [Act.put, La_, Lb_, Lc_, i64_w, i32_w]
            rfl
           refine pure_ (i := 5) (N := some 35) (v := ?_) (a' := ?_) #[t_,t_,t_,t_,t_,t_,f_,f_,f_,f_,f_,f_,f_] rfl rfl (any_of HT_.out (by kernel_rfl)) (fun _ _ _ h => h) (Or.inl ⟨by rfl, ?_⟩) ?_ ?_
           rotate_left
           ·intro w'
            go_simp
            with_reducible rfl
           rotate_left
           ·simp only [Act.put, La_, Lb_, Lc_, i64_w, i32_w]
            rfl
           refine take_ (i := 6) (N := some 36) (v := ?_) (a' := ?_) #[t_,t_,t_,t_,t_,t_,t_,f_,f_,f_,f_,f_,f_] rfl rfl (take_ofW HT_.out HW_.out (by kernel_rfl)) (fun _ _ _ h => h) (Or.inl ⟨by rfl, ?_⟩) hHeld ?_ ?_
           rotate_left
           ·rintro w' ⟨s0, s1, s2, s3, s4, s5, s6, s7⟩
            go_simp
            with_reducible rfl
           rotate_left
           ·simp only [Act.put, La_, Lb_, Lc_, i64_w, i32_w]
            rfl
           refine one_ (i := 7) (N := some 37) #[t_,t_,t_,t_,t_,t_,t_,t_,f_,f_,f_,f_,f_] rfl rfl (one_of HT_.out (by kernel_rfl)) (by decide) (fun K hK => ?_)
           refine goes_ Try.func15 (by kernel_rfl) rfl #[.agg #[.slice (some ad256) l0_0.length c0_0, .slice A0_1 l0_1.length c0_1], .int .i64 ((rd_T52 l0_0 x3_1).f0)] (by rfl) rfl rfl (by (try simp only [List.map_toArray, List.map_cons, List.map_nil]); first | done | rfl | (simp only [List.length_drop, List.length_take]; rfl)) ?_
           with_reducible refine (flagstoneref11_Holders.calls kj3 _ _ l0_0 _ _ l0_1 ((rd_T52 l0_0 x3_1).f0) t257 t258 _ ?side1 ?side2 ?side3 ?side4 A13.out).mono ?_
           (case side1 => repeat (first | exact (Kd.C_below HR0_0.out HB.out) | (with_reducible refine Kd.C_alloc ?_ _) | (with_reducible refine Kd.C_drewN ?_ _) | (with_reducible refine Kd.C_drew ?_)))
           (case side2 => exact HC0_0.out)
           (case side3 => repeat (first | exact (Kd.C_below HR0_1.out HB.out) | (with_reducible refine Kd.C_alloc ?_ _) | (with_reducible refine Kd.C_drewN ?_ _) | (with_reducible refine Kd.C_drew ?_)))
           (case side4 => exact HC0_1.out)
           rintro e w24 ⟨rfl, hb⟩
           refine ⟨_, rfl, ?_⟩
           have n0_ := Am_ (Bb_ (g := gb253) (o := .cells #[.slice (some ad256) l0_0.length c0_0, .slice A0_1 l0_1.length c0_1] 33 (0, 0)) (by (with_reducible repeat (first | refine Bn_ ?_ _ | refine Bd_ ?_ | refine Ba_ ?_ _)); exact BK253.out) hb)
           have n1_ := Am_ (Be_ (by repeat (first | (with_reducible first | exact HB.out | apply Pa_ | apply Pn_ | apply Pd_ | refine Bs_ ?_ GE253.out) | exact HB.out)) hb)
           clear BK253
           clear HB
           have BK253 := n0_
           have HB := n1_
           clear n0_ n1_
           (try clear hb)
           (try clear hb2)
           (try clear hk)
           (try clear hi)
           refine hK.out _ _ ⟨(Bc_ BK253.out 0).trans rfl, (Bc_ BK253.out 1).trans rfl, ((HB.out.cell (Bl_ w _ hw256_0)).trans hw256_0), ((HB.out.cell (Bl_ w _ hw256_1)).trans hw256_1), ((HB.out.cell (Bl_ w _ hw256_2)).trans hw256_2), ((HB.out.cell (Bl_ w _ hw256_3)).trans hw256_3), ((HB.out.cell (Bl_ w _ hw256_4)).trans hw256_4), ((HB.out.cell (Bl_ w _ hw256_5)).trans hw256_5)⟩ (fun hHeld => ?_)
           clear hK K
           refine norm_ (a' := ?_) ?_ ?_
           rotate_left
           ·show Act.put _ (some 37) _ = _
            simp only [Act.put, La_, Lb_, Lc_, i64_w, i32_w]
            rfl
           refine pure_ (i := 8) (N := some 29) (v := ?_) (a' := ?_) #[t_,t_,t_,t_,t_,t_,t_,t_,t_,f_,f_,f_,f_] rfl rfl (any_of HT_.out (by kernel_rfl)) (fun _ _ _ h => h) (Or.inl ⟨by rfl, ?_⟩) ?_ ?_
           rotate_left
           ·intro w'
            go_simp
            with_reducible rfl
           rotate_left
           ·simp only [Act.put, La_, Lb_, Lc_, i64_w, i32_w]
            rfl
           refine pure_ (i := 9) (N := some 38) (v := ?_) (a' := ?_) #[t_,t_,t_,t_,t_,t_,t_,t_,t_,t_,f_,f_,f_] rfl rfl (any_of HT_.out (by kernel_rfl)) (fun _ _ _ h => h) (Or.inl ⟨by rfl, ?_⟩) ?_ ?_
           rotate_left
           ·intro w'
            go_simp
            with_reducible rfl
           rotate_left
           ·simp only [Act.put, La_, Lb_, Lc_, i64_w, i32_w]
            rfl
           refine pure_ (i := 10) (N := some 39) (v := ?_) (a' := ?_) #[t_,t_,t_,t_,t_,t_,t_,t_,t_,t_,t_,f_,f_] rfl rfl (any_of HT_.out (by kernel_rfl)) (fun _ _ _ h => h) (Or.inl ⟨by rfl, ?_⟩) ?_ ?_
           rotate_left
           ·intro w'
            go_simp
            with_reducible rfl
           rotate_left
           ·simp only [Act.put, La_, Lb_, Lc_, i64_w, i32_w]
            rfl
           refine pure_ (i := 11) (N := some 4) (v := ?_) (a' := ?_) #[t_,t_,t_,t_,t_,t_,t_,t_,t_,t_,t_,t_,f_] rfl rfl (any_of HT_.out (by kernel_rfl)) (fun _ _ _ h => h) (Or.inl ⟨by rfl, ?_⟩) ?_ ?_
           rotate_left
           ·intro w'
            go_simp
            with_reducible rfl
           rotate_left
           ·simp only [Act.put, La_, Lb_, Lc_, i64_w, i32_w]
            rfl
           refine pure_ (i := 12) (N := some 5) (v := ?_) (a' := ?_) #[t_,t_,t_,t_,t_,t_,t_,t_,t_,t_,t_,t_,t_] rfl rfl (any_of HT_.out (by kernel_rfl)) (fun _ _ _ h => h) (Or.inl ⟨by rfl, ?_⟩) ?_ ?_
           rotate_left
           ·intro w'
            go_simp
            with_reducible rfl
           rotate_left
           ·simp only [Act.put, La_, Lb_, Lc_, i64_w, i32_w]
            rfl
           refine done_ (done_of HT_.out (by kernel_rfl)) ?_
           try go_wp2
           go_roundg kj3
           case measure => have := HK1.out; have := HJ3.out; omega
           case rel => exact ⟨(wrap64 (x3_1 + 1)), (by first | rfl | (simp; done) | (simp [*]; done)), H', ⟨by have := HK1.out; have := HJ3.out; omega⟩, ⟨by (with_reducible repeat (first | refine Bn_ ?_ _ | refine Bd_ ?_ | refine Ba_ ?_ _)); exact BK253.out⟩, ⟨by repeat (first | (with_reducible first | exact HB.out | apply Pa_ | apply Pn_ | apply Pd_ | refine Bs_ ?_ GE253.out) | exact HB.out)⟩⟩
        ·rw [if_neg c12] at H
         exact absurd H (by simp)
       ·rw [if_neg c11] at H
        exact absurd H (by simp)
   ·rw [if_neg c3] at H
    have c3b0 : decide (x3_1 < (l0_0.length : Int)) = false := Df_ c3
    clear c3
    obtain rfl := Option.some.inj H
    have hcz25_0 : wr.cell? ⟨gb253, 0, none⟩ = some (.slice A0_0 l0_0.length c0_0) := (Bc_ BK253.out 0).trans rfl
    have hcz25_1 : wr.cell? ⟨gb253, 1, none⟩ = some (.slice A0_1 l0_1.length c0_1) := (Bc_ BK253.out 1).trans rfl
    have hfz25_0 := Bf_ BK253.out 0
    have hfz25_1 := Bf_ BK253.out 1
    go_wp2
    go_ret
    exact ⟨by first | rfl | (simp [errW_none, errW_some] <;> rfl) | (simp [*, errW_none, errW_some] <;> rfl), by repeat (first | (with_reducible first | exact HB.out | apply Pa_ | apply Pn_ | apply Pd_ | refine Bs_ ?_ GE253.out) | exact HB.out)⟩

end Go.Proofs.Ytbfjakhloabhmaa.P
