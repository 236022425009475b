-- Printed by a program of this session (inject.py) over the kit's print, with functions that were proved by hand in their places.
import Derived.Test.YtbfjakhloabhmaaPK
namespace Go.Proofs.Ytbfjakhloabhmaa.P
open Go.RowKit Go.Proofs.YtbfjakhloabhmaaW.PrintWords Go.Proofs.YtbfjakhloabhmaaW.PrintLast Go.Proofs.YtbfjakhloabhmaaW.PrintMore
attribute [local go_sem] max2_int min2_int max_two min_two max_three min_three max_four min_four   -- for this text's walks alone
set_option linter.unusedVariables false
set_option linter.unusedSimpArgs false

/-! ### flagstoneref11_Holders: function 15 -/
mutual
def flagstoneref11_Holders.l0 : Nat → Int → Int → Int → Int → List (S52) → List (List Int) → Option (Int × Int)
 | 0, _, _, _, _, _, _ => none
 | k + 1, x1, x6, x7, x8, x233000, x233001 => if x8 < (x233000.length : Int) then (if 0 ≤ x8 then (if ((rd_T52 x233000 x8).f4) > 0 then (if ((rd_T52 x233000 x8).f0) = x1 then (flagstoneref11_Holders.j1 k x1 x6 x7 x8 (((rd_T52 x233000 x8).f5) == 1) x233000 x233001) else (flagstoneref11_Holders.j1 k x1 x6 x7 x8 false x233000 x233001)) else (flagstoneref11_Holders.j1 k x1 x6 x7 x8 false x233000 x233001)) else (none)) else (some (x6, x7))
def flagstoneref11_Holders.j1 : Nat → Int → Int → Int → Int → Bool → List (S52) → List (List Int) → Option (Int × Int)
 | 0, _, _, _, _, _, _, _ => none
 | k + 1, x1, x6, x7, x8, x41, x233000, x233001 => if x41 = true then (if 0 ≤ x8 then (if x8 < (x233000.length : Int) then (if ((rd_T52 x233000 x8).f4) > 0 then (if ((rd_T52 x233000 x8).f0) = x1 then (if ((rd_T52 x233000 x8).f5) = 2 then (flagstoneref11_Holders.l0 k x1 (wrap64 (x6 + 1)) (wrap64 (x7 + 1)) (wrap64 (x8 + 1)) x233000 x233001) else (flagstoneref11_Holders.l0 k x1 (wrap64 (x6 + 1)) x7 (wrap64 (x8 + 1)) x233000 x233001)) else (flagstoneref11_Holders.l0 k x1 (wrap64 (x6 + 1)) x7 (wrap64 (x8 + 1)) x233000 x233001)) else (flagstoneref11_Holders.l0 k x1 (wrap64 (x6 + 1)) x7 (wrap64 (x8 + 1)) x233000 x233001)) else (none)) else (none)) else (if 0 ≤ x8 then (if x8 < (x233000.length : Int) then (if ((rd_T52 x233000 x8).f4) > 0 then (if ((rd_T52 x233000 x8).f0) = x1 then (if ((rd_T52 x233000 x8).f5) = 2 then (flagstoneref11_Holders.l0 k x1 x6 (wrap64 (x7 + 1)) (wrap64 (x8 + 1)) x233000 x233001) else (flagstoneref11_Holders.l0 k x1 x6 x7 (wrap64 (x8 + 1)) x233000 x233001)) else (flagstoneref11_Holders.l0 k x1 x6 x7 (wrap64 (x8 + 1)) x233000 x233001)) else (flagstoneref11_Holders.l0 k x1 x6 x7 (wrap64 (x8 + 1)) x233000 x233001)) else (none)) else (none))
end
def flagstoneref11_Holders.f (k : Nat) (l0_0 : List (S52)) (l0_1 : List (List Int)) (a1 : Int) : Option (Int × Int) := flagstoneref11_Holders.l0 k a1 0 0 0 l0_0 l0_1
theorem flagstoneref11_Holders.mono_l : ∀ k, (∀ y0 y1 y2 y3 y4 y5, LeO (flagstoneref11_Holders.l0 k y0 y1 y2 y3 y4 y5) (flagstoneref11_Holders.l0 (k + 1) y0 y1 y2 y3 y4 y5)) ∧ (∀ y0 y1 y2 y3 y4 y5 y6, LeO (flagstoneref11_Holders.j1 k y0 y1 y2 y3 y4 y5 y6) (flagstoneref11_Holders.j1 (k + 1) y0 y1 y2 y3 y4 y5 y6))
 | 0 => ⟨fun _ _ _ _ _ _ r h => by simp [flagstoneref11_Holders.l0] at h, fun _ _ _ _ _ _ _ r h => by simp [flagstoneref11_Holders.j1] at h⟩
 | k + 1 => by
  obtain ⟨ih0, ih1⟩ := flagstoneref11_Holders.mono_l k
  refine ⟨?_, ?_⟩
  ·intro y0 y1 y2 y3 y4 y5
   unfold flagstoneref11_Holders.l0
   repeat' first
   | (with_reducible exact ih0 _ _ _ _ _ _)
   | (with_reducible exact ih1 _ _ _ _ _ _ _)
   | (with_reducible exact LeO.refl _)
   | (with_reducible exact LeO.none _)
   | (with_reducible refine LeO.ite ?_ ?_)
   | (with_reducible refine LeO.bind ?_ (fun _ => ?_))
   | exact ih0 _ _ _ _ _ _
   | exact ih1 _ _ _ _ _ _ _
   | exact LeO.none _
   | refine LeO.ite ?_ ?_
   | refine LeO.bind ?_ (fun _ => ?_)
  ·intro y0 y1 y2 y3 y4 y5 y6
   unfold flagstoneref11_Holders.j1
   repeat' first
   | (with_reducible exact ih0 _ _ _ _ _ _)
   | (with_reducible exact ih1 _ _ _ _ _ _ _)
   | (with_reducible exact LeO.refl _)
   | (with_reducible exact LeO.none _)
   | (with_reducible refine LeO.ite ?_ ?_)
   | (with_reducible refine LeO.bind ?_ (fun _ => ?_))
   | exact ih0 _ _ _ _ _ _
   | exact ih1 _ _ _ _ _ _ _
   | exact LeO.none _
   | refine LeO.ite ?_ ?_
   | refine LeO.bind ?_ (fun _ => ?_)
theorem flagstoneref11_Holders.mono : ∀ a0 a1 a2 k, LeO (flagstoneref11_Holders.f k a0 a1 a2) (flagstoneref11_Holders.f (k + 1) a0 a1 a2) := by
 intro a0 a1 a2 k
 obtain ⟨ih0, ih1⟩ := flagstoneref11_Holders.mono_l k
 unfold flagstoneref11_Holders.f
 repeat' first
   | (with_reducible exact ih0 _ _ _ _ _ _)
   | (with_reducible exact ih1 _ _ _ _ _ _ _)
   | (with_reducible exact LeO.refl _)
   | (with_reducible exact LeO.none _)
   | (with_reducible refine LeO.ite ?_ ?_)
   | (with_reducible refine LeO.bind ?_ (fun _ => ?_))
   | exact ih0 _ _ _ _ _ _
   | exact ih1 _ _ _ _ _ _ _
   | exact LeO.none _
   | refine LeO.ite ?_ ?_
   | refine LeO.bind ?_ (fun _ => ?_)
set_option maxHeartbeats 8000000 in
set_option maxRecDepth 100000 in
theorem flagstoneref11_Holders.calls (k : Nat) (A0_0 : Option Addr) (c0_0 : Nat) (l0_0 : List (S52)) (A0_1 : Option Addr) (c0_1 : Nat) (l0_1 : List (List Int)) (a1 : Int) (r1 : Int) (r2 : Int) (w : World) (hr0_0 : Kd.C k52 w A0_0 l0_0.length l0_0) (hc0_0 : l0_0.length ≤ c0_0) (hr0_1 : Kd.C (Kd.slice 3 (Kd.int .i64)) w A0_1 l0_1.length l0_1) (hc0_1 : l0_1.length ≤ c0_1) (h : flagstoneref11_Holders.f k l0_0 l0_1 a1 = some (r1, r2)) :
  Calls Try.prog 15 #[.agg #[.slice A0_0 l0_0.length c0_0, .slice A0_1 l0_1.length c0_1], .int .i64 a1] w fun e w' => e = .returned (.tuple #[.int .i64 r1, .int .i64 r2]) ∧ Below w.heap.size w w' := by
 have hu33 := Try.underlying33
 have HR0_0 := Am_ hr0_0
 have HC0_0 := Am_ hc0_0
 clear hr0_0 hc0_0
 have HR0_1 := Am_ hr0_1
 have HC0_1 := Am_ hc0_1
 clear hr0_1 hc0_1
 have HB := Am_ (Below.refl w.heap.size w)
 have H : (flagstoneref11_Holders.l0 k a1 0 0 0 l0_0 l0_1) = some (r1, r2) := h
 clear h
 have H' := Am_ H
 clear H
 go_enter Try.func15, Try.ntmps15
 go_wp2_with (first | ((with_reducible refine gate_dst (N := 2) rfl ?_); refine box_event ?hg (N := 2) ?hd (cs := #[.slice A0_0 l0_0.length c0_0, .slice A0_1 l0_1.length c0_1]) (t := 33) ?hr ?_; (case hd => rfl); (case hg => rfl); (case hr => first | (go_simp; done) | (go_simp; rfl)); intro gb232 hg w3 hbox hb; have n0_ := Am_ (Be_ (by repeat (first | (with_reducible first | exact HB.out | apply Pa_ | apply Pn_ | apply Pd_) | exact HB.out)) hb); have n1_ := Am_ (hbox); have n2_ := Am_ ((by rw [hg]; exact (Bz_ (by repeat (first | (with_reducible first | exact HB.out | apply Pa_ | apply Pn_ | apply Pd_) | exact HB.out))) : w.heap.size ≤ gb232)); have n3_ := Am_ ((by rw [hg]; exact (Bz_ (by repeat (first | (with_reducible first | exact HB.out | apply Pa_ | apply Pn_ | apply Pd_) | exact HB.out))) : w.heap.size ≤ gb232)); clear HB; have HB := n0_; have BK232 := n1_; have GW232 := n2_; have GE232 := n3_; clear n0_ n1_ n2_ n3_; clear hb hbox hg))
 go_loopg [6, 7, 8] k (fun kq v6 v7 v8 w' => ∃ (x6_1 : Int) (x7_1 : Int) (x8_1 : Int), v6 = .int .i64 x6_1 ∧ v7 = .int .i64 x7_1 ∧ v8 = .int .i64 x8_1 ∧ Aside0 (flagstoneref11_Holders.l0 kq a1 x6_1 x7_1 x8_1 l0_0 l0_1 = some (r1, r2)) ∧ Aside0 (kq ≤ k) ∧ Aside0 (w'.heap[gb232]? = some (.cells #[(.slice A0_0 l0_0.length c0_0), (.slice A0_1 l0_1.length c0_1)] 33 (0, 0))) ∧ Aside0 (Below w.heap.size w w'))
 case atStart => exact ⟨(0), (0), (0), (by first | rfl | (simp; done) | (simp [*]; done)), (by first | rfl | (simp; done) | (simp [*]; done)), (by first | rfl | (simp; done) | (simp [*]; done)), H', ⟨Nat.le_refl _⟩, ⟨by (with_reducible repeat (first | refine Bn_ ?_ _ | refine Bd_ ?_ | refine Ba_ ?_ _)); exact BK232.out⟩, ⟨by repeat (first | (with_reducible first | exact HB.out | apply Pa_ | apply Pn_ | apply Pd_ | refine Bs_ ?_ GE232.out) | exact HB.out)⟩⟩
 case round =>
  clear H'
  try clear c1
  try clear p2
  obtain ⟨x6_1, x7_1, x8_1, rfl, rfl, rfl, HA, HK1, BK232, HB⟩ := hrel
  cases gk with
  | zero => exact absurd HA.out (by simp [flagstoneref11_Holders.l0])
  | succ k1 =>
   have H := HA.out
   clear HA
   simp only [flagstoneref11_Holders.l0] at H
   by_cases c4 : x8_1 < (l0_0.length : Int)
   ·rw [if_pos c4] at H
    have c4b0 : decide (x8_1 < (l0_0.length : Int)) = true := Dt_ c4
    clear c4
    have HC5 := Am_ H
    clear H
    have hcz6_0 : wr.cell? ⟨gb232, 0, none⟩ = some (.slice A0_0 l0_0.length c0_0) := (Bc_ BK232.out 0).trans rfl
    have hcz6_1 : wr.cell? ⟨gb232, 1, none⟩ = some (.slice A0_1 l0_1.length c0_1) := (Bc_ BK232.out 1).trans rfl
    have hfz6_0 := Bf_ BK232.out 0
    have hfz6_1 := Bf_ BK232.out 1
    go_upto_region 6 with (fail)
    go_cut [41] (fun v41 wc => ∃ (kq : Nat) (x41_4 : Bool), v41 = .bool x41_4 ∧ Aside0 (flagstoneref11_Holders.j1 kq a1 x6_1 x7_1 x8_1 x41_4 l0_0 l0_1 = some (r1, r2)) ∧ Aside0 (kq ≤ k1) ∧ Aside0 (wc.heap[gb232]? = some (.cells #[(.slice A0_0 l0_0.length c0_0), (.slice A0_1 l0_1.length c0_1)] 33 (0, 0))) ∧ Aside0 (Below w.heap.size w wc))
    case first =>
     have H := HC5.out
     clear HC5
     by_cases c7 : 0 ≤ x8_1
     ·rw [if_pos c7] at H
      have c7b0 : decide (0 ≤ x8_1) = true := Dt_ c7
      clear c7
      (first | rw [c7b0] | (simp only [i64_w, i32_w]; rw [c7b0]) | skip)
      by_cases c8 : ((rd_T52 l0_0 x8_1).f4) > 0
      ·rw [if_pos c8] at H
       have c8b0 : decide (0 < ((rd_T52 l0_0 x8_1).f4)) = true := Dt_ c8
       clear c8
       by_cases c9 : ((rd_T52 l0_0 x8_1).f0) = a1
       ·rw [if_pos c9] at H
        have c9b0 : (((rd_T52 l0_0 x8_1).f0) == a1) = true := beq_iff_eq.mpr c9
        have c9b1 : (((rd_T52 l0_0 x8_1).f0) != a1) = false := bne_eq_false_iff_eq.mpr c9
        clear c9
        have H' := Am_ H
        clear H
        have hcz10_0 : wr.cell? ⟨gb232, 0, none⟩ = some (.slice A0_0 l0_0.length c0_0) := (Bc_ BK232.out 0).trans rfl
        have hcz10_1 : wr.cell? ⟨gb232, 1, none⟩ = some (.slice A0_1 l0_1.length c0_1) := (Bc_ BK232.out 1).trans rfl
        have hfz10_0 := Bf_ BK232.out 0
        have hfz10_1 := Bf_ BK232.out 1
        have p233 : 0 ≤ (x8_1 : Int) := Ot_ (by first | (with_reducible assumption) | assumption)
        have q233 : x8_1 < (l0_0.length : Int) := Ot_ (by first | (with_reducible assumption) | assumption)
        obtain ⟨ad233, e233, hx233_0, hx233_1, hx233_2, hx233_3, hx233_4, hx233_5⟩ := at_T52 HR0_0.out x8_1 p233 q233
        cases e233
        replace hx233_0 := (HB.out.cell (Bl_ w _ hx233_0)).trans hx233_0
        replace hx233_1 := (HB.out.cell (Bl_ w _ hx233_1)).trans hx233_1
        replace hx233_2 := (HB.out.cell (Bl_ w _ hx233_2)).trans hx233_2
        replace hx233_3 := (HB.out.cell (Bl_ w _ hx233_3)).trans hx233_3
        replace hx233_4 := (HB.out.cell (Bl_ w _ hx233_4)).trans hx233_4
        replace hx233_5 := (HB.out.cell (Bl_ w _ hx233_5)).trans hx233_5
        replace p233 := eq_true p233
        replace q233 := eq_true q233
        have p234 : 0 ≤ (x8_1 : Int) := Ot_ (by first | (with_reducible assumption) | assumption)
        have q234 : x8_1 < (l0_0.length : Int) := Ot_ (by first | (with_reducible assumption) | assumption)
        obtain ⟨ad234, e234, hx234_0, hx234_1, hx234_2, hx234_3, hx234_4, hx234_5⟩ := at_T52 HR0_0.out x8_1 p234 q234
        obtain rfl : ad233 = ad234 := (by injection e234)
        replace hx234_0 := (HB.out.cell (Bl_ w _ hx234_0)).trans hx234_0
        replace hx234_1 := (HB.out.cell (Bl_ w _ hx234_1)).trans hx234_1
        replace hx234_2 := (HB.out.cell (Bl_ w _ hx234_2)).trans hx234_2
        replace hx234_3 := (HB.out.cell (Bl_ w _ hx234_3)).trans hx234_3
        replace hx234_4 := (HB.out.cell (Bl_ w _ hx234_4)).trans hx234_4
        replace hx234_5 := (HB.out.cell (Bl_ w _ hx234_5)).trans hx234_5
        replace p234 := eq_true p234
        replace q234 := eq_true q234
        have p235 : 0 ≤ (x8_1 : Int) := Ot_ (by first | (with_reducible assumption) | assumption)
        have q235 : x8_1 < (l0_0.length : Int) := Ot_ (by first | (with_reducible assumption) | assumption)
        obtain ⟨ad235, e235, hx235_0, hx235_1, hx235_2, hx235_3, hx235_4, hx235_5⟩ := at_T52 HR0_0.out x8_1 p235 q235
        obtain rfl : ad233 = ad235 := (by injection e235)
        replace hx235_0 := (HB.out.cell (Bl_ w _ hx235_0)).trans hx235_0
        replace hx235_1 := (HB.out.cell (Bl_ w _ hx235_1)).trans hx235_1
        replace hx235_2 := (HB.out.cell (Bl_ w _ hx235_2)).trans hx235_2
        replace hx235_3 := (HB.out.cell (Bl_ w _ hx235_3)).trans hx235_3
        replace hx235_4 := (HB.out.cell (Bl_ w _ hx235_4)).trans hx235_4
        replace hx235_5 := (HB.out.cell (Bl_ w _ hx235_5)).trans hx235_5
        replace p235 := eq_true p235
        replace q235 := eq_true q235
        go_wp2
        go_meet
        case rel => exact ⟨_, ((((rd_T52 l0_0 x8_1).f5) == 1)), (by first | rfl | (simp; done) | (simp [*]; done)), H', ⟨by have := HK1.out; first | omega | exact Nat.le_refl _⟩, ⟨by (with_reducible repeat (first | refine Bn_ ?_ _ | refine Bd_ ?_ | refine Ba_ ?_ _)); exact BK232.out⟩, ⟨by repeat (first | (with_reducible first | exact HB.out | apply Pa_ | apply Pn_ | apply Pd_ | refine Bs_ ?_ GE232.out) | exact HB.out)⟩⟩
       ·rw [if_neg c9] at H
        have c9b0 : (((rd_T52 l0_0 x8_1).f0) == a1) = false := beq_eq_false_iff_ne.mpr c9
        have c9b1 : (((rd_T52 l0_0 x8_1).f0) != a1) = true := bne_iff_ne.mpr c9
        have H' := Am_ H
        clear H
        have hcz11_0 : wr.cell? ⟨gb232, 0, none⟩ = some (.slice A0_0 l0_0.length c0_0) := (Bc_ BK232.out 0).trans rfl
        have hcz11_1 : wr.cell? ⟨gb232, 1, none⟩ = some (.slice A0_1 l0_1.length c0_1) := (Bc_ BK232.out 1).trans rfl
        have hfz11_0 := Bf_ BK232.out 0
        have hfz11_1 := Bf_ BK232.out 1
        have p233 : 0 ≤ (x8_1 : Int) := Ot_ (by first | (with_reducible assumption) | assumption)
        have q233 : x8_1 < (l0_0.length : Int) := Ot_ (by first | (with_reducible assumption) | assumption)
        obtain ⟨ad233, e233, hx233_0, hx233_1, hx233_2, hx233_3, hx233_4, hx233_5⟩ := at_T52 HR0_0.out x8_1 p233 q233
        cases e233
        replace hx233_0 := (HB.out.cell (Bl_ w _ hx233_0)).trans hx233_0
        replace hx233_1 := (HB.out.cell (Bl_ w _ hx233_1)).trans hx233_1
        replace hx233_2 := (HB.out.cell (Bl_ w _ hx233_2)).trans hx233_2
        replace hx233_3 := (HB.out.cell (Bl_ w _ hx233_3)).trans hx233_3
        replace hx233_4 := (HB.out.cell (Bl_ w _ hx233_4)).trans hx233_4
        replace hx233_5 := (HB.out.cell (Bl_ w _ hx233_5)).trans hx233_5
        replace p233 := eq_true p233
        replace q233 := eq_true q233
        have p234 : 0 ≤ (x8_1 : Int) := Ot_ (by first | (with_reducible assumption) | assumption)
        have q234 : x8_1 < (l0_0.length : Int) := Ot_ (by first | (with_reducible assumption) | assumption)
        obtain ⟨ad234, e234, hx234_0, hx234_1, hx234_2, hx234_3, hx234_4, hx234_5⟩ := at_T52 HR0_0.out x8_1 p234 q234
        obtain rfl : ad233 = ad234 := (by injection e234)
        replace hx234_0 := (HB.out.cell (Bl_ w _ hx234_0)).trans hx234_0
        replace hx234_1 := (HB.out.cell (Bl_ w _ hx234_1)).trans hx234_1
        replace hx234_2 := (HB.out.cell (Bl_ w _ hx234_2)).trans hx234_2
        replace hx234_3 := (HB.out.cell (Bl_ w _ hx234_3)).trans hx234_3
        replace hx234_4 := (HB.out.cell (Bl_ w _ hx234_4)).trans hx234_4
        replace hx234_5 := (HB.out.cell (Bl_ w _ hx234_5)).trans hx234_5
        replace p234 := eq_true p234
        replace q234 := eq_true q234
        go_wp2
        go_meet
        case rel => exact ⟨_, (false), (by first | rfl | (simp; done) | (simp [*]; done)), H', ⟨by have := HK1.out; first | omega | exact Nat.le_refl _⟩, ⟨by (with_reducible repeat (first | refine Bn_ ?_ _ | refine Bd_ ?_ | refine Ba_ ?_ _)); exact BK232.out⟩, ⟨by repeat (first | (with_reducible first | exact HB.out | apply Pa_ | apply Pn_ | apply Pd_ | refine Bs_ ?_ GE232.out) | exact HB.out)⟩⟩
      ·rw [if_neg c8] at H
       have c8b0 : decide (0 < ((rd_T52 l0_0 x8_1).f4)) = false := Df_ c8
       clear c8
       have H' := Am_ H
       clear H
       have hcz12_0 : wr.cell? ⟨gb232, 0, none⟩ = some (.slice A0_0 l0_0.length c0_0) := (Bc_ BK232.out 0).trans rfl
       have hcz12_1 : wr.cell? ⟨gb232, 1, none⟩ = some (.slice A0_1 l0_1.length c0_1) := (Bc_ BK232.out 1).trans rfl
       have hfz12_0 := Bf_ BK232.out 0
       have hfz12_1 := Bf_ BK232.out 1
       have p233 : 0 ≤ (x8_1 : Int) := Ot_ (by first | (with_reducible assumption) | assumption)
       have q233 : x8_1 < (l0_0.length : Int) := Ot_ (by first | (with_reducible assumption) | assumption)
       obtain ⟨ad233, e233, hx233_0, hx233_1, hx233_2, hx233_3, hx233_4, hx233_5⟩ := at_T52 HR0_0.out x8_1 p233 q233
       cases e233
       replace hx233_0 := (HB.out.cell (Bl_ w _ hx233_0)).trans hx233_0
       replace hx233_1 := (HB.out.cell (Bl_ w _ hx233_1)).trans hx233_1
       replace hx233_2 := (HB.out.cell (Bl_ w _ hx233_2)).trans hx233_2
       replace hx233_3 := (HB.out.cell (Bl_ w _ hx233_3)).trans hx233_3
       replace hx233_4 := (HB.out.cell (Bl_ w _ hx233_4)).trans hx233_4
       replace hx233_5 := (HB.out.cell (Bl_ w _ hx233_5)).trans hx233_5
       replace p233 := eq_true p233
       replace q233 := eq_true q233
       go_wp2
       go_meet
       case rel => exact ⟨_, (false), (by first | rfl | (simp; done) | (simp [*]; done)), H', ⟨by have := HK1.out; first | omega | exact Nat.le_refl _⟩, ⟨by (with_reducible repeat (first | refine Bn_ ?_ _ | refine Bd_ ?_ | refine Ba_ ?_ _)); exact BK232.out⟩, ⟨by repeat (first | (with_reducible first | exact HB.out | apply Pa_ | apply Pn_ | apply Pd_ | refine Bs_ ?_ GE232.out) | exact HB.out)⟩⟩
     ·rw [if_neg c7] at H
      exact absurd H (by simp)
    case rest =>
     clear HC5
     try clear c1
     try clear p2
     try clear q2
     try clear hx2
     try clear c4
     try clear c4b0
     try clear c7
     try clear c7b0
     try clear c8
     try clear c8b0
     try clear c9
     try clear c9b0
     try clear c9b1
     try clear hcz10_0
     try clear hcz10_1
     try clear hcz11_0
     try clear hcz11_1
     try clear hcz12_0
     try clear hcz12_1
     try clear hcz6_0
     try clear hcz6_1
     try clear hfz10_0
     try clear hfz10_1
     try clear hfz11_0
     try clear hfz11_1
     try clear hfz12_0
     try clear hfz12_1
     try clear hfz6_0
     try clear hfz6_1
     try clear hx233_0
     try clear hx233_1
     try clear hx233_2
     try clear hx233_3
     try clear hx233_4
     try clear hx233_5
     try clear hx234_0
     try clear hx234_1
     try clear hx234_2
     try clear hx234_3
     try clear hx234_4
     try clear hx234_5
     try clear hx235_0
     try clear hx235_1
     try clear hx235_2
     try clear hx235_3
     try clear hx235_4
     try clear hx235_5
     try clear p2
     try clear p233
     try clear p234
     try clear p235
     try clear q233
     try clear q234
     try clear q235
     obtain ⟨kq, x41_4, rfl, HA, HJ4, BK232, HB⟩ := hcut
     cases kq with
     | zero => exact absurd HA.out (by simp [flagstoneref11_Holders.j1])
     | succ kj4 =>
      have H := HA.out
      clear HA
      simp only [flagstoneref11_Holders.j1] at H
      by_cases c13 : x41_4 = true
      ·subst c13
       have H1 : (if 0 ≤ x8_1 then (if x8_1 < (l0_0.length : Int) then (if ((rd_T52 l0_0 x8_1).f4) > 0 then (if ((rd_T52 l0_0 x8_1).f0) = a1 then (if ((rd_T52 l0_0 x8_1).f5) = 2 then (flagstoneref11_Holders.l0 kj4 a1 (wrap64 (x6_1 + 1)) (wrap64 (x7_1 + 1)) (wrap64 (x8_1 + 1)) l0_0 l0_1) else (flagstoneref11_Holders.l0 kj4 a1 (wrap64 (x6_1 + 1)) x7_1 (wrap64 (x8_1 + 1)) l0_0 l0_1)) else (flagstoneref11_Holders.l0 kj4 a1 (wrap64 (x6_1 + 1)) x7_1 (wrap64 (x8_1 + 1)) l0_0 l0_1)) else (flagstoneref11_Holders.l0 kj4 a1 (wrap64 (x6_1 + 1)) x7_1 (wrap64 (x8_1 + 1)) l0_0 l0_1)) else (none)) else (none)) = some (r1, r2) := by rw [if_pos rfl] at H; exact H
       clear H
       have H := H1
       clear H1
       by_cases c14 : 0 ≤ x8_1
       ·rw [if_pos c14] at H
        have c14b0 : decide (0 ≤ x8_1) = true := Dt_ c14
        clear c14
        by_cases c15 : x8_1 < (l0_0.length : Int)
        ·rw [if_pos c15] at H
         have c15b0 : decide (x8_1 < (l0_0.length : Int)) = true := Dt_ c15
         clear c15
         by_cases c16 : ((rd_T52 l0_0 x8_1).f4) > 0
         ·rw [if_pos c16] at H
          have c16b0 : decide (0 < ((rd_T52 l0_0 x8_1).f4)) = true := Dt_ c16
          clear c16
          by_cases c17 : ((rd_T52 l0_0 x8_1).f0) = a1
          ·rw [if_pos c17] at H
           have c17b0 : (((rd_T52 l0_0 x8_1).f0) == a1) = true := beq_iff_eq.mpr c17
           have c17b1 : (((rd_T52 l0_0 x8_1).f0) != a1) = false := bne_eq_false_iff_eq.mpr c17
           clear c17
           by_cases c18 : ((rd_T52 l0_0 x8_1).f5) = 2
           ·rw [if_pos c18] at H
            have c18b0 : (((rd_T52 l0_0 x8_1).f5) == 2) = true := beq_iff_eq.mpr c18
            have c18b1 : (((rd_T52 l0_0 x8_1).f5) != 2) = false := bne_eq_false_iff_eq.mpr c18
            clear c18
            have H' := Am_ H
            clear H
            have hcz19_0 : wc.cell? ⟨gb232, 0, none⟩ = some (.slice A0_0 l0_0.length c0_0) := (Bc_ BK232.out 0).trans rfl
            have hcz19_1 : wc.cell? ⟨gb232, 1, none⟩ = some (.slice A0_1 l0_1.length c0_1) := (Bc_ BK232.out 1).trans rfl
            have hfz19_0 := Bf_ BK232.out 0
            have hfz19_1 := Bf_ BK232.out 1
            have p236 : 0 ≤ (x8_1 : Int) := Ot_ (by first | (with_reducible assumption) | assumption)
            have q236 : x8_1 < (l0_0.length : Int) := Ot_ (by first | (with_reducible assumption) | assumption)
            obtain ⟨ad236, e236, hx236_0, hx236_1, hx236_2, hx236_3, hx236_4, hx236_5⟩ := at_T52 HR0_0.out x8_1 p236 q236
            cases e236
            replace hx236_0 := (HB.out.cell (Bl_ w _ hx236_0)).trans hx236_0
            replace hx236_1 := (HB.out.cell (Bl_ w _ hx236_1)).trans hx236_1
            replace hx236_2 := (HB.out.cell (Bl_ w _ hx236_2)).trans hx236_2
            replace hx236_3 := (HB.out.cell (Bl_ w _ hx236_3)).trans hx236_3
            replace hx236_4 := (HB.out.cell (Bl_ w _ hx236_4)).trans hx236_4
            replace hx236_5 := (HB.out.cell (Bl_ w _ hx236_5)).trans hx236_5
            replace p236 := eq_true p236
            replace q236 := eq_true q236
            have p237 : 0 ≤ (x8_1 : Int) := Ot_ (by first | (with_reducible assumption) | assumption)
            have q237 : x8_1 < (l0_0.length : Int) := Ot_ (by first | (with_reducible assumption) | assumption)
            obtain ⟨ad237, e237, hx237_0, hx237_1, hx237_2, hx237_3, hx237_4, hx237_5⟩ := at_T52 HR0_0.out x8_1 p237 q237
            obtain rfl : ad236 = ad237 := (by injection e237)
            replace hx237_0 := (HB.out.cell (Bl_ w _ hx237_0)).trans hx237_0
            replace hx237_1 := (HB.out.cell (Bl_ w _ hx237_1)).trans hx237_1
            replace hx237_2 := (HB.out.cell (Bl_ w _ hx237_2)).trans hx237_2
            replace hx237_3 := (HB.out.cell (Bl_ w _ hx237_3)).trans hx237_3
            replace hx237_4 := (HB.out.cell (Bl_ w _ hx237_4)).trans hx237_4
            replace hx237_5 := (HB.out.cell (Bl_ w _ hx237_5)).trans hx237_5
            replace p237 := eq_true p237
            replace q237 := eq_true q237
            have p238 : 0 ≤ (x8_1 : Int) := Ot_ (by first | (with_reducible assumption) | assumption)
            have q238 : x8_1 < (l0_0.length : Int) := Ot_ (by first | (with_reducible assumption) | assumption)
            obtain ⟨ad238, e238, hx238_0, hx238_1, hx238_2, hx238_3, hx238_4, hx238_5⟩ := at_T52 HR0_0.out x8_1 p238 q238
            obtain rfl : ad236 = ad238 := (by injection e238)
            replace hx238_0 := (HB.out.cell (Bl_ w _ hx238_0)).trans hx238_0
            replace hx238_1 := (HB.out.cell (Bl_ w _ hx238_1)).trans hx238_1
            replace hx238_2 := (HB.out.cell (Bl_ w _ hx238_2)).trans hx238_2
            replace hx238_3 := (HB.out.cell (Bl_ w _ hx238_3)).trans hx238_3
            replace hx238_4 := (HB.out.cell (Bl_ w _ hx238_4)).trans hx238_4
            replace hx238_5 := (HB.out.cell (Bl_ w _ hx238_5)).trans hx238_5
            replace p238 := eq_true p238
            replace q238 := eq_true q238
            go_wp2
            go_roundg kj4
            case measure => have := HK1.out; have := HJ4.out; omega
            case rel => exact ⟨(wrap64 (x6_1 + 1)), (wrap64 (x7_1 + 1)), (wrap64 (x8_1 + 1)), (by first | rfl | (simp; done) | (simp [*]; done)), (by first | rfl | (simp; done) | (simp [*]; done)), (by first | rfl | (simp; done) | (simp [*]; done)), H', ⟨by have := HK1.out; have := HJ4.out; omega⟩, ⟨by (with_reducible repeat (first | refine Bn_ ?_ _ | refine Bd_ ?_ | refine Ba_ ?_ _)); exact BK232.out⟩, ⟨by repeat (first | (with_reducible first | exact HB.out | apply Pa_ | apply Pn_ | apply Pd_ | refine Bs_ ?_ GE232.out) | exact HB.out)⟩⟩
           ·rw [if_neg c18] at H
            have c18b0 : (((rd_T52 l0_0 x8_1).f5) == 2) = false := beq_eq_false_iff_ne.mpr c18
            have c18b1 : (((rd_T52 l0_0 x8_1).f5) != 2) = true := bne_iff_ne.mpr c18
            have H' := Am_ H
            clear H
            have hcz20_0 : wc.cell? ⟨gb232, 0, none⟩ = some (.slice A0_0 l0_0.length c0_0) := (Bc_ BK232.out 0).trans rfl
            have hcz20_1 : wc.cell? ⟨gb232, 1, none⟩ = some (.slice A0_1 l0_1.length c0_1) := (Bc_ BK232.out 1).trans rfl
            have hfz20_0 := Bf_ BK232.out 0
            have hfz20_1 := Bf_ BK232.out 1
            have p236 : 0 ≤ (x8_1 : Int) := Ot_ (by first | (with_reducible assumption) | assumption)
            have q236 : x8_1 < (l0_0.length : Int) := Ot_ (by first | (with_reducible assumption) | assumption)
            obtain ⟨ad236, e236, hx236_0, hx236_1, hx236_2, hx236_3, hx236_4, hx236_5⟩ := at_T52 HR0_0.out x8_1 p236 q236
            cases e236
            replace hx236_0 := (HB.out.cell (Bl_ w _ hx236_0)).trans hx236_0
            replace hx236_1 := (HB.out.cell (Bl_ w _ hx236_1)).trans hx236_1
            replace hx236_2 := (HB.out.cell (Bl_ w _ hx236_2)).trans hx236_2
            replace hx236_3 := (HB.out.cell (Bl_ w _ hx236_3)).trans hx236_3
            replace hx236_4 := (HB.out.cell (Bl_ w _ hx236_4)).trans hx236_4
            replace hx236_5 := (HB.out.cell (Bl_ w _ hx236_5)).trans hx236_5
            replace p236 := eq_true p236
            replace q236 := eq_true q236
            have p237 : 0 ≤ (x8_1 : Int) := Ot_ (by first | (with_reducible assumption) | assumption)
            have q237 : x8_1 < (l0_0.length : Int) := Ot_ (by first | (with_reducible assumption) | assumption)
            obtain ⟨ad237, e237, hx237_0, hx237_1, hx237_2, hx237_3, hx237_4, hx237_5⟩ := at_T52 HR0_0.out x8_1 p237 q237
            obtain rfl : ad236 = ad237 := (by injection e237)
            replace hx237_0 := (HB.out.cell (Bl_ w _ hx237_0)).trans hx237_0
            replace hx237_1 := (HB.out.cell (Bl_ w _ hx237_1)).trans hx237_1
            replace hx237_2 := (HB.out.cell (Bl_ w _ hx237_2)).trans hx237_2
            replace hx237_3 := (HB.out.cell (Bl_ w _ hx237_3)).trans hx237_3
            replace hx237_4 := (HB.out.cell (Bl_ w _ hx237_4)).trans hx237_4
            replace hx237_5 := (HB.out.cell (Bl_ w _ hx237_5)).trans hx237_5
            replace p237 := eq_true p237
            replace q237 := eq_true q237
            have p238 : 0 ≤ (x8_1 : Int) := Ot_ (by first | (with_reducible assumption) | assumption)
            have q238 : x8_1 < (l0_0.length : Int) := Ot_ (by first | (with_reducible assumption) | assumption)
            obtain ⟨ad238, e238, hx238_0, hx238_1, hx238_2, hx238_3, hx238_4, hx238_5⟩ := at_T52 HR0_0.out x8_1 p238 q238
            obtain rfl : ad236 = ad238 := (by injection e238)
            replace hx238_0 := (HB.out.cell (Bl_ w _ hx238_0)).trans hx238_0
            replace hx238_1 := (HB.out.cell (Bl_ w _ hx238_1)).trans hx238_1
            replace hx238_2 := (HB.out.cell (Bl_ w _ hx238_2)).trans hx238_2
            replace hx238_3 := (HB.out.cell (Bl_ w _ hx238_3)).trans hx238_3
            replace hx238_4 := (HB.out.cell (Bl_ w _ hx238_4)).trans hx238_4
            replace hx238_5 := (HB.out.cell (Bl_ w _ hx238_5)).trans hx238_5
            replace p238 := eq_true p238
            replace q238 := eq_true q238
            go_wp2
            go_roundg kj4
            case measure => have := HK1.out; have := HJ4.out; omega
            case rel => exact ⟨(wrap64 (x6_1 + 1)), (x7_1), (wrap64 (x8_1 + 1)), (by first | rfl | (simp; done) | (simp [*]; done)), (by first | rfl | (simp; done) | (simp [*]; done)), (by first | rfl | (simp; done) | (simp [*]; done)), H', ⟨by have := HK1.out; have := HJ4.out; omega⟩, ⟨by (with_reducible repeat (first | refine Bn_ ?_ _ | refine Bd_ ?_ | refine Ba_ ?_ _)); exact BK232.out⟩, ⟨by repeat (first | (with_reducible first | exact HB.out | apply Pa_ | apply Pn_ | apply Pd_ | refine Bs_ ?_ GE232.out) | exact HB.out)⟩⟩
          ·rw [if_neg c17] at H
           have c17b0 : (((rd_T52 l0_0 x8_1).f0) == a1) = false := beq_eq_false_iff_ne.mpr c17
           have c17b1 : (((rd_T52 l0_0 x8_1).f0) != a1) = true := bne_iff_ne.mpr c17
           have H' := Am_ H
           clear H
           have hcz21_0 : wc.cell? ⟨gb232, 0, none⟩ = some (.slice A0_0 l0_0.length c0_0) := (Bc_ BK232.out 0).trans rfl
           have hcz21_1 : wc.cell? ⟨gb232, 1, none⟩ = some (.slice A0_1 l0_1.length c0_1) := (Bc_ BK232.out 1).trans rfl
           have hfz21_0 := Bf_ BK232.out 0
           have hfz21_1 := Bf_ BK232.out 1
           have p236 : 0 ≤ (x8_1 : Int) := Ot_ (by first | (with_reducible assumption) | assumption)
           have q236 : x8_1 < (l0_0.length : Int) := Ot_ (by first | (with_reducible assumption) | assumption)
           obtain ⟨ad236, e236, hx236_0, hx236_1, hx236_2, hx236_3, hx236_4, hx236_5⟩ := at_T52 HR0_0.out x8_1 p236 q236
           cases e236
           replace hx236_0 := (HB.out.cell (Bl_ w _ hx236_0)).trans hx236_0
           replace hx236_1 := (HB.out.cell (Bl_ w _ hx236_1)).trans hx236_1
           replace hx236_2 := (HB.out.cell (Bl_ w _ hx236_2)).trans hx236_2
           replace hx236_3 := (HB.out.cell (Bl_ w _ hx236_3)).trans hx236_3
           replace hx236_4 := (HB.out.cell (Bl_ w _ hx236_4)).trans hx236_4
           replace hx236_5 := (HB.out.cell (Bl_ w _ hx236_5)).trans hx236_5
           replace p236 := eq_true p236
           replace q236 := eq_true q236
           have p237 : 0 ≤ (x8_1 : Int) := Ot_ (by first | (with_reducible assumption) | assumption)
           have q237 : x8_1 < (l0_0.length : Int) := Ot_ (by first | (with_reducible assumption) | assumption)
           obtain ⟨ad237, e237, hx237_0, hx237_1, hx237_2, hx237_3, hx237_4, hx237_5⟩ := at_T52 HR0_0.out x8_1 p237 q237
           obtain rfl : ad236 = ad237 := (by injection e237)
           replace hx237_0 := (HB.out.cell (Bl_ w _ hx237_0)).trans hx237_0
           replace hx237_1 := (HB.out.cell (Bl_ w _ hx237_1)).trans hx237_1
           replace hx237_2 := (HB.out.cell (Bl_ w _ hx237_2)).trans hx237_2
           replace hx237_3 := (HB.out.cell (Bl_ w _ hx237_3)).trans hx237_3
           replace hx237_4 := (HB.out.cell (Bl_ w _ hx237_4)).trans hx237_4
           replace hx237_5 := (HB.out.cell (Bl_ w _ hx237_5)).trans hx237_5
           replace p237 := eq_true p237
           replace q237 := eq_true q237
           go_wp2
           go_roundg kj4
           case measure => have := HK1.out; have := HJ4.out; omega
           case rel => exact ⟨(wrap64 (x6_1 + 1)), (x7_1), (wrap64 (x8_1 + 1)), (by first | rfl | (simp; done) | (simp [*]; done)), (by first | rfl | (simp; done) | (simp [*]; done)), (by first | rfl | (simp; done) | (simp [*]; done)), H', ⟨by have := HK1.out; have := HJ4.out; omega⟩, ⟨by (with_reducible repeat (first | refine Bn_ ?_ _ | refine Bd_ ?_ | refine Ba_ ?_ _)); exact BK232.out⟩, ⟨by repeat (first | (with_reducible first | exact HB.out | apply Pa_ | apply Pn_ | apply Pd_ | refine Bs_ ?_ GE232.out) | exact HB.out)⟩⟩
         ·rw [if_neg c16] at H
          have c16b0 : decide (0 < ((rd_T52 l0_0 x8_1).f4)) = false := Df_ c16
          clear c16
          have H' := Am_ H
          clear H
          have hcz22_0 : wc.cell? ⟨gb232, 0, none⟩ = some (.slice A0_0 l0_0.length c0_0) := (Bc_ BK232.out 0).trans rfl
          have hcz22_1 : wc.cell? ⟨gb232, 1, none⟩ = some (.slice A0_1 l0_1.length c0_1) := (Bc_ BK232.out 1).trans rfl
          have hfz22_0 := Bf_ BK232.out 0
          have hfz22_1 := Bf_ BK232.out 1
          have p236 : 0 ≤ (x8_1 : Int) := Ot_ (by first | (with_reducible assumption) | assumption)
          have q236 : x8_1 < (l0_0.length : Int) := Ot_ (by first | (with_reducible assumption) | assumption)
          obtain ⟨ad236, e236, hx236_0, hx236_1, hx236_2, hx236_3, hx236_4, hx236_5⟩ := at_T52 HR0_0.out x8_1 p236 q236
          cases e236
          replace hx236_0 := (HB.out.cell (Bl_ w _ hx236_0)).trans hx236_0
          replace hx236_1 := (HB.out.cell (Bl_ w _ hx236_1)).trans hx236_1
          replace hx236_2 := (HB.out.cell (Bl_ w _ hx236_2)).trans hx236_2
          replace hx236_3 := (HB.out.cell (Bl_ w _ hx236_3)).trans hx236_3
          replace hx236_4 := (HB.out.cell (Bl_ w _ hx236_4)).trans hx236_4
          replace hx236_5 := (HB.out.cell (Bl_ w _ hx236_5)).trans hx236_5
          replace p236 := eq_true p236
          replace q236 := eq_true q236
          go_wp2
          go_roundg kj4
          case measure => have := HK1.out; have := HJ4.out; omega
          case rel => exact ⟨(wrap64 (x6_1 + 1)), (x7_1), (wrap64 (x8_1 + 1)), (by first | rfl | (simp; done) | (simp [*]; done)), (by first | rfl | (simp; done) | (simp [*]; done)), (by first | rfl | (simp; done) | (simp [*]; done)), H', ⟨by have := HK1.out; have := HJ4.out; omega⟩, ⟨by (with_reducible repeat (first | refine Bn_ ?_ _ | refine Bd_ ?_ | refine Ba_ ?_ _)); exact BK232.out⟩, ⟨by repeat (first | (with_reducible first | exact HB.out | apply Pa_ | apply Pn_ | apply Pd_ | refine Bs_ ?_ GE232.out) | exact HB.out)⟩⟩
        ·rw [if_neg c15] at H
         exact absurd H (by simp)
       ·rw [if_neg c14] at H
        exact absurd H (by simp)
      ·replace c13 := Bool.eq_false_iff.mpr c13
       subst c13
       have H1 : (if 0 ≤ x8_1 then (if x8_1 < (l0_0.length : Int) then (if ((rd_T52 l0_0 x8_1).f4) > 0 then (if ((rd_T52 l0_0 x8_1).f0) = a1 then (if ((rd_T52 l0_0 x8_1).f5) = 2 then (flagstoneref11_Holders.l0 kj4 a1 x6_1 (wrap64 (x7_1 + 1)) (wrap64 (x8_1 + 1)) l0_0 l0_1) else (flagstoneref11_Holders.l0 kj4 a1 x6_1 x7_1 (wrap64 (x8_1 + 1)) l0_0 l0_1)) else (flagstoneref11_Holders.l0 kj4 a1 x6_1 x7_1 (wrap64 (x8_1 + 1)) l0_0 l0_1)) else (flagstoneref11_Holders.l0 kj4 a1 x6_1 x7_1 (wrap64 (x8_1 + 1)) l0_0 l0_1)) else (none)) else (none)) = some (r1, r2) := by rw [if_neg (show ¬ (false = true) by decide)] at H; exact H
       clear H
       have H := H1
       clear H1
       by_cases c23 : 0 ≤ x8_1
       ·rw [if_pos c23] at H
        have c23b0 : decide (0 ≤ x8_1) = true := Dt_ c23
        clear c23
        by_cases c24 : x8_1 < (l0_0.length : Int)
        ·rw [if_pos c24] at H
         have c24b0 : decide (x8_1 < (l0_0.length : Int)) = true := Dt_ c24
         clear c24
         by_cases c25 : ((rd_T52 l0_0 x8_1).f4) > 0
         ·rw [if_pos c25] at H
          have c25b0 : decide (0 < ((rd_T52 l0_0 x8_1).f4)) = true := Dt_ c25
          clear c25
          by_cases c26 : ((rd_T52 l0_0 x8_1).f0) = a1
          ·rw [if_pos c26] at H
           have c26b0 : (((rd_T52 l0_0 x8_1).f0) == a1) = true := beq_iff_eq.mpr c26
           have c26b1 : (((rd_T52 l0_0 x8_1).f0) != a1) = false := bne_eq_false_iff_eq.mpr c26
           clear c26
           by_cases c27 : ((rd_T52 l0_0 x8_1).f5) = 2
           ·rw [if_pos c27] at H
            have c27b0 : (((rd_T52 l0_0 x8_1).f5) == 2) = true := beq_iff_eq.mpr c27
            have c27b1 : (((rd_T52 l0_0 x8_1).f5) != 2) = false := bne_eq_false_iff_eq.mpr c27
            clear c27
            have H' := Am_ H
            clear H
            have hcz28_0 : wc.cell? ⟨gb232, 0, none⟩ = some (.slice A0_0 l0_0.length c0_0) := (Bc_ BK232.out 0).trans rfl
            have hcz28_1 : wc.cell? ⟨gb232, 1, none⟩ = some (.slice A0_1 l0_1.length c0_1) := (Bc_ BK232.out 1).trans rfl
            have hfz28_0 := Bf_ BK232.out 0
            have hfz28_1 := Bf_ BK232.out 1
            have p239 : 0 ≤ (x8_1 : Int) := Ot_ (by first | (with_reducible assumption) | assumption)
            have q239 : x8_1 < (l0_0.length : Int) := Ot_ (by first | (with_reducible assumption) | assumption)
            obtain ⟨ad239, e239, hx239_0, hx239_1, hx239_2, hx239_3, hx239_4, hx239_5⟩ := at_T52 HR0_0.out x8_1 p239 q239
            cases e239
            replace hx239_0 := (HB.out.cell (Bl_ w _ hx239_0)).trans hx239_0
            replace hx239_1 := (HB.out.cell (Bl_ w _ hx239_1)).trans hx239_1
            replace hx239_2 := (HB.out.cell (Bl_ w _ hx239_2)).trans hx239_2
            replace hx239_3 := (HB.out.cell (Bl_ w _ hx239_3)).trans hx239_3
            replace hx239_4 := (HB.out.cell (Bl_ w _ hx239_4)).trans hx239_4
            replace hx239_5 := (HB.out.cell (Bl_ w _ hx239_5)).trans hx239_5
            replace p239 := eq_true p239
            replace q239 := eq_true q239
            have p240 : 0 ≤ (x8_1 : Int) := Ot_ (by first | (with_reducible assumption) | assumption)
            have q240 : x8_1 < (l0_0.length : Int) := Ot_ (by first | (with_reducible assumption) | assumption)
            obtain ⟨ad240, e240, hx240_0, hx240_1, hx240_2, hx240_3, hx240_4, hx240_5⟩ := at_T52 HR0_0.out x8_1 p240 q240
            obtain rfl : ad239 = ad240 := (by injection e240)
            replace hx240_0 := (HB.out.cell (Bl_ w _ hx240_0)).trans hx240_0
            replace hx240_1 := (HB.out.cell (Bl_ w _ hx240_1)).trans hx240_1
            replace hx240_2 := (HB.out.cell (Bl_ w _ hx240_2)).trans hx240_2
            replace hx240_3 := (HB.out.cell (Bl_ w _ hx240_3)).trans hx240_3
            replace hx240_4 := (HB.out.cell (Bl_ w _ hx240_4)).trans hx240_4
            replace hx240_5 := (HB.out.cell (Bl_ w _ hx240_5)).trans hx240_5
            replace p240 := eq_true p240
            replace q240 := eq_true q240
            have p241 : 0 ≤ (x8_1 : Int) := Ot_ (by first | (with_reducible assumption) | assumption)
            have q241 : x8_1 < (l0_0.length : Int) := Ot_ (by first | (with_reducible assumption) | assumption)
            obtain ⟨ad241, e241, hx241_0, hx241_1, hx241_2, hx241_3, hx241_4, hx241_5⟩ := at_T52 HR0_0.out x8_1 p241 q241
            obtain rfl : ad239 = ad241 := (by injection e241)
            replace hx241_0 := (HB.out.cell (Bl_ w _ hx241_0)).trans hx241_0
            replace hx241_1 := (HB.out.cell (Bl_ w _ hx241_1)).trans hx241_1
            replace hx241_2 := (HB.out.cell (Bl_ w _ hx241_2)).trans hx241_2
            replace hx241_3 := (HB.out.cell (Bl_ w _ hx241_3)).trans hx241_3
            replace hx241_4 := (HB.out.cell (Bl_ w _ hx241_4)).trans hx241_4
            replace hx241_5 := (HB.out.cell (Bl_ w _ hx241_5)).trans hx241_5
            replace p241 := eq_true p241
            replace q241 := eq_true q241
            go_wp2
            go_roundg kj4
            case measure => have := HK1.out; have := HJ4.out; omega
            case rel => exact ⟨(x6_1), (wrap64 (x7_1 + 1)), (wrap64 (x8_1 + 1)), (by first | rfl | (simp; done) | (simp [*]; done)), (by first | rfl | (simp; done) | (simp [*]; done)), (by first | rfl | (simp; done) | (simp [*]; done)), H', ⟨by have := HK1.out; have := HJ4.out; omega⟩, ⟨by (with_reducible repeat (first | refine Bn_ ?_ _ | refine Bd_ ?_ | refine Ba_ ?_ _)); exact BK232.out⟩, ⟨by repeat (first | (with_reducible first | exact HB.out | apply Pa_ | apply Pn_ | apply Pd_ | refine Bs_ ?_ GE232.out) | exact HB.out)⟩⟩
           ·rw [if_neg c27] at H
            have c27b0 : (((rd_T52 l0_0 x8_1).f5) == 2) = false := beq_eq_false_iff_ne.mpr c27
            have c27b1 : (((rd_T52 l0_0 x8_1).f5) != 2) = true := bne_iff_ne.mpr c27
            have H' := Am_ H
            clear H
            have hcz29_0 : wc.cell? ⟨gb232, 0, none⟩ = some (.slice A0_0 l0_0.length c0_0) := (Bc_ BK232.out 0).trans rfl
            have hcz29_1 : wc.cell? ⟨gb232, 1, none⟩ = some (.slice A0_1 l0_1.length c0_1) := (Bc_ BK232.out 1).trans rfl
            have hfz29_0 := Bf_ BK232.out 0
            have hfz29_1 := Bf_ BK232.out 1
            have p239 : 0 ≤ (x8_1 : Int) := Ot_ (by first | (with_reducible assumption) | assumption)
            have q239 : x8_1 < (l0_0.length : Int) := Ot_ (by first | (with_reducible assumption) | assumption)
            obtain ⟨ad239, e239, hx239_0, hx239_1, hx239_2, hx239_3, hx239_4, hx239_5⟩ := at_T52 HR0_0.out x8_1 p239 q239
            cases e239
            replace hx239_0 := (HB.out.cell (Bl_ w _ hx239_0)).trans hx239_0
            replace hx239_1 := (HB.out.cell (Bl_ w _ hx239_1)).trans hx239_1
            replace hx239_2 := (HB.out.cell (Bl_ w _ hx239_2)).trans hx239_2
            replace hx239_3 := (HB.out.cell (Bl_ w _ hx239_3)).trans hx239_3
            replace hx239_4 := (HB.out.cell (Bl_ w _ hx239_4)).trans hx239_4
            replace hx239_5 := (HB.out.cell (Bl_ w _ hx239_5)).trans hx239_5
            replace p239 := eq_true p239
            replace q239 := eq_true q239
            have p240 : 0 ≤ (x8_1 : Int) := Ot_ (by first | (with_reducible assumption) | assumption)
            have q240 : x8_1 < (l0_0.length : Int) := Ot_ (by first | (with_reducible assumption) | assumption)
            obtain ⟨ad240, e240, hx240_0, hx240_1, hx240_2, hx240_3, hx240_4, hx240_5⟩ := at_T52 HR0_0.out x8_1 p240 q240
            obtain rfl : ad239 = ad240 := (by injection e240)
            replace hx240_0 := (HB.out.cell (Bl_ w _ hx240_0)).trans hx240_0
            replace hx240_1 := (HB.out.cell (Bl_ w _ hx240_1)).trans hx240_1
            replace hx240_2 := (HB.out.cell (Bl_ w _ hx240_2)).trans hx240_2
            replace hx240_3 := (HB.out.cell (Bl_ w _ hx240_3)).trans hx240_3
            replace hx240_4 := (HB.out.cell (Bl_ w _ hx240_4)).trans hx240_4
            replace hx240_5 := (HB.out.cell (Bl_ w _ hx240_5)).trans hx240_5
            replace p240 := eq_true p240
            replace q240 := eq_true q240
            have p241 : 0 ≤ (x8_1 : Int) := Ot_ (by first | (with_reducible assumption) | assumption)
            have q241 : x8_1 < (l0_0.length : Int) := Ot_ (by first | (with_reducible assumption) | assumption)
            obtain ⟨ad241, e241, hx241_0, hx241_1, hx241_2, hx241_3, hx241_4, hx241_5⟩ := at_T52 HR0_0.out x8_1 p241 q241
            obtain rfl : ad239 = ad241 := (by injection e241)
            replace hx241_0 := (HB.out.cell (Bl_ w _ hx241_0)).trans hx241_0
            replace hx241_1 := (HB.out.cell (Bl_ w _ hx241_1)).trans hx241_1
            replace hx241_2 := (HB.out.cell (Bl_ w _ hx241_2)).trans hx241_2
            replace hx241_3 := (HB.out.cell (Bl_ w _ hx241_3)).trans hx241_3
            replace hx241_4 := (HB.out.cell (Bl_ w _ hx241_4)).trans hx241_4
            replace hx241_5 := (HB.out.cell (Bl_ w _ hx241_5)).trans hx241_5
            replace p241 := eq_true p241
            replace q241 := eq_true q241
            go_wp2
            go_roundg kj4
            case measure => have := HK1.out; have := HJ4.out; omega
            case rel => exact ⟨(x6_1), (x7_1), (wrap64 (x8_1 + 1)), (by first | rfl | (simp; done) | (simp [*]; done)), (by first | rfl | (simp; done) | (simp [*]; done)), (by first | rfl | (simp; done) | (simp [*]; done)), H', ⟨by have := HK1.out; have := HJ4.out; omega⟩, ⟨by (with_reducible repeat (first | refine Bn_ ?_ _ | refine Bd_ ?_ | refine Ba_ ?_ _)); exact BK232.out⟩, ⟨by repeat (first | (with_reducible first | exact HB.out | apply Pa_ | apply Pn_ | apply Pd_ | refine Bs_ ?_ GE232.out) | exact HB.out)⟩⟩
          ·rw [if_neg c26] at H
           have c26b0 : (((rd_T52 l0_0 x8_1).f0) == a1) = false := beq_eq_false_iff_ne.mpr c26
           have c26b1 : (((rd_T52 l0_0 x8_1).f0) != a1) = true := bne_iff_ne.mpr c26
           have H' := Am_ H
           clear H
           have hcz30_0 : wc.cell? ⟨gb232, 0, none⟩ = some (.slice A0_0 l0_0.length c0_0) := (Bc_ BK232.out 0).trans rfl
           have hcz30_1 : wc.cell? ⟨gb232, 1, none⟩ = some (.slice A0_1 l0_1.length c0_1) := (Bc_ BK232.out 1).trans rfl
           have hfz30_0 := Bf_ BK232.out 0
           have hfz30_1 := Bf_ BK232.out 1
           have p239 : 0 ≤ (x8_1 : Int) := Ot_ (by first | (with_reducible assumption) | assumption)
           have q239 : x8_1 < (l0_0.length : Int) := Ot_ (by first | (with_reducible assumption) | assumption)
           obtain ⟨ad239, e239, hx239_0, hx239_1, hx239_2, hx239_3, hx239_4, hx239_5⟩ := at_T52 HR0_0.out x8_1 p239 q239
           cases e239
           replace hx239_0 := (HB.out.cell (Bl_ w _ hx239_0)).trans hx239_0
           replace hx239_1 := (HB.out.cell (Bl_ w _ hx239_1)).trans hx239_1
           replace hx239_2 := (HB.out.cell (Bl_ w _ hx239_2)).trans hx239_2
           replace hx239_3 := (HB.out.cell (Bl_ w _ hx239_3)).trans hx239_3
           replace hx239_4 := (HB.out.cell (Bl_ w _ hx239_4)).trans hx239_4
           replace hx239_5 := (HB.out.cell (Bl_ w _ hx239_5)).trans hx239_5
           replace p239 := eq_true p239
           replace q239 := eq_true q239
           have p240 : 0 ≤ (x8_1 : Int) := Ot_ (by first | (with_reducible assumption) | assumption)
           have q240 : x8_1 < (l0_0.length : Int) := Ot_ (by first | (with_reducible assumption) | assumption)
           obtain ⟨ad240, e240, hx240_0, hx240_1, hx240_2, hx240_3, hx240_4, hx240_5⟩ := at_T52 HR0_0.out x8_1 p240 q240
           obtain rfl : ad239 = ad240 := (by injection e240)
           replace hx240_0 := (HB.out.cell (Bl_ w _ hx240_0)).trans hx240_0
           replace hx240_1 := (HB.out.cell (Bl_ w _ hx240_1)).trans hx240_1
           replace hx240_2 := (HB.out.cell (Bl_ w _ hx240_2)).trans hx240_2
           replace hx240_3 := (HB.out.cell (Bl_ w _ hx240_3)).trans hx240_3
           replace hx240_4 := (HB.out.cell (Bl_ w _ hx240_4)).trans hx240_4
           replace hx240_5 := (HB.out.cell (Bl_ w _ hx240_5)).trans hx240_5
           replace p240 := eq_true p240
           replace q240 := eq_true q240
           go_wp2
           go_roundg kj4
           case measure => have := HK1.out; have := HJ4.out; omega
           case rel => exact ⟨(x6_1), (x7_1), (wrap64 (x8_1 + 1)), (by first | rfl | (simp; done) | (simp [*]; done)), (by first | rfl | (simp; done) | (simp [*]; done)), (by first | rfl | (simp; done) | (simp [*]; done)), H', ⟨by have := HK1.out; have := HJ4.out; omega⟩, ⟨by (with_reducible repeat (first | refine Bn_ ?_ _ | refine Bd_ ?_ | refine Ba_ ?_ _)); exact BK232.out⟩, ⟨by repeat (first | (with_reducible first | exact HB.out | apply Pa_ | apply Pn_ | apply Pd_ | refine Bs_ ?_ GE232.out) | exact HB.out)⟩⟩
         ·rw [if_neg c25] at H
          have c25b0 : decide (0 < ((rd_T52 l0_0 x8_1).f4)) = false := Df_ c25
          clear c25
          have H' := Am_ H
          clear H
          have hcz31_0 : wc.cell? ⟨gb232, 0, none⟩ = some (.slice A0_0 l0_0.length c0_0) := (Bc_ BK232.out 0).trans rfl
          have hcz31_1 : wc.cell? ⟨gb232, 1, none⟩ = some (.slice A0_1 l0_1.length c0_1) := (Bc_ BK232.out 1).trans rfl
          have hfz31_0 := Bf_ BK232.out 0
          have hfz31_1 := Bf_ BK232.out 1
          have p239 : 0 ≤ (x8_1 : Int) := Ot_ (by first | (with_reducible assumption) | assumption)
          have q239 : x8_1 < (l0_0.length : Int) := Ot_ (by first | (with_reducible assumption) | assumption)
          obtain ⟨ad239, e239, hx239_0, hx239_1, hx239_2, hx239_3, hx239_4, hx239_5⟩ := at_T52 HR0_0.out x8_1 p239 q239
          cases e239
          replace hx239_0 := (HB.out.cell (Bl_ w _ hx239_0)).trans hx239_0
          replace hx239_1 := (HB.out.cell (Bl_ w _ hx239_1)).trans hx239_1
          replace hx239_2 := (HB.out.cell (Bl_ w _ hx239_2)).trans hx239_2
          replace hx239_3 := (HB.out.cell (Bl_ w _ hx239_3)).trans hx239_3
          replace hx239_4 := (HB.out.cell (Bl_ w _ hx239_4)).trans hx239_4
          replace hx239_5 := (HB.out.cell (Bl_ w _ hx239_5)).trans hx239_5
          replace p239 := eq_true p239
          replace q239 := eq_true q239
          go_wp2
          go_roundg kj4
          case measure => have := HK1.out; have := HJ4.out; omega
          case rel => exact ⟨(x6_1), (x7_1), (wrap64 (x8_1 + 1)), (by first | rfl | (simp; done) | (simp [*]; done)), (by first | rfl | (simp; done) | (simp [*]; done)), (by first | rfl | (simp; done) | (simp [*]; done)), H', ⟨by have := HK1.out; have := HJ4.out; omega⟩, ⟨by (with_reducible repeat (first | refine Bn_ ?_ _ | refine Bd_ ?_ | refine Ba_ ?_ _)); exact BK232.out⟩, ⟨by repeat (first | (with_reducible first | exact HB.out | apply Pa_ | apply Pn_ | apply Pd_ | refine Bs_ ?_ GE232.out) | exact HB.out)⟩⟩
        ·rw [if_neg c24] at H
         exact absurd H (by simp)
       ·rw [if_neg c23] at H
        exact absurd H (by simp)
   ·rw [if_neg c4] at H
    have c4b0 : decide (x8_1 < (l0_0.length : Int)) = false := Df_ c4
    clear c4
    simp only [Option.some.injEq, Prod.mk.injEq] at H
    obtain ⟨rfl, rfl⟩ := H
    have hcz32_0 : wr.cell? ⟨gb232, 0, none⟩ = some (.slice A0_0 l0_0.length c0_0) := (Bc_ BK232.out 0).trans rfl
    have hcz32_1 : wr.cell? ⟨gb232, 1, none⟩ = some (.slice A0_1 l0_1.length c0_1) := (Bc_ BK232.out 1).trans rfl
    have hfz32_0 := Bf_ BK232.out 0
    have hfz32_1 := Bf_ BK232.out 1
    go_wp2
    go_ret2
    exact ⟨by first | rfl | (simp [errW_none, errW_some] <;> rfl) | (simp [*, errW_none, errW_some] <;> rfl), by repeat (first | (with_reducible first | exact HB.out | apply Pa_ | apply Pn_ | apply Pd_ | refine Bs_ ?_ GE232.out) | exact HB.out)⟩

end Go.Proofs.Ytbfjakhloabhmaa.P
