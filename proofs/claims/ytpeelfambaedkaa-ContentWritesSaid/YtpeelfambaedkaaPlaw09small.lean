-- Printed by a program of this session (inject.py) over the kit's print, with functions that were proved by hand in their places.
import Derived.Test.YtpeelfambaedkaaPK
namespace Go.Proofs.Ytpeelfambaedkaa.P
open Go.RowKit Go.Proofs.YtpeelfambaedkaaW.PrintWords Go.Proofs.YtpeelfambaedkaaW.PrintLast Go.Proofs.YtpeelfambaedkaaW.PrintMore
attribute [local go_sem] max2_int min2_int max_two min_two max_three min_three max_four min_four   -- for this text's walks alone
set_option linter.unusedVariables false
set_option linter.unusedSimpArgs false

/-! ### flagstonelaw09_small: function 9 -/
mutual
def flagstonelaw09_small.l0 : Nat → Int → List (S59) → Int → Int → Option (Bool)
 | 0, _, _, _, _ => none
 | k + 1, x3, x102000, x102001, x102002 => if x3 < (x102000.length : Int) then (flagstonelaw09_small.j1 k x3 (decide (x3 < 110)) x102000 x102001 x102002) else (flagstonelaw09_small.j1 k x3 false x102000 x102001 x102002)
def flagstonelaw09_small.j1 : Nat → Int → Bool → List (S59) → Int → Int → Option (Bool)
 | 0, _, _, _, _, _ => none
 | k + 1, x3, x12, x102000, x102001, x102002 => if x12 = true then (if 0 ≤ x3 then (if x3 < (x102000.length : Int) then (if (((rd_T59 x102000 x3).f6).size : Int) > 1500 then (some false) else (if (((rd_T59 x102000 x3).f7).length : Int) > 60 then (some false) else (flagstonelaw09_small.l0 k (wrap64 (x3 + 1)) x102000 x102001 x102002))) else (none)) else (none)) else (some (decide ((x102000.length : Int) ≤ 100)))
end
def flagstonelaw09_small.f (k : Nat) (l0_0 : List (S59)) (a0_1 : Int) (a0_2 : Int) : Option (Bool) := flagstonelaw09_small.l0 k 0 l0_0 a0_1 a0_2
theorem flagstonelaw09_small.mono_l : ∀ k, (∀ y0 y1 y2 y3, LeO (flagstonelaw09_small.l0 k y0 y1 y2 y3) (flagstonelaw09_small.l0 (k + 1) y0 y1 y2 y3)) ∧ (∀ y0 y1 y2 y3 y4, LeO (flagstonelaw09_small.j1 k y0 y1 y2 y3 y4) (flagstonelaw09_small.j1 (k + 1) y0 y1 y2 y3 y4))
 | 0 => ⟨fun _ _ _ _ r h => by simp [flagstonelaw09_small.l0] at h, fun _ _ _ _ _ r h => by simp [flagstonelaw09_small.j1] at h⟩
 | k + 1 => by
  obtain ⟨ih0, ih1⟩ := flagstonelaw09_small.mono_l k
  refine ⟨?_, ?_⟩
  ·intro y0 y1 y2 y3
   unfold flagstonelaw09_small.l0
   repeat' first
   | (with_reducible exact ih0 _ _ _ _)
   | (with_reducible exact ih1 _ _ _ _ _)
   | (with_reducible exact LeO.refl _)
   | (with_reducible exact LeO.none _)
   | (with_reducible refine LeO.ite ?_ ?_)
   | (with_reducible refine LeO.bind ?_ (fun _ => ?_))
   | exact ih0 _ _ _ _
   | exact ih1 _ _ _ _ _
   | exact LeO.none _
   | refine LeO.ite ?_ ?_
   | refine LeO.bind ?_ (fun _ => ?_)
  ·intro y0 y1 y2 y3 y4
   unfold flagstonelaw09_small.j1
   repeat' first
   | (with_reducible exact ih0 _ _ _ _)
   | (with_reducible exact ih1 _ _ _ _ _)
   | (with_reducible exact LeO.refl _)
   | (with_reducible exact LeO.none _)
   | (with_reducible refine LeO.ite ?_ ?_)
   | (with_reducible refine LeO.bind ?_ (fun _ => ?_))
   | exact ih0 _ _ _ _
   | exact ih1 _ _ _ _ _
   | exact LeO.none _
   | refine LeO.ite ?_ ?_
   | refine LeO.bind ?_ (fun _ => ?_)
theorem flagstonelaw09_small.mono : ∀ a0 a1 a2 k, LeO (flagstonelaw09_small.f k a0 a1 a2) (flagstonelaw09_small.f (k + 1) a0 a1 a2) := by
 intro a0 a1 a2 k
 obtain ⟨ih0, ih1⟩ := flagstonelaw09_small.mono_l k
 unfold flagstonelaw09_small.f
 repeat' first
   | (with_reducible exact ih0 _ _ _ _)
   | (with_reducible exact ih1 _ _ _ _ _)
   | (with_reducible exact LeO.refl _)
   | (with_reducible exact LeO.none _)
   | (with_reducible refine LeO.ite ?_ ?_)
   | (with_reducible refine LeO.bind ?_ (fun _ => ?_))
   | exact ih0 _ _ _ _
   | exact ih1 _ _ _ _ _
   | exact LeO.none _
   | refine LeO.ite ?_ ?_
   | refine LeO.bind ?_ (fun _ => ?_)
set_option maxHeartbeats 8000000 in
set_option maxRecDepth 100000 in
theorem flagstonelaw09_small.calls (k : Nat) (A0_0 : Option Addr) (c0_0 : Nat) (l0_0 : List (S59)) (a0_1 : Int) (a0_2 : Int) (r : Bool) (w : World) (hr0_0 : Kd.C k59 w A0_0 l0_0.length l0_0) (hc0_0 : l0_0.length ≤ c0_0) (h : flagstonelaw09_small.f k l0_0 a0_1 a0_2 = some r) :
  Calls Try.prog 9 #[.agg #[.slice A0_0 l0_0.length c0_0, .int .i64 a0_1, .int .i64 a0_2]] w fun e w' => e = .returned (.bool r) ∧ Below w.heap.size w w' := by
 have hu24 := Try.underlying24
 have HR0_0 := Am_ hr0_0
 have HC0_0 := Am_ hc0_0
 clear hr0_0 hc0_0
 have HB := Am_ (Below.refl w.heap.size w)
 have H : (flagstonelaw09_small.l0 k 0 l0_0 a0_1 a0_2) = some r := h
 clear h
 have H' := Am_ H
 clear H
 go_enter Try.func9, Try.ntmps9
 go_wp2_with (first | ((with_reducible refine gate_dst (N := 1) rfl ?_); (try (refine gate_guard (by rfl) ?_; dsimp only)); refine box_event ?hg (N := 1) ?hd (cs := #[.slice A0_0 l0_0.length c0_0, .int .i64 a0_1, .int .i64 a0_2]) (t := 24) ?hr ?_; (case hd => rfl); (case hg => rfl); (case hr => go_simp; try rfl); intro gb101 hg w2 hbox hb; have n0_ := Am_ (Be_ (Pb0_ HB.out) hb); have n1_ := Am_ (hbox); have n2_ := Am_ ((by rw [hg]; exact (Bz_ (Pb0_ HB.out)) : w.heap.size ≤ gb101)); have n3_ := Am_ ((by rw [hg]; exact (Bz_ (Pb0_ HB.out)) : w.heap.size ≤ gb101)); clear HB; have HB := n0_; have BK101 := n1_; have GW101 := n2_; have GE101 := n3_; clear n0_ n1_ n2_ n3_; clear hb hbox hg))
 go_loopg [3] k (fun kq v3 w' => ∃ (x3_1 : Int), v3 = .int .i64 x3_1 ∧ Aside0 (flagstonelaw09_small.l0 kq x3_1 l0_0 a0_1 a0_2 = some r) ∧ Aside0 (kq ≤ k) ∧ Aside0 (w'.heap[gb101]? = some (.cells #[(.slice A0_0 l0_0.length c0_0), .int .i64 a0_1, .int .i64 a0_2] 24 (0, 0))) ∧ Aside0 (Below w.heap.size w w'))
 case atStart => exact ⟨(0), (by first | rfl | (simp; done) | (simp [*]; done)), H', ⟨Nat.le_refl _⟩, ⟨by (with_reducible repeat (first | refine Bn_ ?_ _ | refine Bd_ ?_ | refine Ba_ ?_ _)); exact BK101.out⟩, ⟨by repeat (first | (with_reducible first | exact HB.out | apply Pa_ | apply Pn_ | apply Pd_ | refine Bs_ ?_ GE101.out) | exact HB.out)⟩⟩
 case round =>
  clear H'
  try clear p2
  obtain ⟨x3_1, rfl, HA, HK1, BK101, HB⟩ := hrel
  cases gk with
  | zero => exact absurd HA.out (by simp [flagstonelaw09_small.l0])
  | succ k1 =>
   have H := HA.out
   clear HA
   simp only [flagstonelaw09_small.l0] at H
   have HC3 := Am_ H
   clear H
   go_upto_region 2 with (fail)
   go_cut [12] (fun v12 wc => ∃ (kq : Nat) (x12_2 : Bool), v12 = .bool x12_2 ∧ Aside0 (flagstonelaw09_small.j1 kq x3_1 x12_2 l0_0 a0_1 a0_2 = some r) ∧ Aside0 (kq ≤ k1) ∧ Aside0 (wc.heap[gb101]? = some (.cells #[(.slice A0_0 l0_0.length c0_0), .int .i64 a0_1, .int .i64 a0_2] 24 (0, 0))) ∧ Aside0 (Below w.heap.size w wc))
   case first =>
    have H := HC3.out
    clear HC3
    by_cases c4 : x3_1 < (l0_0.length : Int)
    ·rw [if_pos c4] at H
     have c4b0 : decide (x3_1 < (l0_0.length : Int)) = true := Dt_ c4
     clear c4
     (first | rw [c4b0] | (simp only [i64_w, i32_w]; rw [c4b0]) | skip)
     have H' := Am_ H
     clear H
     obtain ⟨hcz5_0, hcz5_1, hcz5_2, hfz5_0, hfz5_1, hfz5_2⟩ := Ce3_ BK101.out
     go_wp2
     go_meet
     case rel => exact ⟨_, (decide (x3_1 < 110)), (by first | rfl | (simp; done) | (simp [*]; done)), H', ⟨by have := HK1.out; first | omega | exact Nat.le_refl _⟩, ⟨by (with_reducible repeat (first | refine Bn_ ?_ _ | refine Bd_ ?_ | refine Ba_ ?_ _)); exact BK101.out⟩, ⟨by repeat (first | (with_reducible first | exact HB.out | apply Pa_ | apply Pn_ | apply Pd_ | refine Bs_ ?_ GE101.out) | exact HB.out)⟩⟩
    ·rw [if_neg c4] at H
     have c4b0 : decide (x3_1 < (l0_0.length : Int)) = false := Df_ c4
     clear c4
     (first | rw [c4b0] | (simp only [i64_w, i32_w]; rw [c4b0]) | skip)
     have H' := Am_ H
     clear H
     obtain ⟨hcz6_0, hcz6_1, hcz6_2, hfz6_0, hfz6_1, hfz6_2⟩ := Ce3_ BK101.out
     go_wp2
     go_meet
     case rel => exact ⟨_, (false), (by first | rfl | (simp; done) | (simp [*]; done)), H', ⟨by have := HK1.out; first | omega | exact Nat.le_refl _⟩, ⟨by (with_reducible repeat (first | refine Bn_ ?_ _ | refine Bd_ ?_ | refine Ba_ ?_ _)); exact BK101.out⟩, ⟨by repeat (first | (with_reducible first | exact HB.out | apply Pa_ | apply Pn_ | apply Pd_ | refine Bs_ ?_ GE101.out) | exact HB.out)⟩⟩
   case rest =>
    clear HC3
    try clear p2
    try clear c4
    try clear c4b0
    try clear hcz5_0
    try clear hcz5_1
    try clear hcz5_2
    try clear hcz6_0
    try clear hcz6_1
    try clear hcz6_2
    try clear hfz5_0
    try clear hfz5_1
    try clear hfz5_2
    try clear hfz6_0
    try clear hfz6_1
    try clear hfz6_2
    try clear p2
    obtain ⟨kq, x12_2, rfl, HA, HJ2, BK101, HB⟩ := hcut
    cases kq with
    | zero => exact absurd HA.out (by simp [flagstonelaw09_small.j1])
    | succ kj2 =>
     have H := HA.out
     clear HA
     simp only [flagstonelaw09_small.j1] at H
     by_cases c7 : x12_2 = true
     ·subst c7
      have H1 : (if 0 ≤ x3_1 then (if x3_1 < (l0_0.length : Int) then (if (((rd_T59 l0_0 x3_1).f6).size : Int) > 1500 then (some false) else (if (((rd_T59 l0_0 x3_1).f7).length : Int) > 60 then (some false) else (flagstonelaw09_small.l0 kj2 (wrap64 (x3_1 + 1)) l0_0 a0_1 a0_2))) else (none)) else (none)) = some r := by rw [if_pos rfl] at H; exact H
      clear H
      have H := H1
      clear H1
      by_cases c8 : 0 ≤ x3_1
      ·rw [if_pos c8] at H
       have c8b0 : decide (0 ≤ x3_1) = true := Dt_ c8
       clear c8
       by_cases c9 : x3_1 < (l0_0.length : Int)
       ·rw [if_pos c9] at H
        have c9b0 : decide (x3_1 < (l0_0.length : Int)) = true := Dt_ c9
        clear c9
        by_cases c10 : (((rd_T59 l0_0 x3_1).f6).size : Int) > 1500
        ·rw [if_pos c10] at H
         have c10b0 : decide (1500 < (((rd_T59 l0_0 x3_1).f6).size : Int)) = true := Dt_ c10
         have c10b1 : decide (1500 < ((rd_T59 l0_0 x3_1).f6).size) = true := Dt_ (by omega)
         clear c10
         obtain rfl := Option.some.inj H
         obtain ⟨hcz11_0, hcz11_1, hcz11_2, hfz11_0, hfz11_1, hfz11_2⟩ := Ce3_ BK101.out
         have p102 : 0 ≤ (x3_1 : Int) := Ot_ (by first | (with_reducible assumption) | assumption)
         have q102 : x3_1 < (l0_0.length : Int) := Ot_ (by first | (with_reducible assumption) | assumption)
         obtain ⟨ad102, A102_7, c102_7, e102, hx102_0, hx102_1, hx102_2, hx102_3, hx102_4, hx102_5, hx102_6, hx102_7, hl102_7, hi102_7⟩ := at_T59 HR0_0.out x3_1 p102 q102
         cases e102
         replace hx102_0 := (HB.out.cell (Bl_ w _ hx102_0)).trans hx102_0
         replace hx102_1 := (HB.out.cell (Bl_ w _ hx102_1)).trans hx102_1
         replace hx102_2 := (HB.out.cell (Bl_ w _ hx102_2)).trans hx102_2
         replace hx102_3 := (HB.out.cell (Bl_ w _ hx102_3)).trans hx102_3
         replace hx102_4 := (HB.out.cell (Bl_ w _ hx102_4)).trans hx102_4
         replace hx102_5 := (HB.out.cell (Bl_ w _ hx102_5)).trans hx102_5
         replace hx102_6 := (HB.out.cell (Bl_ w _ hx102_6)).trans hx102_6
         replace hx102_7 := (HB.out.cell (Bl_ w _ hx102_7)).trans hx102_7
         have HR102_7 := Am_ hi102_7
         have HC102_7 := Am_ hl102_7
         clear hi102_7 hl102_7
         replace p102 := eq_true p102
         replace q102 := eq_true q102
         go_wp2
         go_ret
         exact ⟨by first | rfl | (simp [errW_none, errW_some] <;> rfl) | (simp [*, errW_none, errW_some] <;> rfl), by repeat (first | (with_reducible first | exact HB.out | apply Pa_ | apply Pn_ | apply Pd_ | refine Bs_ ?_ GE101.out) | exact HB.out)⟩
        ·rw [if_neg c10] at H
         have c10b0 : decide (1500 < (((rd_T59 l0_0 x3_1).f6).size : Int)) = false := Df_ c10
         have c10b1 : decide (1500 < ((rd_T59 l0_0 x3_1).f6).size) = false := Df_ (by omega)
         clear c10
         by_cases c12 : (((rd_T59 l0_0 x3_1).f7).length : Int) > 60
         ·rw [if_pos c12] at H
          have c12b0 : decide (60 < (((rd_T59 l0_0 x3_1).f7).length : Int)) = true := Dt_ c12
          have c12b1 : decide (60 < ((rd_T59 l0_0 x3_1).f7).length) = true := Dt_ (by omega)
          clear c12
          obtain rfl := Option.some.inj H
          obtain ⟨hcz13_0, hcz13_1, hcz13_2, hfz13_0, hfz13_1, hfz13_2⟩ := Ce3_ BK101.out
          have p102 : 0 ≤ (x3_1 : Int) := Ot_ (by first | (with_reducible assumption) | assumption)
          have q102 : x3_1 < (l0_0.length : Int) := Ot_ (by first | (with_reducible assumption) | assumption)
          obtain ⟨ad102, A102_7, c102_7, e102, hx102_0, hx102_1, hx102_2, hx102_3, hx102_4, hx102_5, hx102_6, hx102_7, hl102_7, hi102_7⟩ := at_T59 HR0_0.out x3_1 p102 q102
          cases e102
          replace hx102_0 := (HB.out.cell (Bl_ w _ hx102_0)).trans hx102_0
          replace hx102_1 := (HB.out.cell (Bl_ w _ hx102_1)).trans hx102_1
          replace hx102_2 := (HB.out.cell (Bl_ w _ hx102_2)).trans hx102_2
          replace hx102_3 := (HB.out.cell (Bl_ w _ hx102_3)).trans hx102_3
          replace hx102_4 := (HB.out.cell (Bl_ w _ hx102_4)).trans hx102_4
          replace hx102_5 := (HB.out.cell (Bl_ w _ hx102_5)).trans hx102_5
          replace hx102_6 := (HB.out.cell (Bl_ w _ hx102_6)).trans hx102_6
          replace hx102_7 := (HB.out.cell (Bl_ w _ hx102_7)).trans hx102_7
          have HR102_7 := Am_ hi102_7
          have HC102_7 := Am_ hl102_7
          clear hi102_7 hl102_7
          replace p102 := eq_true p102
          replace q102 := eq_true q102
          have p103 : 0 ≤ (x3_1 : Int) := Ot_ (by first | (with_reducible assumption) | assumption)
          have q103 : x3_1 < (l0_0.length : Int) := Ot_ (by first | (with_reducible assumption) | assumption)
          obtain ⟨ad103, A103_7, c103_7, e103, hx103_0, hx103_1, hx103_2, hx103_3, hx103_4, hx103_5, hx103_6, hx103_7, hl103_7, hi103_7⟩ := at_T59 HR0_0.out x3_1 p103 q103
          obtain rfl : ad102 = ad103 := (by injection e103)
          replace hx103_0 := (HB.out.cell (Bl_ w _ hx103_0)).trans hx103_0
          replace hx103_1 := (HB.out.cell (Bl_ w _ hx103_1)).trans hx103_1
          replace hx103_2 := (HB.out.cell (Bl_ w _ hx103_2)).trans hx103_2
          replace hx103_3 := (HB.out.cell (Bl_ w _ hx103_3)).trans hx103_3
          replace hx103_4 := (HB.out.cell (Bl_ w _ hx103_4)).trans hx103_4
          replace hx103_5 := (HB.out.cell (Bl_ w _ hx103_5)).trans hx103_5
          replace hx103_6 := (HB.out.cell (Bl_ w _ hx103_6)).trans hx103_6
          replace hx103_7 := (HB.out.cell (Bl_ w _ hx103_7)).trans hx103_7
          have HR103_7 := Am_ hi103_7
          have HC103_7 := Am_ hl103_7
          clear hi103_7 hl103_7
          replace p103 := eq_true p103
          replace q103 := eq_true q103
          have ea_ := Option.some.inj (hx102_7.symm.trans hx103_7)
          injection ea_ with ea_ en_ ec_
          subst ea_
          subst ec_
          clear en_
          go_wp2
          go_ret
          exact ⟨by first | rfl | (simp [errW_none, errW_some] <;> rfl) | (simp [*, errW_none, errW_some] <;> rfl), by repeat (first | (with_reducible first | exact HB.out | apply Pa_ | apply Pn_ | apply Pd_ | refine Bs_ ?_ GE101.out) | exact HB.out)⟩
         ·rw [if_neg c12] at H
          have c12b0 : decide (60 < (((rd_T59 l0_0 x3_1).f7).length : Int)) = false := Df_ c12
          have c12b1 : decide (60 < ((rd_T59 l0_0 x3_1).f7).length) = false := Df_ (by omega)
          clear c12
          have H' := Am_ H
          clear H
          obtain ⟨hcz14_0, hcz14_1, hcz14_2, hfz14_0, hfz14_1, hfz14_2⟩ := Ce3_ BK101.out
          have p102 : 0 ≤ (x3_1 : Int) := Ot_ (by first | (with_reducible assumption) | assumption)
          have q102 : x3_1 < (l0_0.length : Int) := Ot_ (by first | (with_reducible assumption) | assumption)
          obtain ⟨ad102, A102_7, c102_7, e102, hx102_0, hx102_1, hx102_2, hx102_3, hx102_4, hx102_5, hx102_6, hx102_7, hl102_7, hi102_7⟩ := at_T59 HR0_0.out x3_1 p102 q102
          cases e102
          replace hx102_0 := (HB.out.cell (Bl_ w _ hx102_0)).trans hx102_0
          replace hx102_1 := (HB.out.cell (Bl_ w _ hx102_1)).trans hx102_1
          replace hx102_2 := (HB.out.cell (Bl_ w _ hx102_2)).trans hx102_2
          replace hx102_3 := (HB.out.cell (Bl_ w _ hx102_3)).trans hx102_3
          replace hx102_4 := (HB.out.cell (Bl_ w _ hx102_4)).trans hx102_4
          replace hx102_5 := (HB.out.cell (Bl_ w _ hx102_5)).trans hx102_5
          replace hx102_6 := (HB.out.cell (Bl_ w _ hx102_6)).trans hx102_6
          replace hx102_7 := (HB.out.cell (Bl_ w _ hx102_7)).trans hx102_7
          have HR102_7 := Am_ hi102_7
          have HC102_7 := Am_ hl102_7
          clear hi102_7 hl102_7
          replace p102 := eq_true p102
          replace q102 := eq_true q102
          have p103 : 0 ≤ (x3_1 : Int) := Ot_ (by first | (with_reducible assumption) | assumption)
          have q103 : x3_1 < (l0_0.length : Int) := Ot_ (by first | (with_reducible assumption) | assumption)
          obtain ⟨ad103, A103_7, c103_7, e103, hx103_0, hx103_1, hx103_2, hx103_3, hx103_4, hx103_5, hx103_6, hx103_7, hl103_7, hi103_7⟩ := at_T59 HR0_0.out x3_1 p103 q103
          obtain rfl : ad102 = ad103 := (by injection e103)
          replace hx103_0 := (HB.out.cell (Bl_ w _ hx103_0)).trans hx103_0
          replace hx103_1 := (HB.out.cell (Bl_ w _ hx103_1)).trans hx103_1
          replace hx103_2 := (HB.out.cell (Bl_ w _ hx103_2)).trans hx103_2
          replace hx103_3 := (HB.out.cell (Bl_ w _ hx103_3)).trans hx103_3
          replace hx103_4 := (HB.out.cell (Bl_ w _ hx103_4)).trans hx103_4
          replace hx103_5 := (HB.out.cell (Bl_ w _ hx103_5)).trans hx103_5
          replace hx103_6 := (HB.out.cell (Bl_ w _ hx103_6)).trans hx103_6
          replace hx103_7 := (HB.out.cell (Bl_ w _ hx103_7)).trans hx103_7
          have HR103_7 := Am_ hi103_7
          have HC103_7 := Am_ hl103_7
          clear hi103_7 hl103_7
          replace p103 := eq_true p103
          replace q103 := eq_true q103
          have ea_ := Option.some.inj (hx102_7.symm.trans hx103_7)
          injection ea_ with ea_ en_ ec_
          subst ea_
          subst ec_
          clear en_
          go_wp2
          go_roundg kj2
          case measure => have := HK1.out; have := HJ2.out; omega
          case rel => exact ⟨(wrap64 (x3_1 + 1)), (by first | rfl | (simp; done) | (simp [*]; done)), H', ⟨by have := HK1.out; have := HJ2.out; omega⟩, ⟨by (with_reducible repeat (first | refine Bn_ ?_ _ | refine Bd_ ?_ | refine Ba_ ?_ _)); exact BK101.out⟩, ⟨by repeat (first | (with_reducible first | exact HB.out | apply Pa_ | apply Pn_ | apply Pd_ | refine Bs_ ?_ GE101.out) | exact HB.out)⟩⟩
       ·rw [if_neg c9] at H
        exact absurd H (by simp)
      ·rw [if_neg c8] at H
       exact absurd H (by simp)
     ·replace c7 := Bool.eq_false_iff.mpr c7
      subst c7
      have H1 : (some (decide ((l0_0.length : Int) ≤ 100))) = some r := by rw [if_neg (show ¬ (false = true) by decide)] at H; exact H
      clear H
      have H := H1
      clear H1
      obtain rfl := Option.some.inj H
      obtain ⟨hcz15_0, hcz15_1, hcz15_2, hfz15_0, hfz15_1, hfz15_2⟩ := Ce3_ BK101.out
      go_wp2
      go_ret
      exact ⟨by first | rfl | (simp [errW_none, errW_some] <;> rfl) | (simp [*, errW_none, errW_some] <;> rfl), by repeat (first | (with_reducible first | exact HB.out | apply Pa_ | apply Pn_ | apply Pd_ | refine Bs_ ?_ GE101.out) | exact HB.out)⟩

end Go.Proofs.Ytpeelfambaedkaa.P
