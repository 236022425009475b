-- Printed by a program of this session (inject.py) over the kit's print, with functions that were proved by hand in their places.
import Derived.Test.YtkecfdljodiifaaPK
namespace Go.Proofs.Ytkecfdljodiifaa.P
open Go.RowKit Go.Proofs.YtkecfdljodiifaaW.PrintWords Go.Proofs.YtkecfdljodiifaaW.PrintLast Go.Proofs.YtkecfdljodiifaaW.PrintMore
attribute [local go_sem] max2_int min2_int max_two min_two max_three min_three max_four min_four   -- for this text's walks alone
set_option linter.unusedVariables false
set_option linter.unusedSimpArgs false

/-! ### flagstonelaw10_small: function 10 -/
mutual
def flagstonelaw10_small.l0 : Nat → Int → List (S38) → List (List Int) → Option (Bool)
 | 0, _, _, _ => none
 | k + 1, x3, x229000, x229001 => if x3 < (x229001.length : Int) then (flagstonelaw10_small.j1 k x3 (decide (x3 < 20)) x229000 x229001) else (flagstonelaw10_small.j1 k x3 false x229000 x229001)
def flagstonelaw10_small.j1 : Nat → Int → Bool → List (S38) → List (List Int) → Option (Bool)
 | 0, _, _, _, _ => none
 | k + 1, x3, x12, x229000, x229001 => if x12 = true then (if 0 ≤ x3 then (if x3 < (x229001.length : Int) then (if ((rd_L1 x229001 x3).length : Int) > 20 then (some false) else (flagstonelaw10_small.l0 k (wrap64 (x3 + 1)) x229000 x229001)) else (none)) else (none)) else (if (x229000.length : Int) ≤ 100 then (some (decide ((x229001.length : Int) ≤ 20))) else (some false))
end
def flagstonelaw10_small.f (k : Nat) (l0_0 : List (S38)) (l0_1 : List (List Int)) : Option (Bool) := flagstonelaw10_small.l0 k 0 l0_0 l0_1
theorem flagstonelaw10_small.mono_l : ∀ k, (∀ y0 y1 y2, LeO (flagstonelaw10_small.l0 k y0 y1 y2) (flagstonelaw10_small.l0 (k + 1) y0 y1 y2)) ∧ (∀ y0 y1 y2 y3, LeO (flagstonelaw10_small.j1 k y0 y1 y2 y3) (flagstonelaw10_small.j1 (k + 1) y0 y1 y2 y3))
 | 0 => ⟨fun _ _ _ r h => by simp [flagstonelaw10_small.l0] at h, fun _ _ _ _ r h => by simp [flagstonelaw10_small.j1] at h⟩
 | k + 1 => by
  obtain ⟨ih0, ih1⟩ := flagstonelaw10_small.mono_l k
  refine ⟨?_, ?_⟩
  ·intro y0 y1 y2
   unfold flagstonelaw10_small.l0
   repeat' first
   | (with_reducible exact ih0 _ _ _)
   | (with_reducible exact ih1 _ _ _ _)
   | (with_reducible exact LeO.refl _)
   | (with_reducible exact LeO.none _)
   | (with_reducible refine LeO.ite ?_ ?_)
   | (with_reducible refine LeO.bind ?_ (fun _ => ?_))
   | exact ih0 _ _ _
   | exact ih1 _ _ _ _
   | exact LeO.none _
   | refine LeO.ite ?_ ?_
   | refine LeO.bind ?_ (fun _ => ?_)
  ·intro y0 y1 y2 y3
   unfold flagstonelaw10_small.j1
   repeat' first
   | (with_reducible exact ih0 _ _ _)
   | (with_reducible exact ih1 _ _ _ _)
   | (with_reducible exact LeO.refl _)
   | (with_reducible exact LeO.none _)
   | (with_reducible refine LeO.ite ?_ ?_)
   | (with_reducible refine LeO.bind ?_ (fun _ => ?_))
   | exact ih0 _ _ _
   | exact ih1 _ _ _ _
   | exact LeO.none _
   | refine LeO.ite ?_ ?_
   | refine LeO.bind ?_ (fun _ => ?_)
theorem flagstonelaw10_small.mono : ∀ a0 a1 k, LeO (flagstonelaw10_small.f k a0 a1) (flagstonelaw10_small.f (k + 1) a0 a1) := by
 intro a0 a1 k
 obtain ⟨ih0, ih1⟩ := flagstonelaw10_small.mono_l k
 unfold flagstonelaw10_small.f
 repeat' first
   | (with_reducible exact ih0 _ _ _)
   | (with_reducible exact ih1 _ _ _ _)
   | (with_reducible exact LeO.refl _)
   | (with_reducible exact LeO.none _)
   | (with_reducible refine LeO.ite ?_ ?_)
   | (with_reducible refine LeO.bind ?_ (fun _ => ?_))
   | exact ih0 _ _ _
   | exact ih1 _ _ _ _
   | exact LeO.none _
   | refine LeO.ite ?_ ?_
   | refine LeO.bind ?_ (fun _ => ?_)
set_option maxHeartbeats 8000000 in
set_option maxRecDepth 100000 in
theorem flagstonelaw10_small.calls (k : Nat) (A0_0 : Option Addr) (c0_0 : Nat) (l0_0 : List (S38)) (A0_1 : Option Addr) (c0_1 : Nat) (l0_1 : List (List Int)) (r : Bool) (w : World) (hr0_0 : Kd.C k38 w A0_0 l0_0.length l0_0) (hc0_0 : l0_0.length ≤ c0_0) (hr0_1 : Kd.C (Kd.slice 3 (Kd.int .i64)) w A0_1 l0_1.length l0_1) (hc0_1 : l0_1.length ≤ c0_1) (h : flagstonelaw10_small.f k l0_0 l0_1 = some r) :
  Calls Try.prog 10 #[.agg #[.slice A0_0 l0_0.length c0_0, .slice A0_1 l0_1.length c0_1]] w fun e w' => e = .returned (.bool r) ∧ Below w.heap.size w w' := by
 have hu25 := Try.underlying25
 have HR0_0 := Am_ hr0_0
 have HC0_0 := Am_ hc0_0
 clear hr0_0 hc0_0
 have HR0_1 := Am_ hr0_1
 have HC0_1 := Am_ hc0_1
 clear hr0_1 hc0_1
 have HB := Am_ (Below.refl w.heap.size w)
 have H : (flagstonelaw10_small.l0 k 0 l0_0 l0_1) = some r := h
 clear h
 have H' := Am_ H
 clear H
 go_enter Try.func10, Try.ntmps10
 go_wp2_with (first | ((with_reducible refine gate_dst (N := 1) rfl ?_); (try (refine gate_guard (by rfl) ?_; dsimp only)); refine box_event ?hg (N := 1) ?hd (cs := #[.slice A0_0 l0_0.length c0_0, .slice A0_1 l0_1.length c0_1]) (t := 25) ?hr ?_; (case hd => rfl); (case hg => rfl); (case hr => go_simp; try rfl); intro gb228 hg w2 hbox hb; have n0_ := Am_ (Be_ (Pb0_ HB.out) hb); have n1_ := Am_ (hbox); have n2_ := Am_ ((by rw [hg]; exact (Bz_ (Pb0_ HB.out)) : w.heap.size ≤ gb228)); have n3_ := Am_ ((by rw [hg]; exact (Bz_ (Pb0_ HB.out)) : w.heap.size ≤ gb228)); clear HB; have HB := n0_; have BK228 := n1_; have GW228 := n2_; have GE228 := n3_; clear n0_ n1_ n2_ n3_; clear hb hbox hg))
 go_loopg [3] k (fun kq v3 w' => ∃ (x3_1 : Int), v3 = .int .i64 x3_1 ∧ Aside0 (flagstonelaw10_small.l0 kq x3_1 l0_0 l0_1 = some r) ∧ Aside0 (kq ≤ k) ∧ Aside0 (w'.heap[gb228]? = some (.cells #[(.slice A0_0 l0_0.length c0_0), (.slice A0_1 l0_1.length c0_1)] 25 (0, 0))) ∧ Aside0 (Below w.heap.size w w'))
 case atStart => exact ⟨(0), (by first | rfl | (simp; done) | (simp [*]; done)), H', ⟨Nat.le_refl _⟩, ⟨by (with_reducible repeat (first | refine Bn_ ?_ _ | refine Bd_ ?_ | refine Ba_ ?_ _)); exact BK228.out⟩, ⟨by repeat (first | (with_reducible first | exact HB.out | apply Pa_ | apply Pn_ | apply Pd_ | refine Bs_ ?_ GE228.out) | exact HB.out)⟩⟩
 case round =>
  clear H'
  try clear c1
  try clear p2
  obtain ⟨x3_1, rfl, HA, HK1, BK228, HB⟩ := hrel
  cases gk with
  | zero => exact absurd HA.out (by simp [flagstonelaw10_small.l0])
  | succ k1 =>
   have H := HA.out
   clear HA
   simp only [flagstonelaw10_small.l0] at H
   have HC3 := Am_ H
   clear H
   go_upto_region 2 with (fail)
   go_cut [12] (fun v12 wc => ∃ (kq : Nat) (x12_2 : Bool), v12 = .bool x12_2 ∧ Aside0 (flagstonelaw10_small.j1 kq x3_1 x12_2 l0_0 l0_1 = some r) ∧ Aside0 (kq ≤ k1) ∧ Aside0 (wc.heap[gb228]? = some (.cells #[(.slice A0_0 l0_0.length c0_0), (.slice A0_1 l0_1.length c0_1)] 25 (0, 0))) ∧ Aside0 (Below w.heap.size w wc))
   case first =>
    have H := HC3.out
    clear HC3
    by_cases c4 : x3_1 < (l0_1.length : Int)
    ·rw [if_pos c4] at H
     have c4b0 : decide (x3_1 < (l0_1.length : Int)) = true := Dt_ c4
     clear c4
     (first | rw [c4b0] | (simp only [i64_w, i32_w]; rw [c4b0]) | skip)
     have H' := Am_ H
     clear H
     obtain ⟨hcz5_0, hcz5_1, hfz5_0, hfz5_1⟩ := Ce2_ BK228.out
     go_wp2
     go_meet
     case rel => exact ⟨_, (decide (x3_1 < 20)), (by first | rfl | (simp; done) | (simp [*]; done)), H', ⟨by have := HK1.out; first | omega | exact Nat.le_refl _⟩, ⟨by (with_reducible repeat (first | refine Bn_ ?_ _ | refine Bd_ ?_ | refine Ba_ ?_ _)); exact BK228.out⟩, ⟨by repeat (first | (with_reducible first | exact HB.out | apply Pa_ | apply Pn_ | apply Pd_ | refine Bs_ ?_ GE228.out) | exact HB.out)⟩⟩
    ·rw [if_neg c4] at H
     have c4b0 : decide (x3_1 < (l0_1.length : Int)) = false := Df_ c4
     clear c4
     (first | rw [c4b0] | (simp only [i64_w, i32_w]; rw [c4b0]) | skip)
     have H' := Am_ H
     clear H
     obtain ⟨hcz6_0, hcz6_1, hfz6_0, hfz6_1⟩ := Ce2_ BK228.out
     go_wp2
     go_meet
     case rel => exact ⟨_, (false), (by first | rfl | (simp; done) | (simp [*]; done)), H', ⟨by have := HK1.out; first | omega | exact Nat.le_refl _⟩, ⟨by (with_reducible repeat (first | refine Bn_ ?_ _ | refine Bd_ ?_ | refine Ba_ ?_ _)); exact BK228.out⟩, ⟨by repeat (first | (with_reducible first | exact HB.out | apply Pa_ | apply Pn_ | apply Pd_ | refine Bs_ ?_ GE228.out) | exact HB.out)⟩⟩
   case rest =>
    clear HC3
    try clear c1
    try clear p2
    try clear c4
    try clear c4b0
    try clear hcz5_0
    try clear hcz5_1
    try clear hcz6_0
    try clear hcz6_1
    try clear hfz5_0
    try clear hfz5_1
    try clear hfz6_0
    try clear hfz6_1
    try clear p2
    obtain ⟨kq, x12_2, rfl, HA, HJ2, BK228, HB⟩ := hcut
    cases kq with
    | zero => exact absurd HA.out (by simp [flagstonelaw10_small.j1])
    | succ kj2 =>
     have H := HA.out
     clear HA
     simp only [flagstonelaw10_small.j1] at H
     by_cases c7 : x12_2 = true
     ·subst c7
      have H1 : (if 0 ≤ x3_1 then (if x3_1 < (l0_1.length : Int) then (if ((rd_L1 l0_1 x3_1).length : Int) > 20 then (some false) else (flagstonelaw10_small.l0 kj2 (wrap64 (x3_1 + 1)) l0_0 l0_1)) else (none)) else (none)) = some r := by rw [if_pos rfl] at H; exact H
      clear H
      have H := H1
      clear H1
      by_cases c8 : 0 ≤ x3_1
      ·rw [if_pos c8] at H
       have c8b0 : decide (0 ≤ x3_1) = true := Dt_ c8
       clear c8
       by_cases c9 : x3_1 < (l0_1.length : Int)
       ·rw [if_pos c9] at H
        have c9b0 : decide (x3_1 < (l0_1.length : Int)) = true := Dt_ c9
        clear c9
        by_cases c10 : ((rd_L1 l0_1 x3_1).length : Int) > 20
        ·rw [if_pos c10] at H
         have c10b0 : decide (20 < ((rd_L1 l0_1 x3_1).length : Int)) = true := Dt_ c10
         have c10b1 : decide (20 < (rd_L1 l0_1 x3_1).length) = true := Dt_ (by omega)
         clear c10
         obtain rfl := Option.some.inj H
         obtain ⟨hcz11_0, hcz11_1, hfz11_0, hfz11_1⟩ := Ce2_ BK228.out
         have p229 : 0 ≤ (x3_1 : Int) := Ot_ (by first | (with_reducible assumption) | assumption)
         have q229 : x3_1 < (l0_1.length : Int) := Ot_ (by first | (with_reducible assumption) | assumption)
         obtain ⟨ad229, A229_0, c229_0, e229, hx229_0, hl229_0, hi229_0⟩ := at_L1 HR0_1.out x3_1 p229 q229
         cases e229
         replace hx229_0 := (HB.out.cell (Bl_ w _ hx229_0)).trans hx229_0
         have HR229_0 := Am_ hi229_0
         have HC229_0 := Am_ hl229_0
         clear hi229_0 hl229_0
         replace p229 := eq_true p229
         replace q229 := eq_true q229
         go_wp2
         go_ret
         exact ⟨by first | rfl | (simp [errW_none, errW_some] <;> rfl) | (simp [*, errW_none, errW_some] <;> rfl), by repeat (first | (with_reducible first | exact HB.out | apply Pa_ | apply Pn_ | apply Pd_ | refine Bs_ ?_ GE228.out) | exact HB.out)⟩
        ·rw [if_neg c10] at H
         have c10b0 : decide (20 < ((rd_L1 l0_1 x3_1).length : Int)) = false := Df_ c10
         have c10b1 : decide (20 < (rd_L1 l0_1 x3_1).length) = false := Df_ (by omega)
         clear c10
         have H' := Am_ H
         clear H
         obtain ⟨hcz12_0, hcz12_1, hfz12_0, hfz12_1⟩ := Ce2_ BK228.out
         have p229 : 0 ≤ (x3_1 : Int) := Ot_ (by first | (with_reducible assumption) | assumption)
         have q229 : x3_1 < (l0_1.length : Int) := Ot_ (by first | (with_reducible assumption) | assumption)
         obtain ⟨ad229, A229_0, c229_0, e229, hx229_0, hl229_0, hi229_0⟩ := at_L1 HR0_1.out x3_1 p229 q229
         cases e229
         replace hx229_0 := (HB.out.cell (Bl_ w _ hx229_0)).trans hx229_0
         have HR229_0 := Am_ hi229_0
         have HC229_0 := Am_ hl229_0
         clear hi229_0 hl229_0
         replace p229 := eq_true p229
         replace q229 := eq_true q229
         go_wp2
         go_roundg kj2
         case measure => have := HK1.out; have := HJ2.out; omega
         case rel => exact ⟨(wrap64 (x3_1 + 1)), (by first | rfl | (simp; done) | (simp [*]; done)), H', ⟨by have := HK1.out; have := HJ2.out; omega⟩, ⟨by (with_reducible repeat (first | refine Bn_ ?_ _ | refine Bd_ ?_ | refine Ba_ ?_ _)); exact BK228.out⟩, ⟨by repeat (first | (with_reducible first | exact HB.out | apply Pa_ | apply Pn_ | apply Pd_ | refine Bs_ ?_ GE228.out) | exact HB.out)⟩⟩
       ·rw [if_neg c9] at H
        exact absurd H (by simp)
      ·rw [if_neg c8] at H
       exact absurd H (by simp)
     ·replace c7 := Bool.eq_false_iff.mpr c7
      subst c7
      have H1 : (if (l0_0.length : Int) ≤ 100 then (some (decide ((l0_1.length : Int) ≤ 20))) else (some false)) = some r := by rw [if_neg (show ¬ (false = true) by decide)] at H; exact H
      clear H
      have H := H1
      clear H1
      by_cases c13 : (l0_0.length : Int) ≤ 100
      ·rw [if_pos c13] at H
       have c13b0 : decide ((l0_0.length : Int) ≤ 100) = true := Dt_ c13
       have c13b1 : decide (l0_0.length ≤ 100) = true := Dt_ (by omega)
       clear c13
       obtain rfl := Option.some.inj H
       obtain ⟨hcz14_0, hcz14_1, hfz14_0, hfz14_1⟩ := Ce2_ BK228.out
       go_wp2
       go_ret
       exact ⟨by first | rfl | (simp [errW_none, errW_some] <;> rfl) | (simp [*, errW_none, errW_some] <;> rfl), by repeat (first | (with_reducible first | exact HB.out | apply Pa_ | apply Pn_ | apply Pd_ | refine Bs_ ?_ GE228.out) | exact HB.out)⟩
      ·rw [if_neg c13] at H
       have c13b0 : decide ((l0_0.length : Int) ≤ 100) = false := Df_ c13
       have c13b1 : decide (l0_0.length ≤ 100) = false := Df_ (by omega)
       clear c13
       obtain rfl := Option.some.inj H
       obtain ⟨hcz15_0, hcz15_1, hfz15_0, hfz15_1⟩ := Ce2_ BK228.out
       go_wp2
       go_ret
       exact ⟨by first | rfl | (simp [errW_none, errW_some] <;> rfl) | (simp [*, errW_none, errW_some] <;> rfl), by repeat (first | (with_reducible first | exact HB.out | apply Pa_ | apply Pn_ | apply Pd_ | refine Bs_ ?_ GE228.out) | exact HB.out)⟩

end Go.Proofs.Ytkecfdljodiifaa.P
