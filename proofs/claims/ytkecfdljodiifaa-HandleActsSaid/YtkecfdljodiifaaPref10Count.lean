-- Printed by a program of this session (inject.py) over the kit's print, with functions that were proved by hand in their places.
import Derived.Test.YtkecfdljodiifaaPK
namespace Go.Proofs.Ytkecfdljodiifaa.P
open Go.RowKit Go.Proofs.YtkecfdljodiifaaW.PrintWords Go.Proofs.YtkecfdljodiifaaW.PrintLast Go.Proofs.YtkecfdljodiifaaW.PrintMore
attribute [local go_sem] max2_int min2_int max_two min_two max_three min_three max_four min_four   -- for this text's walks alone
set_option linter.unusedVariables false
set_option linter.unusedSimpArgs false

/-! ### flagstoneref10_Count: function 29 -/
mutual
def flagstoneref10_Count.j0 : Nat → Int → Int → Bool → List (S54) → List (List Int) → Option (Int)
 | 0, _, _, _, _, _ => none
 | k + 1, x1, x5, x15, x376000, x376001 => if x15 = true then (some 0) else (flagstoneref10_Count.l0 k x1 x5 0 x376000 x376001)
def flagstoneref10_Count.l0 : Nat → Int → Int → Int → List (S54) → List (List Int) → Option (Int)
 | 0, _, _, _, _, _ => none
 | k + 1, x1, x5, x6, x376000, x376001 => if 0 ≤ x1 then (if x1 < (x376001.length : Int) then (if x6 < ((rd_L1 x376001 x1).length : Int) then (if 0 ≤ x6 then (if (rd (rd_L1 x376001 x1) x6) ≥ 0 then (flagstoneref10_Count.l0 k x1 (wrap64 (x5 + 1)) (wrap64 (x6 + 1)) x376000 x376001) else (flagstoneref10_Count.l0 k x1 x5 (wrap64 (x6 + 1)) x376000 x376001)) else (none)) else (some x5)) else (none)) else (none)
end
def flagstoneref10_Count.f (k : Nat) (l0_0 : List (S54)) (l0_1 : List (List Int)) (a1 : Int) : Option (Int) := if a1 < 0 then (flagstoneref10_Count.j0 k a1 0 true l0_0 l0_1) else (flagstoneref10_Count.j0 k a1 0 (decide (a1 ≥ (l0_1.length : Int))) l0_0 l0_1)
theorem flagstoneref10_Count.mono_l : ∀ k, (∀ y0 y1 y2 y3 y4, LeO (flagstoneref10_Count.j0 k y0 y1 y2 y3 y4) (flagstoneref10_Count.j0 (k + 1) y0 y1 y2 y3 y4)) ∧ (∀ y0 y1 y2 y3 y4, LeO (flagstoneref10_Count.l0 k y0 y1 y2 y3 y4) (flagstoneref10_Count.l0 (k + 1) y0 y1 y2 y3 y4))
 | 0 => ⟨fun _ _ _ _ _ r h => by simp [flagstoneref10_Count.j0] at h, fun _ _ _ _ _ r h => by simp [flagstoneref10_Count.l0] at h⟩
 | k + 1 => by
  obtain ⟨ih0, ih1⟩ := flagstoneref10_Count.mono_l k
  refine ⟨?_, ?_⟩
  ·intro y0 y1 y2 y3 y4
   unfold flagstoneref10_Count.j0
   repeat' first
   | (with_reducible exact ih0 _ _ _ _ _)
   | (with_reducible exact ih1 _ _ _ _ _)
   | (with_reducible exact LeO.refl _)
   | (with_reducible exact LeO.none _)
   | (with_reducible refine LeO.ite ?_ ?_)
   | (with_reducible refine LeO.bind ?_ (fun _ => ?_))
   | exact ih0 _ _ _ _ _
   | exact ih1 _ _ _ _ _
   | exact LeO.none _
   | refine LeO.ite ?_ ?_
   | refine LeO.bind ?_ (fun _ => ?_)
  ·intro y0 y1 y2 y3 y4
   unfold flagstoneref10_Count.l0
   repeat' first
   | (with_reducible exact ih0 _ _ _ _ _)
   | (with_reducible exact ih1 _ _ _ _ _)
   | (with_reducible exact LeO.refl _)
   | (with_reducible exact LeO.none _)
   | (with_reducible refine LeO.ite ?_ ?_)
   | (with_reducible refine LeO.bind ?_ (fun _ => ?_))
   | exact ih0 _ _ _ _ _
   | exact ih1 _ _ _ _ _
   | exact LeO.none _
   | refine LeO.ite ?_ ?_
   | refine LeO.bind ?_ (fun _ => ?_)
theorem flagstoneref10_Count.mono : ∀ a0 a1 a2 k, LeO (flagstoneref10_Count.f k a0 a1 a2) (flagstoneref10_Count.f (k + 1) a0 a1 a2) := by
 intro a0 a1 a2 k
 obtain ⟨ih0, ih1⟩ := flagstoneref10_Count.mono_l k
 unfold flagstoneref10_Count.f
 repeat' first
   | (with_reducible exact ih0 _ _ _ _ _)
   | (with_reducible exact ih1 _ _ _ _ _)
   | (with_reducible exact LeO.refl _)
   | (with_reducible exact LeO.none _)
   | (with_reducible refine LeO.ite ?_ ?_)
   | (with_reducible refine LeO.bind ?_ (fun _ => ?_))
   | exact ih0 _ _ _ _ _
   | exact ih1 _ _ _ _ _
   | exact LeO.none _
   | refine LeO.ite ?_ ?_
   | refine LeO.bind ?_ (fun _ => ?_)
set_option maxHeartbeats 8000000 in
set_option maxRecDepth 100000 in
theorem flagstoneref10_Count.calls (k : Nat) (A0_0 : Option Addr) (c0_0 : Nat) (l0_0 : List (S54)) (A0_1 : Option Addr) (c0_1 : Nat) (l0_1 : List (List Int)) (a1 : Int) (r : Int) (w : World) (hr0_0 : Kd.C k54 w A0_0 l0_0.length l0_0) (hc0_0 : l0_0.length ≤ c0_0) (hr0_1 : Kd.C (Kd.slice 3 (Kd.int .i64)) w A0_1 l0_1.length l0_1) (hc0_1 : l0_1.length ≤ c0_1) (h : flagstoneref10_Count.f k l0_0 l0_1 a1 = some r) :
  Calls Try.prog 29 #[.agg #[.slice A0_0 l0_0.length c0_0, .slice A0_1 l0_1.length c0_1], .int .i64 a1] w fun e w' => e = .returned (.int .i64 r) ∧ Below w.heap.size w w' := by
 have hu31 := Try.underlying31
 have HR0_0 := Am_ hr0_0
 have HC0_0 := Am_ hc0_0
 clear hr0_0 hc0_0
 have HR0_1 := Am_ hr0_1
 have HC0_1 := Am_ hc0_1
 clear hr0_1 hc0_1
 have HB := Am_ (Below.refl w.heap.size w)
 have H : (if a1 < 0 then (flagstoneref10_Count.j0 k a1 0 true l0_0 l0_1) else (flagstoneref10_Count.j0 k a1 0 (decide (a1 ≥ (l0_1.length : Int))) l0_0 l0_1)) = some r := h
 clear h
 have HC3 := Am_ H
 clear H
 go_enter Try.func29, Try.ntmps29
 go_upto_region 2 with (first | ((with_reducible refine gate_dst (N := 2) rfl ?_); (try (refine gate_guard (by rfl) ?_; dsimp only)); refine box_event ?hg (N := 2) ?hd (cs := #[.slice A0_0 l0_0.length c0_0, .slice A0_1 l0_1.length c0_1]) (t := 31) ?hr ?_; (case hd => rfl); (case hg => rfl); (case hr => go_simp; try rfl); intro gb375 hg w4 hbox hb; have n0_ := Am_ (Be_ (Pb0_ HB.out) hb); have n1_ := Am_ (hbox); have n2_ := Am_ ((by rw [hg]; exact (Bz_ (Pb0_ HB.out)) : w.heap.size ≤ gb375)); have n3_ := Am_ ((by rw [hg]; exact (Bz_ (Pb0_ HB.out)) : w.heap.size ≤ gb375)); clear HB; have HB := n0_; have BK375 := n1_; have GW375 := n2_; have GE375 := n3_; clear n0_ n1_ n2_ n3_; clear hb hbox hg))
 (try simp only [Act.put, La_, Lb_, Lc_])
 go_cut [15] (fun v15 wc => ∃ (kq : Nat) (x15_2 : Bool), v15 = .bool x15_2 ∧ Aside0 (flagstoneref10_Count.j0 kq a1 0 x15_2 l0_0 l0_1 = some r) ∧ Aside0 (kq ≤ k) ∧ Aside0 (wc.heap[gb375]? = some (.cells #[(.slice A0_0 l0_0.length c0_0), (.slice A0_1 l0_1.length c0_1)] 31 (0, 0))) ∧ Aside0 (Below w.heap.size w wc))
 case first =>
  have H := HC3.out
  clear HC3
  by_cases c5 : a1 < 0
  ·rw [if_pos c5] at H
   have c5b0 : decide (a1 < 0) = true := Dt_ c5
   clear c5
   (first | rw [c5b0] | (simp only [i64_w, i32_w]; rw [c5b0]) | skip)
   have H' := Am_ H
   clear H
   go_wp2
   go_meet
   case rel => exact ⟨_, (true), (by first | rfl | (simp; done) | (simp [*]; done)), H', ⟨by first | omega | exact Nat.le_refl _⟩, ⟨by (with_reducible repeat (first | refine Bn_ ?_ _ | refine Bd_ ?_ | refine Ba_ ?_ _)); exact BK375.out⟩, ⟨by repeat (first | (with_reducible first | exact HB.out | apply Pa_ | apply Pn_ | apply Pd_ | refine Bs_ ?_ GE375.out) | exact HB.out)⟩⟩
  ·rw [if_neg c5] at H
   have c5b0 : decide (a1 < 0) = false := Df_ c5
   clear c5
   (first | rw [c5b0] | (simp only [i64_w, i32_w]; rw [c5b0]) | skip)
   have H' := Am_ H
   clear H
   obtain ⟨hcz6_0, hcz6_1, hfz6_0, hfz6_1⟩ := Ce2_ BK375.out
   go_wp2
   go_meet
   case rel => exact ⟨_, (decide (a1 ≥ (l0_1.length : Int))), (by first | rfl | (simp; done) | (simp [*]; done)), H', ⟨by first | omega | exact Nat.le_refl _⟩, ⟨by (with_reducible repeat (first | refine Bn_ ?_ _ | refine Bd_ ?_ | refine Ba_ ?_ _)); exact BK375.out⟩, ⟨by repeat (first | (with_reducible first | exact HB.out | apply Pa_ | apply Pn_ | apply Pd_ | refine Bs_ ?_ GE375.out) | exact HB.out)⟩⟩
 case rest =>
  clear HC3
  try clear c2
  try clear p2
  try clear c5
  try clear c5b0
  try clear hcz6_0
  try clear hcz6_1
  try clear hfz6_0
  try clear hfz6_1
  obtain ⟨kq, x15_2, rfl, HA, HJ2, BK375, HB⟩ := hcut
  cases kq with
  | zero => exact absurd HA.out (by simp [flagstoneref10_Count.j0])
  | succ kj2 =>
   have H := HA.out
   clear HA
   simp only [flagstoneref10_Count.j0] at H
   by_cases c7 : x15_2 = true
   ·subst c7
    have H1 : (some 0) = some r := by rw [if_pos rfl] at H; exact H
    clear H
    have H := H1
    clear H1
    obtain rfl := Option.some.inj H
    go_wp2
    go_ret
    exact ⟨by first | rfl | (simp [errW_none, errW_some] <;> rfl) | (simp [*, errW_none, errW_some] <;> rfl), by repeat (first | (with_reducible first | exact HB.out | apply Pa_ | apply Pn_ | apply Pd_ | refine Bs_ ?_ GE375.out) | exact HB.out)⟩
   ·replace c7 := Bool.eq_false_iff.mpr c7
    subst c7
    have H1 : (flagstoneref10_Count.l0 kj2 a1 0 0 l0_0 l0_1) = some r := by rw [if_neg (show ¬ (false = true) by decide)] at H; exact H
    clear H
    have H := H1
    clear H1
    have H' := Am_ H
    clear H
    go_wp2
    go_loopg [5, 6] kj2 (fun kq v5 v6 w' => ∃ (x5_2 : Int) (x6_2 : Int), v5 = .int .i64 x5_2 ∧ v6 = .int .i64 x6_2 ∧ Aside0 (flagstoneref10_Count.l0 kq a1 x5_2 x6_2 l0_0 l0_1 = some r) ∧ Aside0 (kq ≤ kj2) ∧ Aside0 (w'.heap[gb375]? = some (.cells #[(.slice A0_0 l0_0.length c0_0), (.slice A0_1 l0_1.length c0_1)] 31 (0, 0))) ∧ Aside0 (Below w.heap.size w w'))
    case atStart => exact ⟨(0), (0), (by first | rfl | (simp; done) | (simp [*]; done)), (by first | rfl | (simp; done) | (simp [*]; done)), H', ⟨Nat.le_refl _⟩, ⟨by (with_reducible repeat (first | refine Bn_ ?_ _ | refine Bd_ ?_ | refine Ba_ ?_ _)); exact BK375.out⟩, ⟨by repeat (first | (with_reducible first | exact HB.out | apply Pa_ | apply Pn_ | apply Pd_ | refine Bs_ ?_ GE375.out) | exact HB.out)⟩⟩
    case round =>
     clear H'
     try clear c2
     try clear p2
     try clear c5
     try clear c5b0
     try clear c7
     try clear hcz6_0
     try clear hcz6_1
     try clear hfz6_0
     try clear hfz6_1
     try clear p2
     obtain ⟨x5_2, x6_2, rfl, rfl, HA, HK2, BK375, HB⟩ := hrel
     cases gk with
     | zero => exact absurd HA.out (by simp [flagstoneref10_Count.l0])
     | succ k2 =>
      have H := HA.out
      clear HA
      simp only [flagstoneref10_Count.l0] at H
      by_cases c8 : 0 ≤ a1
      ·rw [if_pos c8] at H
       have c8b0 : decide (0 ≤ a1) = true := Dt_ c8
       clear c8
       by_cases c9 : a1 < (l0_1.length : Int)
       ·rw [if_pos c9] at H
        have c9b0 : decide (a1 < (l0_1.length : Int)) = true := Dt_ c9
        clear c9
        by_cases c10 : x6_2 < ((rd_L1 l0_1 a1).length : Int)
        ·rw [if_pos c10] at H
         have c10b0 : decide (x6_2 < ((rd_L1 l0_1 a1).length : Int)) = true := Dt_ c10
         clear c10
         by_cases c11 : 0 ≤ x6_2
         ·rw [if_pos c11] at H
          have c11b0 : decide (0 ≤ x6_2) = true := Dt_ c11
          clear c11
          by_cases c12 : (rd (rd_L1 l0_1 a1) x6_2) ≥ 0
          ·rw [if_pos c12] at H
           have c12b0 : decide (0 ≤ (rd (rd_L1 l0_1 a1) x6_2)) = true := Dt_ c12
           clear c12
           have H' := Am_ H
           clear H
           obtain ⟨hcz13_0, hcz13_1, hfz13_0, hfz13_1⟩ := Ce2_ BK375.out
           have p376 : 0 ≤ (a1 : Int) := Ot_ (by first | (with_reducible assumption) | assumption)
           have q376 : a1 < (l0_1.length : Int) := Ot_ (by first | (with_reducible assumption) | assumption)
           obtain ⟨ad376, A376_0, c376_0, e376, hx376_0, hl376_0, hi376_0⟩ := at_L1 HR0_1.out a1 p376 q376
           cases e376
           replace hx376_0 := (HB.out.cell (Bl_ w _ hx376_0)).trans hx376_0
           have HR376_0 := Am_ hi376_0
           have HC376_0 := Am_ hl376_0
           clear hi376_0 hl376_0
           replace p376 := eq_true p376
           replace q376 := eq_true q376
           have p377 : 0 ≤ (a1 : Int) := Ot_ (by first | (with_reducible assumption) | assumption)
           have q377 : a1 < (l0_1.length : Int) := Ot_ (by first | (with_reducible assumption) | assumption)
           obtain ⟨ad377, A377_0, c377_0, e377, hx377_0, hl377_0, hi377_0⟩ := at_L1 HR0_1.out a1 p377 q377
           obtain rfl : ad376 = ad377 := (by injection e377)
           replace hx377_0 := (HB.out.cell (Bl_ w _ hx377_0)).trans hx377_0
           have HR377_0 := Am_ hi377_0
           have HC377_0 := Am_ hl377_0
           clear hi377_0 hl377_0
           replace p377 := eq_true p377
           replace q377 := eq_true q377
           have ea_ := Option.some.inj (hx376_0.symm.trans hx377_0)
           injection ea_ with ea_ en_ ec_
           subst ea_
           subst ec_
           clear en_
           have p378 : 0 ≤ (x6_2 : Int) := Ot_ (by first | (with_reducible assumption) | assumption)
           have q378 : x6_2 < ((rd_L1 l0_1 a1).length : Int) := Ot_ (by first | (with_reducible assumption) | assumption)
           obtain ⟨ad378, e378, hx378_0⟩ := Kd.at_int HR377_0.out x6_2 p378 q378
           cases e378
           replace hx378_0 := (HB.out.cell (Bl_ w _ hx378_0)).trans hx378_0
           replace p378 := eq_true p378
           replace q378 := eq_true q378
           go_wp2
           go_roundg k2
           case measure => have := HJ2.out; have := HK2.out; omega
           case rel => exact ⟨(wrap64 (x5_2 + 1)), (wrap64 (x6_2 + 1)), (by first | rfl | (simp; done) | (simp [*]; done)), (by first | rfl | (simp; done) | (simp [*]; done)), H', ⟨by have := HJ2.out; have := HK2.out; omega⟩, ⟨by (with_reducible repeat (first | refine Bn_ ?_ _ | refine Bd_ ?_ | refine Ba_ ?_ _)); exact BK375.out⟩, ⟨by repeat (first | (with_reducible first | exact HB.out | apply Pa_ | apply Pn_ | apply Pd_ | refine Bs_ ?_ GE375.out) | exact HB.out)⟩⟩
          ·rw [if_neg c12] at H
           have c12b0 : decide (0 ≤ (rd (rd_L1 l0_1 a1) x6_2)) = false := Df_ c12
           clear c12
           have H' := Am_ H
           clear H
           obtain ⟨hcz14_0, hcz14_1, hfz14_0, hfz14_1⟩ := Ce2_ BK375.out
           have p376 : 0 ≤ (a1 : Int) := Ot_ (by first | (with_reducible assumption) | assumption)
           have q376 : a1 < (l0_1.length : Int) := Ot_ (by first | (with_reducible assumption) | assumption)
           obtain ⟨ad376, A376_0, c376_0, e376, hx376_0, hl376_0, hi376_0⟩ := at_L1 HR0_1.out a1 p376 q376
           cases e376
           replace hx376_0 := (HB.out.cell (Bl_ w _ hx376_0)).trans hx376_0
           have HR376_0 := Am_ hi376_0
           have HC376_0 := Am_ hl376_0
           clear hi376_0 hl376_0
           replace p376 := eq_true p376
           replace q376 := eq_true q376
           have p377 : 0 ≤ (a1 : Int) := Ot_ (by first | (with_reducible assumption) | assumption)
           have q377 : a1 < (l0_1.length : Int) := Ot_ (by first | (with_reducible assumption) | assumption)
           obtain ⟨ad377, A377_0, c377_0, e377, hx377_0, hl377_0, hi377_0⟩ := at_L1 HR0_1.out a1 p377 q377
           obtain rfl : ad376 = ad377 := (by injection e377)
           replace hx377_0 := (HB.out.cell (Bl_ w _ hx377_0)).trans hx377_0
           have HR377_0 := Am_ hi377_0
           have HC377_0 := Am_ hl377_0
           clear hi377_0 hl377_0
           replace p377 := eq_true p377
           replace q377 := eq_true q377
           have ea_ := Option.some.inj (hx376_0.symm.trans hx377_0)
           injection ea_ with ea_ en_ ec_
           subst ea_
           subst ec_
           clear en_
           have p378 : 0 ≤ (x6_2 : Int) := Ot_ (by first | (with_reducible assumption) | assumption)
           have q378 : x6_2 < ((rd_L1 l0_1 a1).length : Int) := Ot_ (by first | (with_reducible assumption) | assumption)
           obtain ⟨ad378, e378, hx378_0⟩ := Kd.at_int HR377_0.out x6_2 p378 q378
           cases e378
           replace hx378_0 := (HB.out.cell (Bl_ w _ hx378_0)).trans hx378_0
           replace p378 := eq_true p378
           replace q378 := eq_true q378
           go_wp2
           go_roundg k2
           case measure => have := HJ2.out; have := HK2.out; omega
           case rel => exact ⟨(x5_2), (wrap64 (x6_2 + 1)), (by first | rfl | (simp; done) | (simp [*]; done)), (by first | rfl | (simp; done) | (simp [*]; done)), H', ⟨by have := HJ2.out; have := HK2.out; omega⟩, ⟨by (with_reducible repeat (first | refine Bn_ ?_ _ | refine Bd_ ?_ | refine Ba_ ?_ _)); exact BK375.out⟩, ⟨by repeat (first | (with_reducible first | exact HB.out | apply Pa_ | apply Pn_ | apply Pd_ | refine Bs_ ?_ GE375.out) | exact HB.out)⟩⟩
         ·rw [if_neg c11] at H
          exact absurd H (by simp)
        ·rw [if_neg c10] at H
         have c10b0 : decide (x6_2 < ((rd_L1 l0_1 a1).length : Int)) = false := Df_ c10
         clear c10
         obtain rfl := Option.some.inj H
         obtain ⟨hcz15_0, hcz15_1, hfz15_0, hfz15_1⟩ := Ce2_ BK375.out
         have p376 : 0 ≤ (a1 : Int) := Ot_ (by first | (with_reducible assumption) | assumption)
         have q376 : a1 < (l0_1.length : Int) := Ot_ (by first | (with_reducible assumption) | assumption)
         obtain ⟨ad376, A376_0, c376_0, e376, hx376_0, hl376_0, hi376_0⟩ := at_L1 HR0_1.out a1 p376 q376
         cases e376
         replace hx376_0 := (HB.out.cell (Bl_ w _ hx376_0)).trans hx376_0
         have HR376_0 := Am_ hi376_0
         have HC376_0 := Am_ hl376_0
         clear hi376_0 hl376_0
         replace p376 := eq_true p376
         replace q376 := eq_true q376
         go_wp2
         go_ret
         exact ⟨by first | rfl | (simp [errW_none, errW_some] <;> rfl) | (simp [*, errW_none, errW_some] <;> rfl), by repeat (first | (with_reducible first | exact HB.out | apply Pa_ | apply Pn_ | apply Pd_ | refine Bs_ ?_ GE375.out) | exact HB.out)⟩
       ·rw [if_neg c9] at H
        exact absurd H (by simp)
      ·rw [if_neg c8] at H
       exact absurd H (by simp)

end Go.Proofs.Ytkecfdljodiifaa.P
