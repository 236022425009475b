-- Printed by a program of this session (inject.py) over the kit's print, with functions that were proved by hand in their places.
import Derived.Test.YtkecfdljodiifaaPK
namespace Go.Proofs.Ytkecfdljodiifaa.P
open Go.RowKit Go.Proofs.YtkecfdljodiifaaW.PrintWords Go.Proofs.YtkecfdljodiifaaW.PrintLast Go.Proofs.YtkecfdljodiifaaW.PrintMore
attribute [local go_sem] max2_int min2_int max_two min_two max_three min_three max_four min_four   -- for this text's walks alone
set_option linter.unusedVariables false
set_option linter.unusedSimpArgs false

/-! ### flagstoneref10_first: function 39 -/
def flagstoneref10_first.l0 : Nat → Int → Int → List (S54) → List (List Int) → Option (Int)
 | 0, _, _, _, _ => none
 | k + 1, x1, x5, x256000, x256001 => if 0 ≤ x1 then (if x1 < (x256001.length : Int) then (if x5 < ((rd_L1 x256001 x1).length : Int) then (if 0 ≤ x5 then (if (rd (rd_L1 x256001 x1) x5) < 0 then (some x5) else (flagstoneref10_first.l0 k x1 (wrap64 (x5 + 1)) x256000 x256001)) else (none)) else (some (-1))) else (none)) else (none)
def flagstoneref10_first.f (k : Nat) (l0_0 : List (S54)) (l0_1 : List (List Int)) (a1 : Int) : Option (Int) := flagstoneref10_first.l0 k a1 0 l0_0 l0_1
theorem flagstoneref10_first.mono_l : ∀ k, (∀ y0 y1 y2 y3, LeO (flagstoneref10_first.l0 k y0 y1 y2 y3) (flagstoneref10_first.l0 (k + 1) y0 y1 y2 y3))
 | 0 => fun _ _ _ _ r h => by simp [flagstoneref10_first.l0] at h
 | k + 1 => by
  have ih0 := flagstoneref10_first.mono_l k
  ·intro y0 y1 y2 y3
   unfold flagstoneref10_first.l0
   repeat' first
   | (with_reducible exact ih0 _ _ _ _)
   | (with_reducible exact LeO.refl _)
   | (with_reducible exact LeO.none _)
   | (with_reducible refine LeO.ite ?_ ?_)
   | (with_reducible refine LeO.bind ?_ (fun _ => ?_))
   | exact ih0 _ _ _ _
   | exact LeO.none _
   | refine LeO.ite ?_ ?_
   | refine LeO.bind ?_ (fun _ => ?_)
theorem flagstoneref10_first.mono : ∀ a0 a1 a2 k, LeO (flagstoneref10_first.f k a0 a1 a2) (flagstoneref10_first.f (k + 1) a0 a1 a2) := by
 intro a0 a1 a2 k
 have ih0 := flagstoneref10_first.mono_l k
 unfold flagstoneref10_first.f
 repeat' first
   | (with_reducible exact ih0 _ _ _ _)
   | (with_reducible exact LeO.refl _)
   | (with_reducible exact LeO.none _)
   | (with_reducible refine LeO.ite ?_ ?_)
   | (with_reducible refine LeO.bind ?_ (fun _ => ?_))
   | exact ih0 _ _ _ _
   | exact LeO.none _
   | refine LeO.ite ?_ ?_
   | refine LeO.bind ?_ (fun _ => ?_)
set_option maxHeartbeats 8000000 in
set_option maxRecDepth 100000 in
theorem flagstoneref10_first.calls (k : Nat) (A0_0 : Option Addr) (c0_0 : Nat) (l0_0 : List (S54)) (A0_1 : Option Addr) (c0_1 : Nat) (l0_1 : List (List Int)) (a1 : Int) (r : Int) (w : World) (hr0_0 : Kd.C k54 w A0_0 l0_0.length l0_0) (hc0_0 : l0_0.length ≤ c0_0) (hr0_1 : Kd.C (Kd.slice 3 (Kd.int .i64)) w A0_1 l0_1.length l0_1) (hc0_1 : l0_1.length ≤ c0_1) (h : flagstoneref10_first.f k l0_0 l0_1 a1 = some r) :
  Calls Try.prog 39 #[.agg #[.slice A0_0 l0_0.length c0_0, .slice A0_1 l0_1.length c0_1], .int .i64 a1] w fun e w' => e = .returned (.int .i64 r) ∧ Below w.heap.size w w' := by
 have hu31 := Try.underlying31
 have HR0_0 := Am_ hr0_0
 have HC0_0 := Am_ hc0_0
 clear hr0_0 hc0_0
 have HR0_1 := Am_ hr0_1
 have HC0_1 := Am_ hc0_1
 clear hr0_1 hc0_1
 have HB := Am_ (Below.refl w.heap.size w)
 have H : (flagstoneref10_first.l0 k a1 0 l0_0 l0_1) = some r := h
 clear h
 have H' := Am_ H
 clear H
 go_enter Try.func39, Try.ntmps39
 go_wp2_with (first | ((with_reducible refine gate_dst (N := 2) rfl ?_); refine box_event ?hg (N := 2) ?hd (cs := #[.slice A0_0 l0_0.length c0_0, .slice A0_1 l0_1.length c0_1]) (t := 31) ?hr ?_; (case hd => rfl); (case hg => rfl); (case hr => go_simp; try rfl); intro gb255 hg w3 hbox hb; have n0_ := Am_ (Be_ (Pb0_ HB.out) hb); have n1_ := Am_ (hbox); have n2_ := Am_ ((by rw [hg]; exact (Bz_ (Pb0_ HB.out)) : w.heap.size ≤ gb255)); have n3_ := Am_ ((by rw [hg]; exact (Bz_ (Pb0_ HB.out)) : w.heap.size ≤ gb255)); clear HB; have HB := n0_; have BK255 := n1_; have GW255 := n2_; have GE255 := n3_; clear n0_ n1_ n2_ n3_; clear hb hbox hg))
 go_loopg [5] k (fun kq v5 w' => ∃ (x5_1 : Int), v5 = .int .i64 x5_1 ∧ Aside0 (flagstoneref10_first.l0 kq a1 x5_1 l0_0 l0_1 = some r) ∧ Aside0 (kq ≤ k) ∧ Aside0 (w'.heap[gb255]? = some (.cells #[(.slice A0_0 l0_0.length c0_0), (.slice A0_1 l0_1.length c0_1)] 31 (0, 0))) ∧ Aside0 (Below w.heap.size w w'))
 case atStart => exact ⟨(0), (by first | rfl | (simp; done) | (simp [*]; done)), H', ⟨Nat.le_refl _⟩, ⟨by (with_reducible repeat (first | refine Bn_ ?_ _ | refine Bd_ ?_ | refine Ba_ ?_ _)); exact BK255.out⟩, ⟨by repeat (first | (with_reducible first | exact HB.out | apply Pa_ | apply Pn_ | apply Pd_ | refine Bs_ ?_ GE255.out) | exact HB.out)⟩⟩
 case round =>
  clear H'
  try clear p2
  try clear c3
  obtain ⟨x5_1, rfl, HA, HK1, BK255, HB⟩ := hrel
  cases gk with
  | zero => exact absurd HA.out (by simp [flagstoneref10_first.l0])
  | succ k1 =>
   have H := HA.out
   clear HA
   simp only [flagstoneref10_first.l0] at H
   by_cases c4 : 0 ≤ a1
   ·rw [if_pos c4] at H
    have c4b0 : decide (0 ≤ a1) = true := Dt_ c4
    clear c4
    by_cases c5 : a1 < (l0_1.length : Int)
    ·rw [if_pos c5] at H
     have c5b0 : decide (a1 < (l0_1.length : Int)) = true := Dt_ c5
     clear c5
     by_cases c6 : x5_1 < ((rd_L1 l0_1 a1).length : Int)
     ·rw [if_pos c6] at H
      have c6b0 : decide (x5_1 < ((rd_L1 l0_1 a1).length : Int)) = true := Dt_ c6
      clear c6
      by_cases c7 : 0 ≤ x5_1
      ·rw [if_pos c7] at H
       have c7b0 : decide (0 ≤ x5_1) = true := Dt_ c7
       clear c7
       by_cases c8 : (rd (rd_L1 l0_1 a1) x5_1) < 0
       ·rw [if_pos c8] at H
        have c8b0 : decide ((rd (rd_L1 l0_1 a1) x5_1) < 0) = true := Dt_ c8
        clear c8
        obtain rfl := Option.some.inj H
        obtain ⟨hcz9_0, hcz9_1, hfz9_0, hfz9_1⟩ := Ce2_ BK255.out
        have p256 : 0 ≤ (a1 : Int) := Ot_ (by first | (with_reducible assumption) | assumption)
        have q256 : a1 < (l0_1.length : Int) := Ot_ (by first | (with_reducible assumption) | assumption)
        obtain ⟨ad256, A256_0, c256_0, e256, hx256_0, hl256_0, hi256_0⟩ := at_L1 HR0_1.out a1 p256 q256
        cases e256
        replace hx256_0 := (HB.out.cell (Bl_ w _ hx256_0)).trans hx256_0
        have HR256_0 := Am_ hi256_0
        have HC256_0 := Am_ hl256_0
        clear hi256_0 hl256_0
        replace p256 := eq_true p256
        replace q256 := eq_true q256
        have p257 : 0 ≤ (a1 : Int) := Ot_ (by first | (with_reducible assumption) | assumption)
        have q257 : a1 < (l0_1.length : Int) := Ot_ (by first | (with_reducible assumption) | assumption)
        obtain ⟨ad257, A257_0, c257_0, e257, hx257_0, hl257_0, hi257_0⟩ := at_L1 HR0_1.out a1 p257 q257
        obtain rfl : ad256 = ad257 := (by injection e257)
        replace hx257_0 := (HB.out.cell (Bl_ w _ hx257_0)).trans hx257_0
        have HR257_0 := Am_ hi257_0
        have HC257_0 := Am_ hl257_0
        clear hi257_0 hl257_0
        replace p257 := eq_true p257
        replace q257 := eq_true q257
        have ea_ := Option.some.inj (hx256_0.symm.trans hx257_0)
        injection ea_ with ea_ en_ ec_
        subst ea_
        subst ec_
        clear en_
        have p258 : 0 ≤ (x5_1 : Int) := Ot_ (by first | (with_reducible assumption) | assumption)
        have q258 : x5_1 < ((rd_L1 l0_1 a1).length : Int) := Ot_ (by first | (with_reducible assumption) | assumption)
        obtain ⟨ad258, e258, hx258_0⟩ := Kd.at_int HR257_0.out x5_1 p258 q258
        cases e258
        replace hx258_0 := (HB.out.cell (Bl_ w _ hx258_0)).trans hx258_0
        replace p258 := eq_true p258
        replace q258 := eq_true q258
        go_wp2
        go_ret
        exact ⟨by first | rfl | (simp [errW_none, errW_some] <;> rfl) | (simp [*, errW_none, errW_some] <;> rfl), by repeat (first | (with_reducible first | exact HB.out | apply Pa_ | apply Pn_ | apply Pd_ | refine Bs_ ?_ GE255.out) | exact HB.out)⟩
       ·rw [if_neg c8] at H
        have c8b0 : decide ((rd (rd_L1 l0_1 a1) x5_1) < 0) = false := Df_ c8
        clear c8
        have H' := Am_ H
        clear H
        obtain ⟨hcz10_0, hcz10_1, hfz10_0, hfz10_1⟩ := Ce2_ BK255.out
        have p256 : 0 ≤ (a1 : Int) := Ot_ (by first | (with_reducible assumption) | assumption)
        have q256 : a1 < (l0_1.length : Int) := Ot_ (by first | (with_reducible assumption) | assumption)
        obtain ⟨ad256, A256_0, c256_0, e256, hx256_0, hl256_0, hi256_0⟩ := at_L1 HR0_1.out a1 p256 q256
        cases e256
        replace hx256_0 := (HB.out.cell (Bl_ w _ hx256_0)).trans hx256_0
        have HR256_0 := Am_ hi256_0
        have HC256_0 := Am_ hl256_0
        clear hi256_0 hl256_0
        replace p256 := eq_true p256
        replace q256 := eq_true q256
        have p257 : 0 ≤ (a1 : Int) := Ot_ (by first | (with_reducible assumption) | assumption)
        have q257 : a1 < (l0_1.length : Int) := Ot_ (by first | (with_reducible assumption) | assumption)
        obtain ⟨ad257, A257_0, c257_0, e257, hx257_0, hl257_0, hi257_0⟩ := at_L1 HR0_1.out a1 p257 q257
        obtain rfl : ad256 = ad257 := (by injection e257)
        replace hx257_0 := (HB.out.cell (Bl_ w _ hx257_0)).trans hx257_0
        have HR257_0 := Am_ hi257_0
        have HC257_0 := Am_ hl257_0
        clear hi257_0 hl257_0
        replace p257 := eq_true p257
        replace q257 := eq_true q257
        have ea_ := Option.some.inj (hx256_0.symm.trans hx257_0)
        injection ea_ with ea_ en_ ec_
        subst ea_
        subst ec_
        clear en_
        have p258 : 0 ≤ (x5_1 : Int) := Ot_ (by first | (with_reducible assumption) | assumption)
        have q258 : x5_1 < ((rd_L1 l0_1 a1).length : Int) := Ot_ (by first | (with_reducible assumption) | assumption)
        obtain ⟨ad258, e258, hx258_0⟩ := Kd.at_int HR257_0.out x5_1 p258 q258
        cases e258
        replace hx258_0 := (HB.out.cell (Bl_ w _ hx258_0)).trans hx258_0
        replace p258 := eq_true p258
        replace q258 := eq_true q258
        go_wp2
        go_roundg k1
        case measure => have := HK1.out; omega
        case rel => exact ⟨(wrap64 (x5_1 + 1)), (by first | rfl | (simp; done) | (simp [*]; done)), H', ⟨by have := HK1.out; omega⟩, ⟨by (with_reducible repeat (first | refine Bn_ ?_ _ | refine Bd_ ?_ | refine Ba_ ?_ _)); exact BK255.out⟩, ⟨by repeat (first | (with_reducible first | exact HB.out | apply Pa_ | apply Pn_ | apply Pd_ | refine Bs_ ?_ GE255.out) | exact HB.out)⟩⟩
      ·rw [if_neg c7] at H
       exact absurd H (by simp)
     ·rw [if_neg c6] at H
      have c6b0 : decide (x5_1 < ((rd_L1 l0_1 a1).length : Int)) = false := Df_ c6
      clear c6
      obtain rfl := Option.some.inj H
      obtain ⟨hcz11_0, hcz11_1, hfz11_0, hfz11_1⟩ := Ce2_ BK255.out
      have p256 : 0 ≤ (a1 : Int) := Ot_ (by first | (with_reducible assumption) | assumption)
      have q256 : a1 < (l0_1.length : Int) := Ot_ (by first | (with_reducible assumption) | assumption)
      obtain ⟨ad256, A256_0, c256_0, e256, hx256_0, hl256_0, hi256_0⟩ := at_L1 HR0_1.out a1 p256 q256
      cases e256
      replace hx256_0 := (HB.out.cell (Bl_ w _ hx256_0)).trans hx256_0
      have HR256_0 := Am_ hi256_0
      have HC256_0 := Am_ hl256_0
      clear hi256_0 hl256_0
      replace p256 := eq_true p256
      replace q256 := eq_true q256
      go_wp2
      go_ret
      exact ⟨by first | rfl | (simp [errW_none, errW_some] <;> rfl) | (simp [*, errW_none, errW_some] <;> rfl), by repeat (first | (with_reducible first | exact HB.out | apply Pa_ | apply Pn_ | apply Pd_ | refine Bs_ ?_ GE255.out) | exact HB.out)⟩
    ·rw [if_neg c5] at H
     exact absurd H (by simp)
   ·rw [if_neg c4] at H
    exact absurd H (by simp)

end Go.Proofs.Ytkecfdljodiifaa.P
