-- Printed by a program of this session (inject.py) over the kit's print, with functions that were proved by hand in their places.
import Derived.Test.YtpeelfambaedkaaPK
import Derived.Test.YtpeelfambaedkaaPref06weight
namespace Go.Proofs.Ytpeelfambaedkaa.P
open Go.RowKit Go.Proofs.YtpeelfambaedkaaW.PrintWords Go.Proofs.YtpeelfambaedkaaW.PrintLast Go.Proofs.YtpeelfambaedkaaW.PrintMore
attribute [local go_sem] max2_int min2_int max_two min_two max_three min_three max_four min_four   -- for this text's walks alone
set_option linter.unusedVariables false
set_option linter.unusedSimpArgs false

/-! ### flagstoneref06_Bytes: function 21 -/
def flagstoneref06_Bytes.l0 : Nat → Int → Int → List (S53) → Int → Int → Option (Int)
 | 0, _, _, _, _, _ => none
 | k + 1, x3, x4, x338000, x338001, x338002 => if x4 < (x338000.length : Int) then (if 0 ≤ x4 then ((flagstoneref06_weight.f ((rd_T53 x338000 x4).f0) ((rd_T53 x338000 x4).f1) ((rd_T53 x338000 x4).f2) ((rd_T53 x338000 x4).f3) ((rd_T53 x338000 x4).f4) ((rd_T53 x338000 x4).f5) ((rd_T53 x338000 x4).f6) ((rd_T53 x338000 x4).f7)).bind fun t339 => (flagstoneref06_Bytes.l0 k (wrap64 (x3 + t339)) (wrap64 (x4 + 1)) x338000 x338001 x338002)) else (none)) else (some x3)
def flagstoneref06_Bytes.f (k : Nat) (l0_0 : List (S53)) (a0_1 : Int) (a0_2 : Int) : Option (Int) := flagstoneref06_Bytes.l0 k 0 0 l0_0 a0_1 a0_2
theorem flagstoneref06_Bytes.mono_l : ∀ k, (∀ y0 y1 y2 y3 y4, LeO (flagstoneref06_Bytes.l0 k y0 y1 y2 y3 y4) (flagstoneref06_Bytes.l0 (k + 1) y0 y1 y2 y3 y4))
 | 0 => fun _ _ _ _ _ r h => by simp [flagstoneref06_Bytes.l0] at h
 | k + 1 => by
  have ih0 := flagstoneref06_Bytes.mono_l k
  ·intro y0 y1 y2 y3 y4
   unfold flagstoneref06_Bytes.l0
   repeat' first
   | (with_reducible exact ih0 _ _ _ _ _)
   | (with_reducible exact LeO.refl _)
   | (with_reducible exact LeO.none _)
   | (with_reducible refine LeO.ite ?_ ?_)
   | (with_reducible refine LeO.bind ?_ (fun _ => ?_))
   | exact ih0 _ _ _ _ _
   | exact LeO.none _
   | refine LeO.ite ?_ ?_
   | refine LeO.bind ?_ (fun _ => ?_)
theorem flagstoneref06_Bytes.mono : ∀ a0 a1 a2 k, LeO (flagstoneref06_Bytes.f k a0 a1 a2) (flagstoneref06_Bytes.f (k + 1) a0 a1 a2) := by
 intro a0 a1 a2 k
 have ih0 := flagstoneref06_Bytes.mono_l k
 unfold flagstoneref06_Bytes.f
 repeat' first
   | (with_reducible exact ih0 _ _ _ _ _)
   | (with_reducible exact LeO.refl _)
   | (with_reducible exact LeO.none _)
   | (with_reducible refine LeO.ite ?_ ?_)
   | (with_reducible refine LeO.bind ?_ (fun _ => ?_))
   | exact ih0 _ _ _ _ _
   | exact LeO.none _
   | refine LeO.ite ?_ ?_
   | refine LeO.bind ?_ (fun _ => ?_)
set_option maxHeartbeats 8000000 in
set_option maxRecDepth 100000 in
theorem flagstoneref06_Bytes.calls (k : Nat) (A0_0 : Option Addr) (c0_0 : Nat) (l0_0 : List (S53)) (a0_1 : Int) (a0_2 : Int) (r : Int) (w : World) (hr0_0 : Kd.C k53 w A0_0 l0_0.length l0_0) (hc0_0 : l0_0.length ≤ c0_0) (h : flagstoneref06_Bytes.f k l0_0 a0_1 a0_2 = some r) :
  Calls Try.prog 21 #[.agg #[.slice A0_0 l0_0.length c0_0, .int .i64 a0_1, .int .i64 a0_2]] w fun e w' => e = .returned (.int .i64 r) ∧ Below w.heap.size w w' := by
 have hu33 := Try.underlying33
 have hu53 := Try.underlying53
 have HR0_0 := Am_ hr0_0
 have HC0_0 := Am_ hc0_0
 clear hr0_0 hc0_0
 have HB := Am_ (Below.refl w.heap.size w)
 have H : (flagstoneref06_Bytes.l0 k 0 0 l0_0 a0_1 a0_2) = some r := h
 clear h
 have H' := Am_ H
 clear H
 go_enter Try.func21, Try.ntmps21
 go_wp2_with (first | ((with_reducible refine gate_dst (N := 1) rfl ?_); refine box_event ?hg (N := 1) ?hd (cs := #[.slice A0_0 l0_0.length c0_0, .int .i64 a0_1, .int .i64 a0_2]) (t := 33) ?hr ?_; (case hd => rfl); (case hg => rfl); (case hr => go_simp; try rfl); intro gb337 hg w2 hbox hb; have n0_ := Am_ (Be_ (Pb0_ HB.out) hb); have n1_ := Am_ (hbox); have n2_ := Am_ ((by rw [hg]; exact (Bz_ (Pb0_ HB.out)) : w.heap.size ≤ gb337)); have n3_ := Am_ ((by rw [hg]; exact (Bz_ (Pb0_ HB.out)) : w.heap.size ≤ gb337)); clear HB; have HB := n0_; have BK337 := n1_; have GW337 := n2_; have GE337 := n3_; clear n0_ n1_ n2_ n3_; clear hb hbox hg))
 go_loopg [3, 4] k (fun kq v3 v4 w' => ∃ (x3_1 : Int) (x4_1 : Int), v3 = .int .i64 x3_1 ∧ v4 = .int .i64 x4_1 ∧ Aside0 (flagstoneref06_Bytes.l0 kq x3_1 x4_1 l0_0 a0_1 a0_2 = some r) ∧ Aside0 (kq ≤ k) ∧ Aside0 (w'.heap[gb337]? = some (.cells #[(.slice A0_0 l0_0.length c0_0), .int .i64 a0_1, .int .i64 a0_2] 33 (0, 0))) ∧ Aside0 (Below w.heap.size w w'))
 case atStart => exact ⟨(0), (0), (by first | rfl | (simp; done) | (simp [*]; done)), (by first | rfl | (simp; done) | (simp [*]; done)), H', ⟨Nat.le_refl _⟩, ⟨by (with_reducible repeat (first | refine Bn_ ?_ _ | refine Bd_ ?_ | refine Ba_ ?_ _)); exact BK337.out⟩, ⟨by repeat (first | (with_reducible first | exact HB.out | apply Pa_ | apply Pn_ | apply Pd_ | refine Bs_ ?_ GE337.out) | exact HB.out)⟩⟩
 case round =>
  clear H'
  try clear c2
  try clear p2
  obtain ⟨x3_1, x4_1, rfl, rfl, HA, HK1, BK337, HB⟩ := hrel
  cases gk with
  | zero => exact absurd HA.out (by simp [flagstoneref06_Bytes.l0])
  | succ k1 =>
   have H := HA.out
   clear HA
   simp only [flagstoneref06_Bytes.l0] at H
   by_cases c3 : x4_1 < (l0_0.length : Int)
   ·rw [if_pos c3] at H
    have c3b0 : decide (x4_1 < (l0_0.length : Int)) = true := Dt_ c3
    clear c3
    by_cases c4 : 0 ≤ x4_1
    ·rw [if_pos c4] at H
     have c4b0 : decide (0 ≤ x4_1) = true := Dt_ c4
     clear c4
     replace H := Option.bind_eq_some_iff.mp H
     obtain ⟨t339, A50, H⟩ := H
     replace H : (flagstoneref06_Bytes.l0 k1 (wrap64 (x3_1 + t339)) (wrap64 (x4_1 + 1)) l0_0 a0_1 a0_2) = some r := H
     have A5 := Am_ A50
     clear A50
     have H' := Am_ H
     clear H
     obtain ⟨hcz6_0, hcz6_1, hcz6_2, hfz6_0, hfz6_1, hfz6_2⟩ := Ce3_ BK337.out
     have p338 : 0 ≤ (x4_1 : Int) := Ot_ (by first | (with_reducible assumption) | assumption)
     have q338 : x4_1 < (l0_0.length : Int) := Ot_ (by first | (with_reducible assumption) | assumption)
     obtain ⟨ad338, A338_7, c338_7, e338, hx338_0, hx338_1, hx338_2, hx338_3, hx338_4, hx338_5, hx338_6, hx338_7, hl338_7, hi338_7⟩ := at_T53 HR0_0.out x4_1 p338 q338
     cases e338
     replace hx338_0 := (HB.out.cell (Bl_ w _ hx338_0)).trans hx338_0
     replace hx338_1 := (HB.out.cell (Bl_ w _ hx338_1)).trans hx338_1
     replace hx338_2 := (HB.out.cell (Bl_ w _ hx338_2)).trans hx338_2
     replace hx338_3 := (HB.out.cell (Bl_ w _ hx338_3)).trans hx338_3
     replace hx338_4 := (HB.out.cell (Bl_ w _ hx338_4)).trans hx338_4
     replace hx338_5 := (HB.out.cell (Bl_ w _ hx338_5)).trans hx338_5
     replace hx338_6 := (HB.out.cell (Bl_ w _ hx338_6)).trans hx338_6
     replace hx338_7 := (HB.out.cell (Bl_ w _ hx338_7)).trans hx338_7
     have HR338_7 := Am_ hi338_7
     have HC338_7 := Am_ hl338_7
     clear hi338_7 hl338_7
     replace p338 := eq_true p338
     replace q338 := eq_true q338
     go_wp2_with (first | ((with_reducible refine gate_callee (f := 33) rfl ?_); refine goesL_ (some 18) rfl rfl Try.func33 (by kernel_rfl) rfl #[.agg #[.int .i64 ((rd_T53 l0_0 x4_1).f0), .int .i64 ((rd_T53 l0_0 x4_1).f1), .int .i64 ((rd_T53 l0_0 x4_1).f2), .int .i64 ((rd_T53 l0_0 x4_1).f3), .int .i64 ((rd_T53 l0_0 x4_1).f4), .int .i64 ((rd_T53 l0_0 x4_1).f5), .string ((rd_T53 l0_0 x4_1).f6), .slice A338_7 ((rd_T53 l0_0 x4_1).f7).length c338_7]] rfl (by (try simp only [List.map_toArray, List.map_cons, List.map_nil]); first | done | rfl | (simp only [List.length_drop, List.length_take]; rfl)) ?_; (with_reducible refine (flagstoneref06_weight.calls ((rd_T53 l0_0 x4_1).f0) ((rd_T53 l0_0 x4_1).f1) ((rd_T53 l0_0 x4_1).f2) ((rd_T53 l0_0 x4_1).f3) ((rd_T53 l0_0 x4_1).f4) ((rd_T53 l0_0 x4_1).f5) ((rd_T53 l0_0 x4_1).f6) _ _ ((rd_T53 l0_0 x4_1).f7) t339 _ ?side1 ?side2 A5.out).mono ?_); (case side1 => repeat (first | exact (Kd.C_below HR338_7.out HB.out) | (with_reducible refine Kd.C_alloc ?_ _) | (with_reducible refine Kd.C_drewN ?_ _) | (with_reducible refine Kd.C_drew ?_))); (case side2 => exact HC338_7.out); rintro e w7 ⟨rfl, hb⟩; refine ⟨_, rfl, ?_⟩; have n0_ := Am_ (Bb_ (g := gb337) (o := .cells #[.slice (some ad338) l0_0.length c0_0, .int .i64 a0_1, .int .i64 a0_2] 33 (0, 0)) (Pk_ BK337.out) hb); have n1_ := Am_ (Be_ (Pb1_ HB.out GE337.out) hb); clear BK337; clear HB; have BK337 := n0_; have HB := n1_; clear n0_ n1_; (try clear hb); (try clear hb2); (try clear hk); (try clear hi)))
     go_roundg k1
     case measure => have := HK1.out; omega
     case rel => exact ⟨(wrap64 (x3_1 + t339)), (wrap64 (x4_1 + 1)), (by first | rfl | (simp; done) | (simp [*]; done)), (by first | rfl | (simp; done) | (simp [*]; done)), H', ⟨by have := HK1.out; omega⟩, ⟨by (with_reducible repeat (first | refine Bn_ ?_ _ | refine Bd_ ?_ | refine Ba_ ?_ _)); exact BK337.out⟩, ⟨by repeat (first | (with_reducible first | exact HB.out | apply Pa_ | apply Pn_ | apply Pd_ | refine Bs_ ?_ GE337.out) | exact HB.out)⟩⟩
    ·rw [if_neg c4] at H
     exact absurd H (by simp)
   ·rw [if_neg c3] at H
    have c3b0 : decide (x4_1 < (l0_0.length : Int)) = false := Df_ c3
    clear c3
    obtain rfl := Option.some.inj H
    obtain ⟨hcz8_0, hcz8_1, hcz8_2, hfz8_0, hfz8_1, hfz8_2⟩ := Ce3_ BK337.out
    go_wp2
    go_ret
    exact ⟨by first | rfl | (simp [errW_none, errW_some] <;> rfl) | (simp [*, errW_none, errW_some] <;> rfl), by repeat (first | (with_reducible first | exact HB.out | apply Pa_ | apply Pn_ | apply Pd_ | refine Bs_ ?_ GE337.out) | exact HB.out)⟩

end Go.Proofs.Ytpeelfambaedkaa.P
