-- Printed by a program of this session (inject.py) over the kit's print, with functions that were proved by hand in their places.
import Derived.Test.YtkecfdljodiifaaPK
namespace Go.Proofs.Ytkecfdljodiifaa.P
open Go.RowKit Go.Proofs.YtkecfdljodiifaaW.PrintWords Go.Proofs.YtkecfdljodiifaaW.PrintLast Go.Proofs.YtkecfdljodiifaaW.PrintMore
attribute [local go_sem] max2_int min2_int max_two min_two max_three min_three max_four min_four   -- for this text's walks alone
set_option linter.unusedVariables false
set_option linter.unusedSimpArgs false

/-! ### handle_Table_row: function 34 -/
def handle_Table_row.f (l0_0 : List (S38)) (l0_1 : List (List Int)) (a1 : Int) : Option (List Int) := if a1 < 0 then (some ([] : List Int)) else (if a1 ≥ (l0_1.length : Int) then (some ([] : List Int)) else (if 0 ≤ a1 then (if a1 < (l0_1.length : Int) then (some (rd_L1 l0_1 a1)) else (none)) else (none)))
set_option maxHeartbeats 8000000 in
set_option maxRecDepth 100000 in
theorem handle_Table_row.calls (A0_0 : Option Addr) (c0_0 : Nat) (l0_0 : List (S38)) (P0_1_ : Nat → Prop) (A0_1 : Option Addr) (c0_1 : Nat) (l0_1 : List (List Int)) (a1 : Int) (r : List Int) (w : World) (hr0_0 : Kd.C k38 w A0_0 l0_0.length l0_0) (hc0_0 : l0_0.length ≤ c0_0) (hs0_1 : Kd.V (Kd.slice 3 (Kd.int .i64)) 64 w w.heap.size (fun k_ => P0_1_ k_) (.slice A0_1 l0_1.length c0_1) l0_1) (h : handle_Table_row.f l0_0 l0_1 a1 = some r) :
  Calls Try.prog 34 #[.agg #[.slice A0_0 l0_0.length c0_0, .slice A0_1 l0_1.length c0_1], .int .i64 a1] w fun e w' => ∃ v0_ : Value, e = .returned (v0_) ∧ Kd.V (Kd.int .i64) 3 w' w.heap.size (fun k_ => (P0_1_ k_ ∨ w.heap.size ≤ k_)) v0_ r ∧ Below w.heap.size w w' := by
 have hu25 := Try.underlying25
 have HR0_0 := Am_ hr0_0
 have HC0_0 := Am_ hc0_0
 clear hr0_0 hc0_0
 have HO0_1 := Am_ (show Kd.V (Kd.slice 3 (Kd.int .i64)) 64 w w.heap.size (fun k_ => (P0_1_ k_ ∨ w.heap.size ≤ k_)) (.slice A0_1 l0_1.length c0_1) l0_1 from Vm_ hs0_1 (fun k_ hk => .inl hk))
 have HB := Am_ (Below.refl w.heap.size w)
 have H : (if a1 < 0 then (some ([] : List Int)) else (if a1 ≥ (l0_1.length : Int) then (some ([] : List Int)) else (if 0 ≤ a1 then (if a1 < (l0_1.length : Int) then (some (rd_L1 l0_1 a1)) else (none)) else (none)))) = some r := h
 clear h
 by_cases c3 : a1 < 0
 ·rw [if_pos c3] at H
  have c3b0 : decide (a1 < 0) = true := Dt_ c3
  clear c3
  obtain rfl := Option.some.inj H
  go_enter Try.func34, Try.ntmps34
  go_wp2_with (first | ((with_reducible refine gate_dst (N := 2) rfl ?_); (try (refine gate_guard (by rfl) ?_; dsimp only)); refine box_event ?hg (N := 2) ?hd (cs := #[.slice A0_0 l0_0.length c0_0, .slice A0_1 l0_1.length c0_1]) (t := 25) ?hr ?_; (case hd => rfl); (case hg => rfl); (case hr => go_simp; try rfl); intro gb123 hg w4 hbox hb; have n0_ := Am_ (Vb_ (Ke_ (Pv_ HO0_1.out) gb123 (Nat.le_of_eq hg.symm)) hb); have n1_ := Am_ (Be_ (Pb0_ HB.out) hb); have n2_ := Am_ (hbox); have n3_ := Am_ ((by rw [hg]; exact (Bz_ (Pb0_ HB.out)) : w.heap.size ≤ gb123)); have n4_ := Am_ ((by rw [hg]; exact (Bz_ (Pb0_ HB.out)) : w.heap.size ≤ gb123)); clear HO0_1; clear HB; have HO0_1 := n0_; have HB := n1_; have BK123 := n2_; have GW123 := n3_; have GE123 := n4_; clear n0_ n1_ n2_ n3_ n4_; clear hb hbox hg))
  go_ret
  exact ⟨_, by first | rfl | (simp [errW_none, errW_some] <;> rfl) | (simp [*, errW_none, errW_some] <;> rfl), Kd.V_nil _ _ _ _ _, by repeat (first | (with_reducible first | exact HB.out | apply Pa_ | apply Pn_ | apply Pd_ | refine Bs_ ?_ GE123.out) | exact HB.out)⟩
 ·rw [if_neg c3] at H
  have c3b0 : decide (a1 < 0) = false := Df_ c3
  clear c3
  by_cases c5 : a1 ≥ (l0_1.length : Int)
  ·rw [if_pos c5] at H
   have c5b0 : decide ((l0_1.length : Int) ≤ a1) = true := Dt_ c5
   clear c5
   obtain rfl := Option.some.inj H
   go_enter Try.func34, Try.ntmps34
   go_wp2_with (first | ((with_reducible refine gate_dst (N := 2) rfl ?_); (try (refine gate_guard (by rfl) ?_; dsimp only)); refine box_event ?hg (N := 2) ?hd (cs := #[.slice A0_0 l0_0.length c0_0, .slice A0_1 l0_1.length c0_1]) (t := 25) ?hr ?_; (case hd => rfl); (case hg => rfl); (case hr => go_simp; try rfl); intro gb123 hg w6 hbox hb; have n0_ := Am_ (Vb_ (Ke_ (Pv_ HO0_1.out) gb123 (Nat.le_of_eq hg.symm)) hb); have n1_ := Am_ (Be_ (Pb0_ HB.out) hb); have n2_ := Am_ (hbox); have n3_ := Am_ ((by rw [hg]; exact (Bz_ (Pb0_ HB.out)) : w.heap.size ≤ gb123)); have n4_ := Am_ ((by rw [hg]; exact (Bz_ (Pb0_ HB.out)) : w.heap.size ≤ gb123)); clear HO0_1; clear HB; have HO0_1 := n0_; have HB := n1_; have BK123 := n2_; have GW123 := n3_; have GE123 := n4_; clear n0_ n1_ n2_ n3_ n4_; clear hb hbox hg; obtain ⟨hcz7_0, hcz7_1, hfz7_0, hfz7_1⟩ := Ce2_ BK123.out))
   go_ret
   exact ⟨_, by first | rfl | (simp [errW_none, errW_some] <;> rfl) | (simp [*, errW_none, errW_some] <;> rfl), Kd.V_nil _ _ _ _ _, by repeat (first | (with_reducible first | exact HB.out | apply Pa_ | apply Pn_ | apply Pd_ | refine Bs_ ?_ GE123.out) | exact HB.out)⟩
  ·rw [if_neg c5] at H
   have c5b0 : decide ((l0_1.length : Int) ≤ a1) = false := Df_ c5
   clear c5
   by_cases c8 : 0 ≤ a1
   ·rw [if_pos c8] at H
    have c8b0 : decide (0 ≤ a1) = true := Dt_ c8
    clear c8
    by_cases c9 : a1 < (l0_1.length : Int)
    ·rw [if_pos c9] at H
     have c9b0 : decide (a1 < (l0_1.length : Int)) = true := Dt_ c9
     clear c9
     obtain rfl := Option.some.inj H
     go_enter Try.func34, Try.ntmps34
     go_wp2_with (first | ((with_reducible refine gate_dst (N := 2) rfl ?_); (try (refine gate_guard (by rfl) ?_; dsimp only)); refine box_event ?hg (N := 2) ?hd (cs := #[.slice A0_0 l0_0.length c0_0, .slice A0_1 l0_1.length c0_1]) (t := 25) ?hr ?_; (case hd => rfl); (case hg => rfl); (case hr => go_simp; try rfl); intro gb123 hg w10 hbox hb; have n0_ := Am_ (Vb_ (Ke_ (Pv_ HO0_1.out) gb123 (Nat.le_of_eq hg.symm)) hb); have n1_ := Am_ (Be_ (Pb0_ HB.out) hb); have n2_ := Am_ (hbox); have n3_ := Am_ ((by rw [hg]; exact (Bz_ (Pb0_ HB.out)) : w.heap.size ≤ gb123)); have n4_ := Am_ ((by rw [hg]; exact (Bz_ (Pb0_ HB.out)) : w.heap.size ≤ gb123)); clear HO0_1; clear HB; have HO0_1 := n0_; have HB := n1_; have BK123 := n2_; have GW123 := n3_; have GE123 := n4_; clear n0_ n1_ n2_ n3_ n4_; clear hb hbox hg; obtain ⟨hcz11_0, hcz11_1, hfz11_0, hfz11_1⟩ := Ce2_ BK123.out; have p124 : 0 ≤ (a1 : Int) := Ot_ (by first | (with_reducible assumption) | assumption); have q124 : a1 < (l0_1.length : Int) := Ot_ (by first | (with_reducible assumption) | assumption); obtain ⟨ad124, A124_0, c124_0, e124, hx124_0, hl124_0, hi124_0⟩ := at_L1 (Vr_ HO0_1.out).2.2 a1 p124 q124; cases e124; obtain ⟨ce124, hce124, hMe124, hcc124⟩ := Kd.V_get HO0_1.out [] a1 p124 (by first | exact q124 | exact Ot_ (by first | (with_reducible assumption) | assumption) | (have e_ := (Vr_ HO0_1.out).1; omega)); obtain ⟨ua124_0, uc124_0, rfl, ul124_0, ge124_0⟩ := Kd.FK_slice_open hMe124; have hv124_0 := hcc124 0 _ rfl; rw [Nat.add_zero, show ((Kd.slice 3 (Kd.int .i64))).sz = 1 from rfl, Nat.mul_one] at hv124_0; replace hv124_0 := Option.some.inj (hv124_0.symm.trans hx124_0); injection hv124_0 with hva_ hvn_ hvc_; rw [hva_] at ge124_0; rw [hvc_] at ul124_0; have HL124_0 := Am_ (show Kd.V (Kd.int .i64) 3 _ w.heap.size _ _ (rd_L1 l0_1 a1) from Kd.V_mk ul124_0 ge124_0); clear hva_ hvn_ hvc_ ge124_0 ul124_0; clear hcc124 hce124; have HR124_0 := Am_ hi124_0; have HC124_0 := Am_ hl124_0; clear hi124_0 hl124_0; replace p124 := eq_true p124; replace q124 := eq_true q124))
     go_ret
     exact ⟨_, by first | rfl | (simp [errW_none, errW_some] <;> rfl) | (simp [*, errW_none, errW_some] <;> rfl), by (with_reducible repeat (first | apply Va_ | apply Vn_ | apply Vd_)); exact Vm_ HL124_0.out (fun _ hk => hk.1), by repeat (first | (with_reducible first | exact HB.out | apply Pa_ | apply Pn_ | apply Pd_ | refine Bs_ ?_ GE123.out) | exact HB.out)⟩
    ·rw [if_neg c9] at H
     exact absurd H (by simp)
   ·rw [if_neg c8] at H
    exact absurd H (by simp)

end Go.Proofs.Ytkecfdljodiifaa.P
