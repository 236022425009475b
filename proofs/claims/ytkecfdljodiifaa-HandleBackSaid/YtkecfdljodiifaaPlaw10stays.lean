-- Printed by a program of this session (inject.py) over the kit's print, with functions that were proved by hand in their places.
import Derived.Test.YtkecfdljodiifaaPK
import Derived.Test.YtkecfdljodiifaaPlaw10its
import Derived.Test.YtkecfdljodiifaaPref10Right
namespace Go.Proofs.Ytkecfdljodiifaa.P
open Go.RowKit Go.Proofs.YtkecfdljodiifaaW.PrintWords Go.Proofs.YtkecfdljodiifaaW.PrintLast Go.Proofs.YtkecfdljodiifaaW.PrintMore
attribute [local go_sem] max2_int min2_int max_two min_two max_three min_three max_four min_four   -- for this text's walks alone
set_option linter.unusedVariables false
set_option linter.unusedSimpArgs false

/-! ### flagstonelaw10_stays: function 32 -/
def flagstonelaw10_stays.f (k : Nat) (l0_0 : List (S38)) (l0_1 : List (List Int)) : Option (Bool) := if (l0_0.length : Int) ≤ 1000 then ((flagstonelaw10_its.f k l0_0 l0_1).bind fun bt577 => ((flagstoneref10_Right.f k bt577.1 bt577.2).bind fun t583 => (some t583))) else (some false)
theorem flagstonelaw10_stays.mono : ∀ a0 a1 k, LeO (flagstonelaw10_stays.f k a0 a1) (flagstonelaw10_stays.f (k + 1) a0 a1) := by
 intro a0 a1 k
 unfold flagstonelaw10_stays.f
 repeat' first
   | (with_reducible exact flagstonelaw10_its.mono _ _ _)
   | (with_reducible exact flagstoneref10_Right.mono _ _ _)
   | (with_reducible exact LeO.refl _)
   | (with_reducible exact LeO.none _)
   | (with_reducible refine LeO.ite ?_ ?_)
   | (with_reducible refine LeO.bind ?_ (fun _ => ?_))
   | exact flagstonelaw10_its.mono _ _ _
   | exact flagstoneref10_Right.mono _ _ _
   | exact LeO.none _
   | refine LeO.ite ?_ ?_
   | refine LeO.bind ?_ (fun _ => ?_)
set_option maxHeartbeats 8000000 in
set_option maxRecDepth 100000 in
theorem flagstonelaw10_stays.calls (k : Nat) (A0_0 : Option Addr) (c0_0 : Nat) (l0_0 : List (S38)) (A0_1 : Option Addr) (c0_1 : Nat) (l0_1 : List (List Int)) (r : Bool) (w : World) (hr0_0 : Kd.C k38 w A0_0 l0_0.length l0_0) (hc0_0 : l0_0.length ≤ c0_0) (hr0_1 : Kd.C (Kd.slice 3 (Kd.int .i64)) w A0_1 l0_1.length l0_1) (hc0_1 : l0_1.length ≤ c0_1) (h : flagstonelaw10_stays.f k l0_0 l0_1 = some r) :
  Calls Try.prog 32 #[.agg #[.slice A0_0 l0_0.length c0_0, .slice A0_1 l0_1.length c0_1]] w fun e w' => e = .returned (.bool r) ∧ Below w.heap.size w w' := by
 have hu25 := Try.underlying25
 have HR0_0 := Am_ hr0_0
 have HC0_0 := Am_ hc0_0
 clear hr0_0 hc0_0
 have HR0_1 := Am_ hr0_1
 have HC0_1 := Am_ hc0_1
 clear hr0_1 hc0_1
 have HB := Am_ (Below.refl w.heap.size w)
 have H : (if (l0_0.length : Int) ≤ 1000 then ((flagstonelaw10_its.f k l0_0 l0_1).bind fun bt577 => ((flagstoneref10_Right.f k bt577.1 bt577.2).bind fun t583 => (some t583))) else (some false)) = some r := h
 clear h
 by_cases c2 : (l0_0.length : Int) ≤ 1000
 ·rw [if_pos c2] at H
  have c2b0 : decide ((l0_0.length : Int) ≤ 1000) = true := Dt_ c2
  have c2b1 : decide (l0_0.length ≤ 1000) = true := Dt_ (by omega)
  clear c2
  replace H := Option.bind_eq_some_iff.mp H
  obtain ⟨⟨t577, t580⟩, A30, H⟩ := H
  replace H : ((flagstoneref10_Right.f k t577 t580).bind fun t583 => (some t583)) = some r := H
  have A3 := Am_ A30
  clear A30
  replace H := Option.bind_eq_some_iff.mp H
  obtain ⟨t583, A40, H⟩ := H
  replace H : (some t583) = some r := H
  have A4 := Am_ A40
  clear A40
  obtain rfl := Option.some.inj H
  go_enter Try.func32, Try.ntmps32
  go_wp2_with (first | ((with_reducible refine gate_dst (N := 1) rfl ?_); refine box_event ?hg (N := 1) ?hd (cs := #[.slice A0_0 l0_0.length c0_0, .slice A0_1 l0_1.length c0_1]) (t := 25) ?hr ?_; (case hd => rfl); (case hg => rfl); (case hr => go_simp; try rfl); intro gb576 hg w5 hbox hb; have n0_ := Am_ (Be_ (Pb0_ HB.out) hb); have n1_ := Am_ (hbox); have n2_ := Am_ ((by rw [hg]; exact (Bz_ (Pb0_ HB.out)) : w.heap.size ≤ gb576)); have n3_ := Am_ ((by rw [hg]; exact (Bz_ (Pb0_ HB.out)) : w.heap.size ≤ gb576)); clear HB; have HB := n0_; have BK576 := n1_; have GW576 := n2_; have GE576 := n3_; clear n0_ n1_ n2_ n3_; clear hb hbox hg; obtain ⟨hcz6_0, hcz6_1, hfz6_0, hfz6_1⟩ := Ce2_ BK576.out) | (go_at_call 14; (with_reducible refine (flagstonelaw10_its.calls k _ _ l0_0 (fun k_ => k_ < w.heap.size) _ _ l0_1 t577 t580 _ ?side1 ?side2 ?side3 A3.out).mono ?_); (case side1 => repeat (first | exact (Kd.C_below HR0_0.out HB.out) | (with_reducible refine Kd.C_alloc ?_ _) | (with_reducible refine Kd.C_drewN ?_ _) | (with_reducible refine Kd.C_drew ?_))); (case side2 => exact HC0_0.out); (case side3 => exact Kd.V_mk HC0_1.out (Kd.F_below (Kd.C_F (Kd.heap_slice 3 (Kd.heap_int .i64)) HR0_1.out) (Pb1_ HB.out GE576.out))); rintro e w7 ⟨v578, v581, rfl, ho0, ho1, hb⟩; have n0_ := Am_ (Kd.R_lower (Kd.R_mono (ok' := fun k_ => True) ho0 (fun _ hk_ => trivial)) (Bz_ (Pb1_ HB.out GE576.out))); have n1_ := Am_ (Vl_ (Vm_ (ok' := fun k_ => some k_ ≠ (v578 : Value).ownBlock ∧ k_ ≠ gb576) ho1 (fun k_ hk_ => ⟨hk_.2, Or.elim hk_.1 (fun hs_ => fun e_ => Nat.not_le.2 hs_ (by rw [e_]; exact GW576.out)) (fun hn_ => (Kd.freshB (g := gb576) (o := .cells #[.slice A0_0 l0_0.length c0_0, .slice A0_1 l0_1.length c0_1] 25 (0, 0)) (Pk_ BK576.out) k_ hn_))⟩)) (Bz_ (Pb1_ HB.out GE576.out))); have n2_ := Am_ (Bb_ (g := gb576) (o := .cells #[.slice A0_0 l0_0.length c0_0, .slice A0_1 l0_1.length c0_1] 25 (0, 0)) (Pk_ BK576.out) hb); have n3_ := Am_ (Be_ (Pb1_ HB.out GE576.out) hb); clear BK576; clear HB; have HO579 := n0_; have HO582 := n1_; have BK576 := n2_; have HB := n3_; clear n0_ n1_ n2_ n3_; (try clear hb); (try clear hb2); (try clear hk); (try clear hi); (try clear ho0); (try clear ho1); obtain ⟨Ao8, co8, eo8⟩ := Kd.R_slice HO579.out; subst eo8; obtain ⟨Ao9, co9, eo9⟩ := Vx_ HO582.out; subst eo9) | (go_at_call 13; (with_reducible refine (flagstoneref10_Right.calls k _ _ t577 _ _ t580 t583 _ ?side1 ?side2 ?side3 ?side4 A4.out).mono ?_); (case side1 => repeat (first | exact (Kd.R_reads' HO579.out).2.2 | (with_reducible refine Kd.C_alloc ?_ _) | (with_reducible refine Kd.C_drewN ?_ _) | (with_reducible refine Kd.C_drew ?_))); (case side2 => exact (Kd.R_reads' HO579.out).2.1); (case side3 => repeat (first | exact (Vr_ HO582.out).2.2 | (with_reducible refine Kd.C_alloc ?_ _) | (with_reducible refine Kd.C_drewN ?_ _) | (with_reducible refine Kd.C_drew ?_))); (case side4 => exact (Vr_ HO582.out).2.1); rintro e w10 ⟨rfl, hb⟩; have n0_ := Am_ (Rb_ (Px_ HO579.out) hb); have n1_ := Am_ (Vb_ (Pv_ HO582.out) hb); have n2_ := Am_ (Bb_ (g := gb576) (o := .cells #[.slice A0_0 l0_0.length c0_0, .slice A0_1 l0_1.length c0_1] 25 (0, 0)) (Pk_ BK576.out) hb); have n3_ := Am_ (Be_ (Pb1_ HB.out GE576.out) hb); clear HO579; clear HO582; clear BK576; clear HB; have HO579 := n0_; have HO582 := n1_; have BK576 := n2_; have HB := n3_; clear n0_ n1_ n2_ n3_; (try clear hb); (try clear hb2); (try clear hk); (try clear hi)))
  go_ret
  exact ⟨by first | rfl | (simp [errW_none, errW_some] <;> rfl) | (simp [*, errW_none, errW_some] <;> rfl), by repeat (first | (with_reducible first | exact HB.out | apply Pa_ | apply Pn_ | apply Pd_ | refine Bs_ ?_ GE576.out) | exact HB.out)⟩
 ·rw [if_neg c2] at H
  have c2b0 : decide ((l0_0.length : Int) ≤ 1000) = false := Df_ c2
  have c2b1 : decide (l0_0.length ≤ 1000) = false := Df_ (by omega)
  clear c2
  obtain rfl := Option.some.inj H
  go_enter Try.func32, Try.ntmps32
  go_wp2_with (first | ((with_reducible refine gate_dst (N := 1) rfl ?_); refine box_event ?hg (N := 1) ?hd (cs := #[.slice A0_0 l0_0.length c0_0, .slice A0_1 l0_1.length c0_1]) (t := 25) ?hr ?_; (case hd => rfl); (case hg => rfl); (case hr => go_simp; try rfl); intro gb576 hg w11 hbox hb; have n0_ := Am_ (Be_ (Pb0_ HB.out) hb); have n1_ := Am_ (hbox); have n2_ := Am_ ((by rw [hg]; exact (Bz_ (Pb0_ HB.out)) : w.heap.size ≤ gb576)); have n3_ := Am_ ((by rw [hg]; exact (Bz_ (Pb0_ HB.out)) : w.heap.size ≤ gb576)); clear HB; have HB := n0_; have BK576 := n1_; have GW576 := n2_; have GE576 := n3_; clear n0_ n1_ n2_ n3_; clear hb hbox hg; obtain ⟨hcz12_0, hcz12_1, hfz12_0, hfz12_1⟩ := Ce2_ BK576.out))
  go_ret
  exact ⟨by first | rfl | (simp [errW_none, errW_some] <;> rfl) | (simp [*, errW_none, errW_some] <;> rfl), by repeat (first | (with_reducible first | exact HB.out | apply Pa_ | apply Pn_ | apply Pd_ | refine Bs_ ?_ GE576.out) | exact HB.out)⟩

end Go.Proofs.Ytkecfdljodiifaa.P
