-- Printed by a program of this session (inject.py) over the kit's print, with functions that were proved by hand in their places.
import Derived.Test.YtkecfdljodiifaaPK
import Derived.Test.YtkecfdljodiifaaPhandleTablerow
namespace Go.Proofs.Ytkecfdljodiifaa.P
open Go.RowKit Go.Proofs.YtkecfdljodiifaaW.PrintWords Go.Proofs.YtkecfdljodiifaaW.PrintLast Go.Proofs.YtkecfdljodiifaaW.PrintMore
attribute [local go_sem] max2_int min2_int max_two min_two max_three min_three max_four min_four   -- for this text's walks alone
set_option linter.unusedVariables false
set_option linter.unusedSimpArgs false

/-! ### handle_Count: function 22 -/
def handle_Count.l0 : Nat → Int → List Int → Int → Int → Option (Int)
 | 0, _, _, _, _ => none
 | k + 1, x4, x9, x10, x11 => if x11 < x10 then (if 0 ≤ x11 then (if x11 < (x9.length : Int) then (if (rd x9 x11) = (-1) then (handle_Count.l0 k x4 x9 x10 (wrap64 (x11 + 1))) else (handle_Count.l0 k (wrap64 (x4 + 1)) x9 x10 (wrap64 (x11 + 1)))) else (none)) else (none)) else (some x4)
def handle_Count.f (k : Nat) (l0_0 : List (S38)) (l0_1 : List (List Int)) (a1 : Int) : Option (Int) := (handle_Table_row.f l0_0 l0_1 a1).bind fun t135 => (handle_Count.l0 k 0 t135 (t135.length : Int) 0)
theorem handle_Count.mono_l : ∀ k, (∀ y0 y1 y2 y3, LeO (handle_Count.l0 k y0 y1 y2 y3) (handle_Count.l0 (k + 1) y0 y1 y2 y3))
 | 0 => fun _ _ _ _ r h => by simp [handle_Count.l0] at h
 | k + 1 => by
  have ih0 := handle_Count.mono_l k
  ·intro y0 y1 y2 y3
   unfold handle_Count.l0
   repeat' first
   | (with_reducible exact ih0 _ _ _ _)
   | (with_reducible exact LeO.refl _)
   | (with_reducible exact LeO.none _)
   | (with_reducible refine LeO.ite ?_ ?_)
   | (with_reducible refine LeO.bind ?_ (fun _ => ?_))
   | exact ih0 _ _ _ _
   | exact LeO.none _
   | refine LeO.ite ?_ ?_
   | refine LeO.bind ?_ (fun _ => ?_)
theorem handle_Count.mono : ∀ a0 a1 a2 k, LeO (handle_Count.f k a0 a1 a2) (handle_Count.f (k + 1) a0 a1 a2) := by
 intro a0 a1 a2 k
 have ih0 := handle_Count.mono_l k
 unfold handle_Count.f
 repeat' first
   | (with_reducible exact ih0 _ _ _ _)
   | (with_reducible exact LeO.refl _)
   | (with_reducible exact LeO.none _)
   | (with_reducible refine LeO.ite ?_ ?_)
   | (with_reducible refine LeO.bind ?_ (fun _ => ?_))
   | exact ih0 _ _ _ _
   | exact LeO.none _
   | refine LeO.ite ?_ ?_
   | refine LeO.bind ?_ (fun _ => ?_)
set_option maxHeartbeats 8000000 in
set_option maxRecDepth 100000 in
theorem handle_Count.calls (k : Nat) (A0_0 : Option Addr) (c0_0 : Nat) (l0_0 : List (S38)) (A0_1 : Option Addr) (c0_1 : Nat) (l0_1 : List (List Int)) (a1 : Int) (r : Int) (w : World) (hr0_0 : Kd.C k38 w A0_0 l0_0.length l0_0) (hc0_0 : l0_0.length ≤ c0_0) (hr0_1 : Kd.C (Kd.slice 3 (Kd.int .i64)) w A0_1 l0_1.length l0_1) (hc0_1 : l0_1.length ≤ c0_1) (h : handle_Count.f k l0_0 l0_1 a1 = some r) :
  Calls Try.prog 22 #[.agg #[.slice A0_0 l0_0.length c0_0, .slice A0_1 l0_1.length c0_1], .int .i64 a1] w fun e w' => e = .returned (.int .i64 r) ∧ Below w.heap.size w w' := by
 have hu25 := Try.underlying25
 have HR0_0 := Am_ hr0_0
 have HC0_0 := Am_ hc0_0
 clear hr0_0 hc0_0
 have HR0_1 := Am_ hr0_1
 have HC0_1 := Am_ hc0_1
 clear hr0_1 hc0_1
 have HB := Am_ (Below.refl w.heap.size w)
 have H : ((handle_Table_row.f l0_0 l0_1 a1).bind fun t135 => (handle_Count.l0 k 0 t135 (t135.length : Int) 0)) = some r := h
 clear h
 replace H := Option.bind_eq_some_iff.mp H
 obtain ⟨t135, A30, H⟩ := H
 replace H : (handle_Count.l0 k 0 t135 (t135.length : Int) 0) = some r := H
 have A3 := Am_ A30
 clear A30
 have H' := Am_ H
 clear H
 go_enter Try.func22, Try.ntmps22
 go_wp2_with (first | ((with_reducible refine gate_dst (N := 2) rfl ?_); refine box_event ?hg (N := 2) ?hd (cs := #[.slice A0_0 l0_0.length c0_0, .slice A0_1 l0_1.length c0_1]) (t := 25) ?hr ?_; (case hd => rfl); (case hg => rfl); (case hr => go_simp; try rfl); intro gb134 hg w4 hbox hb; have n0_ := Am_ (Be_ (Pb0_ HB.out) hb); have n1_ := Am_ (hbox); have n2_ := Am_ ((by rw [hg]; exact (Bz_ (Pb0_ HB.out)) : w.heap.size ≤ gb134)); have n3_ := Am_ ((by rw [hg]; exact (Bz_ (Pb0_ HB.out)) : w.heap.size ≤ gb134)); clear HB; have HB := n0_; have BK134 := n1_; have GW134 := n2_; have GE134 := n3_; clear n0_ n1_ n2_ n3_; clear hb hbox hg; obtain ⟨hcz5_0, hcz5_1, hfz5_0, hfz5_1⟩ := Ce2_ BK134.out) | ((with_reducible refine gate_callee (f := 34) rfl ?_); refine goesL_ (some 9) rfl rfl Try.func34 (by kernel_rfl) rfl #[.agg #[.slice A0_0 l0_0.length c0_0, .slice A0_1 l0_1.length c0_1], .int .i64 a1] rfl (by (try simp only [List.map_toArray, List.map_cons, List.map_nil]); first | done | rfl | (simp only [List.length_drop, List.length_take]; rfl)) ?_; (with_reducible refine (handle_Table_row.calls _ _ l0_0 (fun k_ => k_ < w.heap.size) _ _ l0_1 a1 t135 _ ?side1 ?side2 ?side3 A3.out).mono ?_); (case side1 => repeat (first | exact (Kd.C_below HR0_0.out HB.out) | (with_reducible refine Kd.C_alloc ?_ _) | (with_reducible refine Kd.C_drewN ?_ _) | (with_reducible refine Kd.C_drew ?_))); (case side2 => exact HC0_0.out); (case side3 => exact Kd.V_mk HC0_1.out (Kd.F_below (Kd.C_F (Kd.heap_slice 3 (Kd.heap_int .i64)) HR0_1.out) (Pb1_ HB.out GE134.out))); rintro e w6 ⟨v136, rfl, ho0, hb⟩; refine ⟨_, rfl, ?_⟩; have n0_ := Am_ (Vl_ (Vm_ (ok' := fun k_ => k_ ≠ gb134) ho0 (fun k_ hk_ => Or.elim hk_ (fun hs_ => fun e_ => Nat.not_le.2 hs_ (by rw [e_]; exact GW134.out)) (fun hn_ => (Kd.freshB (g := gb134) (o := .cells #[.slice A0_0 l0_0.length c0_0, .slice A0_1 l0_1.length c0_1] 25 (0, 0)) (Pk_ BK134.out) k_ hn_)))) (Bz_ (Pb1_ HB.out GE134.out))); have n1_ := Am_ (Bb_ (g := gb134) (o := .cells #[.slice A0_0 l0_0.length c0_0, .slice A0_1 l0_1.length c0_1] 25 (0, 0)) (Pk_ BK134.out) hb); have n2_ := Am_ (Be_ (Pb1_ HB.out GE134.out) hb); clear BK134; clear HB; have HO137 := n0_; have BK134 := n1_; have HB := n2_; clear n0_ n1_ n2_; (try clear hb); (try clear hb2); (try clear hk); (try clear hi); (try clear ho0); obtain ⟨Ao7, co7, eo7⟩ := Vx_ HO137.out; subst eo7))
 go_loopg [4, 11] k (fun kq v4 v11 w' => ∃ (x4_1 : Int) (x11_1 : Int), v4 = .int .i64 x4_1 ∧ v11 = .int .i64 x11_1 ∧ Aside0 (handle_Count.l0 kq x4_1 t135 (t135.length : Int) x11_1 = some r) ∧ Aside0 (kq ≤ k) ∧ Aside0 (Kd.V (Kd.int .i64) 3 w' w.heap.size (fun k_ => k_ ≠ gb134) (.slice Ao7 t135.length co7) t135) ∧ Aside0 (w'.heap[gb134]? = some (.cells #[(.slice A0_0 l0_0.length c0_0), (.slice A0_1 l0_1.length c0_1)] 25 (0, 0))) ∧ Aside0 (Below w.heap.size w w'))
 case atStart => exact ⟨(0), (0), (by first | rfl | (simp; done) | (simp [*]; done)), (by first | rfl | (simp; done) | (simp [*]; done)), H', ⟨Nat.le_refl _⟩, ⟨by (with_reducible repeat (first | apply Va_ | apply Vn_ | apply Vd_)); exact HO137.out⟩, ⟨by (with_reducible repeat (first | refine Bn_ ?_ _ | refine Bd_ ?_ | refine Ba_ ?_ _)); exact BK134.out⟩, ⟨by repeat (first | (with_reducible first | exact HB.out | apply Pa_ | apply Pn_ | apply Pd_ | refine Bs_ ?_ GE134.out) | exact HB.out)⟩⟩
 case round =>
  clear H'
  try clear c2
  try clear p2
  try clear c3
  try clear hcz5_0
  try clear hcz5_1
  try clear hfz5_0
  try clear hfz5_1
  obtain ⟨x4_1, x11_1, rfl, rfl, HA, HK1, HO_9, BK134, HB⟩ := hrel
  cases gk with
  | zero => exact absurd HA.out (by simp [handle_Count.l0])
  | succ k1 =>
   have H := HA.out
   clear HA
   simp only [handle_Count.l0] at H
   by_cases c8 : x11_1 < (t135.length : Int)
   ·rw [if_pos c8] at H
    have c8b0 : decide (x11_1 < (t135.length : Int)) = true := Dt_ c8
    clear c8
    by_cases c9 : 0 ≤ x11_1
    ·rw [if_pos c9] at H
     have c9b0 : decide (0 ≤ x11_1) = true := Dt_ c9
     clear c9
     by_cases c10 : x11_1 < (t135.length : Int)
     ·rw [if_pos c10] at H
      have c10b0 : decide (x11_1 < (t135.length : Int)) = true := Dt_ c10
      clear c10
      by_cases c11 : (rd t135 x11_1) = (-1)
      ·rw [if_pos c11] at H
       have c11b0 : ((rd t135 x11_1) == (-1)) = true := beq_iff_eq.mpr c11
       have c11b1 : ((rd t135 x11_1) != (-1)) = false := bne_eq_false_iff_eq.mpr c11
       clear c11
       have H' := Am_ H
       clear H
       have p138 : 0 ≤ (x11_1 : Int) := Ot_ (by first | (with_reducible assumption) | assumption)
       have q138 : x11_1 < (t135.length : Int) := Ot_ (by first | (with_reducible assumption) | assumption)
       obtain ⟨ad138, e138, hx138_0⟩ := Kd.at_int (Vr_ HO_9.out).2.2 x11_1 p138 q138
       cases e138
       replace p138 := eq_true p138
       replace q138 := eq_true q138
       go_wp2
       go_roundg k1
       case measure => have := HK1.out; omega
       case rel => exact ⟨(x4_1), (wrap64 (x11_1 + 1)), (by first | rfl | (simp; done) | (simp [*]; done)), (by first | rfl | (simp; done) | (simp [*]; done)), H', ⟨by have := HK1.out; omega⟩, ⟨by (with_reducible repeat (first | apply Va_ | apply Vn_ | apply Vd_)); exact HO_9.out⟩, ⟨by (with_reducible repeat (first | refine Bn_ ?_ _ | refine Bd_ ?_ | refine Ba_ ?_ _)); exact BK134.out⟩, ⟨by repeat (first | (with_reducible first | exact HB.out | apply Pa_ | apply Pn_ | apply Pd_ | refine Bs_ ?_ GE134.out) | exact HB.out)⟩⟩
      ·rw [if_neg c11] at H
       have c11b0 : ((rd t135 x11_1) == (-1)) = false := beq_eq_false_iff_ne.mpr c11
       have c11b1 : ((rd t135 x11_1) != (-1)) = true := bne_iff_ne.mpr c11
       have H' := Am_ H
       clear H
       have p138 : 0 ≤ (x11_1 : Int) := Ot_ (by first | (with_reducible assumption) | assumption)
       have q138 : x11_1 < (t135.length : Int) := Ot_ (by first | (with_reducible assumption) | assumption)
       obtain ⟨ad138, e138, hx138_0⟩ := Kd.at_int (Vr_ HO_9.out).2.2 x11_1 p138 q138
       cases e138
       replace p138 := eq_true p138
       replace q138 := eq_true q138
       go_wp2
       go_roundg k1
       case measure => have := HK1.out; omega
       case rel => exact ⟨(wrap64 (x4_1 + 1)), (wrap64 (x11_1 + 1)), (by first | rfl | (simp; done) | (simp [*]; done)), (by first | rfl | (simp; done) | (simp [*]; done)), H', ⟨by have := HK1.out; omega⟩, ⟨by (with_reducible repeat (first | apply Va_ | apply Vn_ | apply Vd_)); exact HO_9.out⟩, ⟨by (with_reducible repeat (first | refine Bn_ ?_ _ | refine Bd_ ?_ | refine Ba_ ?_ _)); exact BK134.out⟩, ⟨by repeat (first | (with_reducible first | exact HB.out | apply Pa_ | apply Pn_ | apply Pd_ | refine Bs_ ?_ GE134.out) | exact HB.out)⟩⟩
     ·rw [if_neg c10] at H
      exact absurd H (by simp)
    ·rw [if_neg c9] at H
     exact absurd H (by simp)
   ·rw [if_neg c8] at H
    have c8b0 : decide (x11_1 < (t135.length : Int)) = false := Df_ c8
    clear c8
    obtain rfl := Option.some.inj H
    go_wp2
    go_ret
    exact ⟨by first | rfl | (simp [errW_none, errW_some] <;> rfl) | (simp [*, errW_none, errW_some] <;> rfl), by repeat (first | (with_reducible first | exact HB.out | apply Pa_ | apply Pn_ | apply Pd_ | refine Bs_ ?_ GE134.out) | exact HB.out)⟩

end Go.Proofs.Ytkecfdljodiifaa.P
