-- Printed by a program of this session (inject.py) over the kit's print, with functions that were proved by hand in their places.
import Derived.Test.YtkecfdljodiifaaPK
import Derived.Test.YtkecfdljodiifaaPEq38
namespace Go.Proofs.Ytkecfdljodiifaa.P
open Go.RowKit Go.Proofs.YtkecfdljodiifaaW.PrintWords Go.Proofs.YtkecfdljodiifaaW.PrintLast Go.Proofs.YtkecfdljodiifaaW.PrintMore
attribute [local go_sem] max2_int min2_int max_two min_two max_three min_three max_four min_four   -- for this text's walks alone
set_option linter.unusedVariables false
set_option linter.unusedSimpArgs false

attribute [local go_sem high] eqA38
/-! ### handle_Right: function 12 -/
mutual
def handle_Right.l0 : Nat → List Int → List (List Int) → Int → Int → List (S38) → List (List Int) → Option (Bool)
 | 0, _, _, _, _, _, _ => none
 | k + 1, x3, x15, x16, x17, x102000, x102001 => if x17 < x16 then (if 0 ≤ x17 then (if x17 < (x15.length : Int) then (if ((rd_L1 x15 x17).length : Int) = 8 then (handle_Right.l1 k x3 x15 x16 x17 (rd_L1 x15 x17) ((rd_L1 x15 x17).length : Int) 0 x102000 x102001) else (some false)) else (none)) else (none)) else (handle_Right.l2 k x3 x102000 (x102000.length : Int) 0)
def handle_Right.l1 : Nat → List Int → List (List Int) → Int → Int → List Int → Int → Int → List (S38) → List (List Int) → Option (Bool)
 | 0, _, _, _, _, _, _, _, _, _ => none
 | k + 1, x3, x15, x16, x17, x24, x25, x26, x102000, x102001 => if x26 < x25 then (if 0 ≤ x26 then (if x26 < (x24.length : Int) then (if (rd x24 x26) < (-1) then (handle_Right.j2 k x3 (rd x24 x26) x15 x16 x17 x24 x25 x26 true x102000 x102001) else (handle_Right.j2 k x3 (rd x24 x26) x15 x16 x17 x24 x25 x26 (decide ((rd x24 x26) ≥ (x3.length : Int))) x102000 x102001)) else (none)) else (none)) else (handle_Right.l0 k x3 x15 x16 (wrap64 (x17 + 1)) x102000 x102001)
def handle_Right.j2 : Nat → List Int → Int → List (List Int) → Int → Int → List Int → Int → Int → Bool → List (S38) → List (List Int) → Option (Bool)
 | 0, _, _, _, _, _, _, _, _, _, _, _ => none
 | k + 1, x3, x7, x15, x16, x17, x24, x25, x26, x30, x102000, x102001 => if x30 = true then (some false) else (if x7 = (-1) then (handle_Right.l1 k x3 x15 x16 x17 x24 x25 (wrap64 (x26 + 1)) x102000 x102001) else (if 0 ≤ x7 then (if x7 < (x3.length : Int) then (handle_Right.l1 k (x3.set (x7 : Int).toNat (wrap64 ((rd x3 x7) + 1))) x15 x16 x17 x24 x25 (wrap64 (x26 + 1)) x102000 x102001) else (none)) else (none)))
def handle_Right.l2 : Nat → List Int → List (S38) → Int → Int → Option (Bool)
 | 0, _, _, _, _ => none
 | k + 1, x3, x51, x52, x53 => if x53 < x52 then (if 0 ≤ x53 then (if x53 < (x51.length : Int) then (if x53 < (x3.length : Int) then (if ((rd_T38 x51 x53).f4) = (rd x3 x53) then (if ((rd_T38 x51 x53).f4) = 0 then (if (!(((rd_T38 x51 x53).f0) == 0) || (!(((rd_T38 x51 x53).f1) == 0) || (((rd_T38 x51 x53).f2) || (((rd_T38 x51 x53).f3) || (!(((rd_T38 x51 x53).f4) == 0) || (!(((rd_T38 x51 x53).f5) == 0))))))) = true then (some false) else (handle_Right.l2 k x3 x51 x52 (wrap64 (x53 + 1)))) else (handle_Right.l2 k x3 x51 x52 (wrap64 (x53 + 1)))) else (some false)) else (none)) else (none)) else (none)) else (some true)
end
def handle_Right.f (k : Nat) (l0_0 : List (S38)) (l0_1 : List (List Int)) : Option (Bool) := if 0 ≤ (l0_0.length : Int) then (if ((l0_0.length : Int) : Int).toNat ≤ 35184372088832 then (handle_Right.l0 k (List.replicate ((l0_0.length : Int) : Int).toNat 0) l0_1 (l0_1.length : Int) 0 l0_0 l0_1) else (none)) else (none)
theorem handle_Right.mono_l : ∀ k, (∀ y0 y1 y2 y3 y4 y5, LeO (handle_Right.l0 k y0 y1 y2 y3 y4 y5) (handle_Right.l0 (k + 1) y0 y1 y2 y3 y4 y5)) ∧ (∀ y0 y1 y2 y3 y4 y5 y6 y7 y8, LeO (handle_Right.l1 k y0 y1 y2 y3 y4 y5 y6 y7 y8) (handle_Right.l1 (k + 1) y0 y1 y2 y3 y4 y5 y6 y7 y8)) ∧ (∀ y0 y1 y2 y3 y4 y5 y6 y7 y8 y9 y10, LeO (handle_Right.j2 k y0 y1 y2 y3 y4 y5 y6 y7 y8 y9 y10) (handle_Right.j2 (k + 1) y0 y1 y2 y3 y4 y5 y6 y7 y8 y9 y10)) ∧ (∀ y0 y1 y2 y3, LeO (handle_Right.l2 k y0 y1 y2 y3) (handle_Right.l2 (k + 1) y0 y1 y2 y3))
 | 0 => ⟨fun _ _ _ _ _ _ r h => by simp [handle_Right.l0] at h, fun _ _ _ _ _ _ _ _ _ r h => by simp [handle_Right.l1] at h, fun _ _ _ _ _ _ _ _ _ _ _ r h => by simp [handle_Right.j2] at h, fun _ _ _ _ r h => by simp [handle_Right.l2] at h⟩
 | k + 1 => by
  obtain ⟨ih0, ih1, ih2, ih3⟩ := handle_Right.mono_l k
  refine ⟨?_, ?_, ?_, ?_⟩
  ·intro y0 y1 y2 y3 y4 y5
   unfold handle_Right.l0
   repeat' first
   | (with_reducible exact ih0 _ _ _ _ _ _)
   | (with_reducible exact ih1 _ _ _ _ _ _ _ _ _)
   | (with_reducible exact ih2 _ _ _ _ _ _ _ _ _ _ _)
   | (with_reducible exact ih3 _ _ _ _)
   | (with_reducible exact LeO.refl _)
   | (with_reducible exact LeO.none _)
   | (with_reducible refine LeO.ite ?_ ?_)
   | (with_reducible refine LeO.bind ?_ (fun _ => ?_))
   | exact ih0 _ _ _ _ _ _
   | exact ih1 _ _ _ _ _ _ _ _ _
   | exact ih2 _ _ _ _ _ _ _ _ _ _ _
   | exact ih3 _ _ _ _
   | exact LeO.none _
   | refine LeO.ite ?_ ?_
   | refine LeO.bind ?_ (fun _ => ?_)
  ·intro y0 y1 y2 y3 y4 y5 y6 y7 y8
   unfold handle_Right.l1
   repeat' first
   | (with_reducible exact ih0 _ _ _ _ _ _)
   | (with_reducible exact ih1 _ _ _ _ _ _ _ _ _)
   | (with_reducible exact ih2 _ _ _ _ _ _ _ _ _ _ _)
   | (with_reducible exact ih3 _ _ _ _)
   | (with_reducible exact LeO.refl _)
   | (with_reducible exact LeO.none _)
   | (with_reducible refine LeO.ite ?_ ?_)
   | (with_reducible refine LeO.bind ?_ (fun _ => ?_))
   | exact ih0 _ _ _ _ _ _
   | exact ih1 _ _ _ _ _ _ _ _ _
   | exact ih2 _ _ _ _ _ _ _ _ _ _ _
   | exact ih3 _ _ _ _
   | exact LeO.none _
   | refine LeO.ite ?_ ?_
   | refine LeO.bind ?_ (fun _ => ?_)
  ·intro y0 y1 y2 y3 y4 y5 y6 y7 y8 y9 y10
   unfold handle_Right.j2
   repeat' first
   | (with_reducible exact ih0 _ _ _ _ _ _)
   | (with_reducible exact ih1 _ _ _ _ _ _ _ _ _)
   | (with_reducible exact ih2 _ _ _ _ _ _ _ _ _ _ _)
   | (with_reducible exact ih3 _ _ _ _)
   | (with_reducible exact LeO.refl _)
   | (with_reducible exact LeO.none _)
   | (with_reducible refine LeO.ite ?_ ?_)
   | (with_reducible refine LeO.bind ?_ (fun _ => ?_))
   | exact ih0 _ _ _ _ _ _
   | exact ih1 _ _ _ _ _ _ _ _ _
   | exact ih2 _ _ _ _ _ _ _ _ _ _ _
   | exact ih3 _ _ _ _
   | exact LeO.none _
   | refine LeO.ite ?_ ?_
   | refine LeO.bind ?_ (fun _ => ?_)
  ·intro y0 y1 y2 y3
   unfold handle_Right.l2
   repeat' first
   | (with_reducible exact ih0 _ _ _ _ _ _)
   | (with_reducible exact ih1 _ _ _ _ _ _ _ _ _)
   | (with_reducible exact ih2 _ _ _ _ _ _ _ _ _ _ _)
   | (with_reducible exact ih3 _ _ _ _)
   | (with_reducible exact LeO.refl _)
   | (with_reducible exact LeO.none _)
   | (with_reducible refine LeO.ite ?_ ?_)
   | (with_reducible refine LeO.bind ?_ (fun _ => ?_))
   | exact ih0 _ _ _ _ _ _
   | exact ih1 _ _ _ _ _ _ _ _ _
   | exact ih2 _ _ _ _ _ _ _ _ _ _ _
   | exact ih3 _ _ _ _
   | exact LeO.none _
   | refine LeO.ite ?_ ?_
   | refine LeO.bind ?_ (fun _ => ?_)
theorem handle_Right.mono : ∀ a0 a1 k, LeO (handle_Right.f k a0 a1) (handle_Right.f (k + 1) a0 a1) := by
 intro a0 a1 k
 obtain ⟨ih0, ih1, ih2, ih3⟩ := handle_Right.mono_l k
 unfold handle_Right.f
 repeat' first
   | (with_reducible exact ih0 _ _ _ _ _ _)
   | (with_reducible exact ih1 _ _ _ _ _ _ _ _ _)
   | (with_reducible exact ih2 _ _ _ _ _ _ _ _ _ _ _)
   | (with_reducible exact ih3 _ _ _ _)
   | (with_reducible exact LeO.refl _)
   | (with_reducible exact LeO.none _)
   | (with_reducible refine LeO.ite ?_ ?_)
   | (with_reducible refine LeO.bind ?_ (fun _ => ?_))
   | exact ih0 _ _ _ _ _ _
   | exact ih1 _ _ _ _ _ _ _ _ _
   | exact ih2 _ _ _ _ _ _ _ _ _ _ _
   | exact ih3 _ _ _ _
   | exact LeO.none _
   | refine LeO.ite ?_ ?_
   | refine LeO.bind ?_ (fun _ => ?_)
set_option maxHeartbeats 8000000 in
set_option maxRecDepth 100000 in
theorem handle_Right.calls (k : Nat) (A0_0 : Option Addr) (c0_0 : Nat) (l0_0 : List (S38)) (A0_1 : Option Addr) (c0_1 : Nat) (l0_1 : List (List Int)) (r : Bool) (w : World) (hr0_0 : Kd.C k38 w A0_0 l0_0.length l0_0) (hc0_0 : l0_0.length ≤ c0_0) (hr0_1 : Kd.C (Kd.slice 3 (Kd.int .i64)) w A0_1 l0_1.length l0_1) (hc0_1 : l0_1.length ≤ c0_1) (h : handle_Right.f k l0_0 l0_1 = some r) :
  Calls Try.prog 12 #[.agg #[.slice A0_0 l0_0.length c0_0, .slice A0_1 l0_1.length c0_1]] w fun e w' => e = .returned (.bool r) ∧ Below w.heap.size w w' := by
 have hu25 := Try.underlying25
 have hu38 := Try.underlying38
 have HR0_0 := Am_ hr0_0
 have HC0_0 := Am_ hc0_0
 clear hr0_0 hc0_0
 have HR0_1 := Am_ hr0_1
 have HC0_1 := Am_ hc0_1
 clear hr0_1 hc0_1
 have HB := Am_ (Below.refl w.heap.size w)
 have H : (if 0 ≤ (l0_0.length : Int) then (if ((l0_0.length : Int) : Int).toNat ≤ 35184372088832 then (handle_Right.l0 k (List.replicate ((l0_0.length : Int) : Int).toNat 0) l0_1 (l0_1.length : Int) 0 l0_0 l0_1) else (none)) else (none)) = some r := h
 clear h
 by_cases c2 : 0 ≤ (l0_0.length : Int)
 ·rw [if_pos c2] at H
  have c2b0 := eq_true c2
  have c2b1 : decide (0 ≤ (l0_0.length : Int)) = true := Dt_ c2
  clear c2
  by_cases c3 : ((l0_0.length : Int) : Int).toNat ≤ 35184372088832
  ·rw [if_pos c3] at H
   have c3b0 := eq_true c3
   have c3b1 : decide (((l0_0.length : Int) : Int).toNat ≤ 35184372088832) = true := Dt_ c3
   clear c3
   obtain ⟨y102, hy102⟩ : ∃ y_ : List Int, y_ = (List.replicate ((l0_0.length : Int) : Int).toNat 0) := ⟨_, rfl⟩
   replace H : (handle_Right.l0 k y102 l0_1 (l0_1.length : Int) 0 l0_0 l0_1) = some r := by first | (rw [hy102]; with_reducible exact H) | (have H2_ := (Option.bind_some _ _).symm.trans H; rw [hy102]; with_reducible exact H2_) | (have H2_ := (Option.bind_some _ _).symm.trans H; with_reducible exact H2_) | with_reducible exact H | (rw [hy102]; exact H) | exact H
   have Ny102 := Am_ hy102
   clear hy102
   have H' := Am_ H
   clear H
   go_enter Try.func12, Try.ntmps12
   go_wp2_with (first | ((with_reducible refine gate_dst (N := 1) rfl ?_); (try (refine gate_guard (by rfl) ?_; dsimp only)); refine box_event ?hg (N := 1) ?hd (cs := #[.slice A0_0 l0_0.length c0_0, .slice A0_1 l0_1.length c0_1]) (t := 25) ?hr ?_; (case hd => rfl); (case hg => rfl); (case hr => go_simp; try rfl); intro gb101 hg w4 hbox hb; have n0_ := Am_ (Be_ (Pb0_ HB.out) hb); have n1_ := Am_ (hbox); have n2_ := Am_ ((by rw [hg]; exact (Bz_ (Pb0_ HB.out)) : w.heap.size ≤ gb101)); have n3_ := Am_ ((by rw [hg]; exact (Bz_ (Pb0_ HB.out)) : w.heap.size ≤ gb101)); clear HB; have HB := n0_; have BK101 := n1_; have GW101 := n2_; have GE101 := n3_; clear n0_ n1_ n2_ n3_; clear hb hbox hg; obtain ⟨hcz5_0, hcz5_1, hfz5_0, hfz5_1⟩ := Ce2_ BK101.out) | ((with_reducible refine gate_dst (N := 13) rfl ?_); (try (refine gate_guard (by rfl) ?_; dsimp only)); refine Kd.R_make (Kd.int .i64) _ 3 rfl (N := 13) rfl 64 _ _ rfl (l0_0.length : Int) rfl rfl Try.underlying64 (.int .i64 0) 8 info3 rfl (by decide) (by omega) 0 (ok := fun _ => True) (okp := fun _ => True) rfl (fun _ hk => hk) trivial (Ot_ (by first | (with_reducible assumption) | assumption)) (Nat.le_trans (Nat.mul_le_mul_right _ (Ot_ (by first | (with_reducible assumption) | assumption) : (l0_0.length : Int).toNat ≤ 35184372088832)) (by omega)) (Below.refl _ _) (Nat.le_refl _) ?_; intro v103 w6 ho7 hb hg_ hnew_; clear hg_ hnew_; (first | rw [← Ny102.out] at ho7 | (simp only [Int.reduceToNat] at ho7; rw [← Ny102.out] at ho7)); have n0_ := Am_ (Kd.R_lower ho7 (Bz_ (Pb1_ HB.out GE101.out))); have n1_ := Am_ (Bb_ (g := gb101) (o := .cells #[.slice A0_0 l0_0.length c0_0, .slice A0_1 l0_1.length c0_1] 25 (0, 0)) (Pk_ BK101.out) hb); have n2_ := Am_ (Be_ (Pb1_ HB.out GE101.out) hb); clear BK101; clear HB; have HO104 := n0_; have BK101 := n1_; have HB := n2_; clear n0_ n1_ n2_; clear hb ho7; obtain ⟨hcz8_0, hcz8_1, hfz8_0, hfz8_1⟩ := Ce2_ BK101.out))
   repeat (go_quiet (first | ((with_reducible refine gate_dst (N := 1) rfl ?_); (try (refine gate_guard (by rfl) ?_; dsimp only)); refine box_event ?hg (N := 1) ?hd (cs := #[.slice A0_0 l0_0.length c0_0, .slice A0_1 l0_1.length c0_1]) (t := 25) ?hr ?_; (case hd => rfl); (case hg => rfl); (case hr => go_simp; try rfl); intro gb101 hg w4 hbox hb; have n0_ := Am_ (Be_ (Pb0_ HB.out) hb); have n1_ := Am_ (hbox); have n2_ := Am_ ((by rw [hg]; exact (Bz_ (Pb0_ HB.out)) : w.heap.size ≤ gb101)); have n3_ := Am_ ((by rw [hg]; exact (Bz_ (Pb0_ HB.out)) : w.heap.size ≤ gb101)); clear HB; have HB := n0_; have BK101 := n1_; have GW101 := n2_; have GE101 := n3_; clear n0_ n1_ n2_ n3_; clear hb hbox hg; obtain ⟨hcz5_0, hcz5_1, hfz5_0, hfz5_1⟩ := Ce2_ BK101.out) | ((with_reducible refine gate_dst (N := 13) rfl ?_); (try (refine gate_guard (by rfl) ?_; dsimp only)); refine Kd.R_make (Kd.int .i64) _ 3 rfl (N := 13) rfl 64 _ _ rfl (l0_0.length : Int) rfl rfl Try.underlying64 (.int .i64 0) 8 info3 rfl (by decide) (by omega) 0 (ok := fun _ => True) (okp := fun _ => True) rfl (fun _ hk => hk) trivial (Ot_ (by first | (with_reducible assumption) | assumption)) (Nat.le_trans (Nat.mul_le_mul_right _ (Ot_ (by first | (with_reducible assumption) | assumption) : (l0_0.length : Int).toNat ≤ 35184372088832)) (by omega)) (Below.refl _ _) (Nat.le_refl _) ?_; intro v103 w6 ho7 hb hg_ hnew_; clear hg_ hnew_; (first | rw [← Ny102.out] at ho7 | (simp only [Int.reduceToNat] at ho7; rw [← Ny102.out] at ho7)); have n0_ := Am_ (Kd.R_lower ho7 (Bz_ (Pb1_ HB.out GE101.out))); have n1_ := Am_ (Bb_ (g := gb101) (o := .cells #[.slice A0_0 l0_0.length c0_0, .slice A0_1 l0_1.length c0_1] 25 (0, 0)) (Pk_ BK101.out) hb); have n2_ := Am_ (Be_ (Pb1_ HB.out GE101.out) hb); clear BK101; clear HB; have HO104 := n0_; have BK101 := n1_; have HB := n2_; clear n0_ n1_ n2_; clear hb ho7; obtain ⟨hcz8_0, hcz8_1, hfz8_0, hfz8_1⟩ := Ce2_ BK101.out)); try go_wp2_with (first | ((with_reducible refine gate_dst (N := 1) rfl ?_); (try (refine gate_guard (by rfl) ?_; dsimp only)); refine box_event ?hg (N := 1) ?hd (cs := #[.slice A0_0 l0_0.length c0_0, .slice A0_1 l0_1.length c0_1]) (t := 25) ?hr ?_; (case hd => rfl); (case hg => rfl); (case hr => go_simp; try rfl); intro gb101 hg w4 hbox hb; have n0_ := Am_ (Be_ (Pb0_ HB.out) hb); have n1_ := Am_ (hbox); have n2_ := Am_ ((by rw [hg]; exact (Bz_ (Pb0_ HB.out)) : w.heap.size ≤ gb101)); have n3_ := Am_ ((by rw [hg]; exact (Bz_ (Pb0_ HB.out)) : w.heap.size ≤ gb101)); clear HB; have HB := n0_; have BK101 := n1_; have GW101 := n2_; have GE101 := n3_; clear n0_ n1_ n2_ n3_; clear hb hbox hg; obtain ⟨hcz5_0, hcz5_1, hfz5_0, hfz5_1⟩ := Ce2_ BK101.out) | ((with_reducible refine gate_dst (N := 13) rfl ?_); (try (refine gate_guard (by rfl) ?_; dsimp only)); refine Kd.R_make (Kd.int .i64) _ 3 rfl (N := 13) rfl 64 _ _ rfl (l0_0.length : Int) rfl rfl Try.underlying64 (.int .i64 0) 8 info3 rfl (by decide) (by omega) 0 (ok := fun _ => True) (okp := fun _ => True) rfl (fun _ hk => hk) trivial (Ot_ (by first | (with_reducible assumption) | assumption)) (Nat.le_trans (Nat.mul_le_mul_right _ (Ot_ (by first | (with_reducible assumption) | assumption) : (l0_0.length : Int).toNat ≤ 35184372088832)) (by omega)) (Below.refl _ _) (Nat.le_refl _) ?_; intro v103 w6 ho7 hb hg_ hnew_; clear hg_ hnew_; (first | rw [← Ny102.out] at ho7 | (simp only [Int.reduceToNat] at ho7; rw [← Ny102.out] at ho7)); have n0_ := Am_ (Kd.R_lower ho7 (Bz_ (Pb1_ HB.out GE101.out))); have n1_ := Am_ (Bb_ (g := gb101) (o := .cells #[.slice A0_0 l0_0.length c0_0, .slice A0_1 l0_1.length c0_1] 25 (0, 0)) (Pk_ BK101.out) hb); have n2_ := Am_ (Be_ (Pb1_ HB.out GE101.out) hb); clear BK101; clear HB; have HO104 := n0_; have BK101 := n1_; have HB := n2_; clear n0_ n1_ n2_; clear hb ho7; obtain ⟨hcz8_0, hcz8_1, hfz8_0, hfz8_1⟩ := Ce2_ BK101.out)))
   go_loopg [17] k (fun kq v17 w' => ∃ (x3_1 : List Int) (x17_1 : Int), v17 = .int .i64 x17_1 ∧ Aside0 (handle_Right.l0 kq x3_1 l0_1 (l0_1.length : Int) x17_1 l0_0 l0_1 = some r) ∧ Aside0 (kq ≤ k) ∧ Aside0 (Kd.R (Kd.int .i64) 3 w' w.heap.size (fun _ => True) v103 x3_1) ∧ Aside0 (w'.heap[gb101]? = some (.cells #[(.slice A0_0 l0_0.length c0_0), (.slice A0_1 l0_1.length c0_1)] 25 (0, 0))) ∧ Aside0 (Below w.heap.size w w'))
   case atStart => exact ⟨(y102), (0), (by first | rfl | (simp; done) | (simp [*]; done)), H', ⟨Nat.le_refl _⟩, ⟨by (with_reducible repeat (first | apply Ra_ | apply Rn_ | apply Rd_)); exact HO104.out⟩, ⟨by (with_reducible repeat (first | refine Bn_ ?_ _ | refine Bd_ ?_ | refine Ba_ ?_ _)); exact BK101.out⟩, ⟨by repeat (first | (with_reducible first | exact HB.out | apply Pa_ | apply Pn_ | apply Pd_ | refine Bs_ ?_ GE101.out) | exact HB.out)⟩⟩
   case round =>
    clear H'
    try clear c1
    try clear c2
    try clear c2b0
    try clear c2b1
    try clear p2
    try clear c3
    try clear c3b0
    try clear c3b1
    try clear hcz5_0
    try clear hcz5_1
    try clear hcz8_0
    try clear hcz8_1
    try clear hfz5_0
    try clear hfz5_1
    try clear hfz8_0
    try clear hfz8_1
    obtain ⟨x3_1, x17_1, rfl, HA, HK1, HO_3, BK101, HB⟩ := hrel
    cases gk with
    | zero => exact absurd HA.out (by simp [handle_Right.l0])
    | succ k1 =>
     have H := HA.out
     clear HA
     simp only [handle_Right.l0] at H
     by_cases c9 : x17_1 < (l0_1.length : Int)
     ·rw [if_pos c9] at H
      have c9b0 : decide (x17_1 < (l0_1.length : Int)) = true := Dt_ c9
      clear c9
      by_cases c10 : 0 ≤ x17_1
      ·rw [if_pos c10] at H
       have c10b0 : decide (0 ≤ x17_1) = true := Dt_ c10
       clear c10
       by_cases c11 : x17_1 < (l0_1.length : Int)
       ·rw [if_pos c11] at H
        have c11b0 : decide (x17_1 < (l0_1.length : Int)) = true := Dt_ c11
        clear c11
        by_cases c12 : ((rd_L1 l0_1 x17_1).length : Int) = 8
        ·rw [if_pos c12] at H
         have c12b0 : (((rd_L1 l0_1 x17_1).length : Int) == 8) = true := beq_iff_eq.mpr c12
         have c12b1 : (((rd_L1 l0_1 x17_1).length : Int) != 8) = false := bne_eq_false_iff_eq.mpr c12
         clear c12
         have H' := Am_ H
         clear H
         have p105 : 0 ≤ (x17_1 : Int) := Ot_ (by first | (with_reducible assumption) | assumption)
         have q105 : x17_1 < (l0_1.length : Int) := Ot_ (by first | (with_reducible assumption) | assumption)
         obtain ⟨ad105, A105_0, c105_0, e105, hx105_0, hl105_0, hi105_0⟩ := at_L1 HR0_1.out x17_1 p105 q105
         cases e105
         replace hx105_0 := (HB.out.cell (Bl_ w _ hx105_0)).trans hx105_0
         have HR105_0 := Am_ hi105_0
         have HC105_0 := Am_ hl105_0
         clear hi105_0 hl105_0
         replace p105 := eq_true p105
         replace q105 := eq_true q105
         go_wp2
         repeat (go_quiet (fail); try go_wp2)
         go_loopg [26] k1 (fun kq v26 w' => ∃ (x3_2 : List Int) (x26_2 : Int), v26 = .int .i64 x26_2 ∧ Aside0 (handle_Right.l1 kq x3_2 l0_1 (l0_1.length : Int) x17_1 (rd_L1 l0_1 x17_1) ((rd_L1 l0_1 x17_1).length : Int) x26_2 l0_0 l0_1 = some r) ∧ Aside0 (kq ≤ k1) ∧ Aside0 (Kd.R (Kd.int .i64) 3 w' w.heap.size (fun _ => True) v103 x3_2) ∧ Aside0 (w'.heap[gb101]? = some (.cells #[(.slice A0_0 l0_0.length c0_0), (.slice (some ad105) l0_1.length c0_1)] 25 (0, 0))) ∧ Aside0 (Below w.heap.size w w'))
         case atStart => exact ⟨(x3_1), (0), (by first | rfl | (simp; done) | (simp [*]; done)), H', ⟨Nat.le_refl _⟩, ⟨by (with_reducible repeat (first | apply Ra_ | apply Rn_ | apply Rd_)); exact HO_3.out⟩, ⟨by (with_reducible repeat (first | refine Bn_ ?_ _ | refine Bd_ ?_ | refine Ba_ ?_ _)); exact BK101.out⟩, ⟨by repeat (first | (with_reducible first | exact HB.out | apply Pa_ | apply Pn_ | apply Pd_ | refine Bs_ ?_ GE101.out) | exact HB.out)⟩⟩
         case round =>
          clear H'
          try clear c1
          try clear p1
          try clear q1
          try clear hx1
          try clear c2
          try clear c2b0
          try clear c2b1
          try clear p2
          try clear c3
          try clear c3b0
          try clear c3b1
          try clear c9
          try clear c9b0
          try clear c10
          try clear c10b0
          try clear p10
          try clear q10
          try clear hx10
          try clear c11
          try clear c11b0
          try clear c12
          try clear c12b0
          try clear c12b1
          try clear hcz5_0
          try clear hcz5_1
          try clear hcz8_0
          try clear hcz8_1
          try clear hfz5_0
          try clear hfz5_1
          try clear hfz8_0
          try clear hfz8_1
          try clear hx105_0
          try clear p105
          try clear p2
          try clear q105
          obtain ⟨x3_2, x26_2, rfl, HA, HK2, HO_3, BK101, HB⟩ := hrel
          cases gk with
          | zero => exact absurd HA.out (by simp [handle_Right.l1])
          | succ k2 =>
           have H := HA.out
           clear HA
           simp only [handle_Right.l1] at H
           by_cases c13 : x26_2 < ((rd_L1 l0_1 x17_1).length : Int)
           ·rw [if_pos c13] at H
            have c13b0 : decide (x26_2 < ((rd_L1 l0_1 x17_1).length : Int)) = true := Dt_ c13
            clear c13
            by_cases c14 : 0 ≤ x26_2
            ·rw [if_pos c14] at H
             have c14b0 : decide (0 ≤ x26_2) = true := Dt_ c14
             clear c14
             by_cases c15 : x26_2 < ((rd_L1 l0_1 x17_1).length : Int)
             ·rw [if_pos c15] at H
              have c15b0 : decide (x26_2 < ((rd_L1 l0_1 x17_1).length : Int)) = true := Dt_ c15
              clear c15
              have HC16 := Am_ H
              clear H
              have p106 : 0 ≤ (x26_2 : Int) := Ot_ (by first | (with_reducible assumption) | assumption)
              have q106 : x26_2 < ((rd_L1 l0_1 x17_1).length : Int) := Ot_ (by first | (with_reducible assumption) | assumption)
              obtain ⟨ad106, e106, hx106_0⟩ := Kd.at_int HR105_0.out x26_2 p106 q106
              cases e106
              replace hx106_0 := (HB.out.cell (Bl_ w _ hx106_0)).trans hx106_0
              replace p106 := eq_true p106
              replace q106 := eq_true q106
              go_upto_region 10 with (fail)
              repeat (go_quiet (fail); go_upto_region 10 with (fail))
              go_cut [30] (fun v30 wc => ∃ (kq : Nat) (x30_15 : Bool), v30 = .bool x30_15 ∧ Aside0 (handle_Right.j2 kq x3_2 (rd (rd_L1 l0_1 x17_1) x26_2) l0_1 (l0_1.length : Int) x17_1 (rd_L1 l0_1 x17_1) ((rd_L1 l0_1 x17_1).length : Int) x26_2 x30_15 l0_0 l0_1 = some r) ∧ Aside0 (kq ≤ k2) ∧ Aside0 (Kd.R (Kd.int .i64) 3 wc w.heap.size (fun _ => True) v103 x3_2) ∧ Aside0 (wc.heap[gb101]? = some (.cells #[(.slice A0_0 l0_0.length c0_0), (.slice (some ad105) l0_1.length c0_1)] 25 (0, 0))) ∧ Aside0 (Below w.heap.size w wc))
              case first =>
               have H := HC16.out
               clear HC16
               by_cases c17 : (rd (rd_L1 l0_1 x17_1) x26_2) < (-1)
               ·rw [if_pos c17] at H
                have c17b0 : decide ((rd (rd_L1 l0_1 x17_1) x26_2) < (-1)) = true := Dt_ c17
                clear c17
                (first | rw [c17b0] | (simp only [i64_w, i32_w]; rw [c17b0]) | skip)
                have H' := Am_ H
                clear H
                go_wp2
                repeat (go_quiet (fail); try go_wp2)
                go_meet
                case rel => exact ⟨_, (true), (by first | rfl | (simp; done) | (simp [*]; done)), H', ⟨by have := HK1.out; have := HK2.out; first | omega | exact Nat.le_refl _⟩, ⟨by (with_reducible repeat (first | apply Ra_ | apply Rn_ | apply Rd_)); exact HO_3.out⟩, ⟨by (with_reducible repeat (first | refine Bn_ ?_ _ | refine Bd_ ?_ | refine Ba_ ?_ _)); exact BK101.out⟩, ⟨by repeat (first | (with_reducible first | exact HB.out | apply Pa_ | apply Pn_ | apply Pd_ | refine Bs_ ?_ GE101.out) | exact HB.out)⟩⟩
               ·rw [if_neg c17] at H
                have c17b0 : decide ((rd (rd_L1 l0_1 x17_1) x26_2) < (-1)) = false := Df_ c17
                clear c17
                (first | rw [c17b0] | (simp only [i64_w, i32_w]; rw [c17b0]) | skip)
                have H' := Am_ H
                clear H
                obtain ⟨Ao18, co18, eo18⟩ := Kd.R_slice HO_3.out
                subst eo18
                go_wp2
                repeat (go_quiet (fail); try go_wp2)
                go_meet
                case rel => exact ⟨_, (decide ((rd (rd_L1 l0_1 x17_1) x26_2) ≥ (x3_2.length : Int))), (by first | rfl | (simp; done) | (simp [*]; done)), H', ⟨by have := HK1.out; have := HK2.out; first | omega | exact Nat.le_refl _⟩, ⟨by (with_reducible repeat (first | apply Ra_ | apply Rn_ | apply Rd_)); exact HO_3.out⟩, ⟨by (with_reducible repeat (first | refine Bn_ ?_ _ | refine Bd_ ?_ | refine Ba_ ?_ _)); exact BK101.out⟩, ⟨by repeat (first | (with_reducible first | exact HB.out | apply Pa_ | apply Pn_ | apply Pd_ | refine Bs_ ?_ GE101.out) | exact HB.out)⟩⟩
              case rest =>
               clear HC16
               try clear c1
               try clear p1
               try clear q1
               try clear hx1
               try clear c2
               try clear c2b0
               try clear c2b1
               try clear p2
               try clear c3
               try clear c3b0
               try clear c3b1
               try clear c9
               try clear c9b0
               try clear c10
               try clear c10b0
               try clear p10
               try clear q10
               try clear hx10
               try clear c11
               try clear c11b0
               try clear c12
               try clear c12b0
               try clear c12b1
               try clear c13
               try clear c13b0
               try clear c14
               try clear c14b0
               try clear c15
               try clear c15b0
               try clear c17
               try clear c17b0
               try clear hcz5_0
               try clear hcz5_1
               try clear hcz8_0
               try clear hcz8_1
               try clear hfz5_0
               try clear hfz5_1
               try clear hfz8_0
               try clear hfz8_1
               try clear hx105_0
               try clear hx106_0
               try clear p1
               try clear p10
               try clear p105
               try clear p106
               try clear p2
               try clear q1
               try clear q10
               try clear q105
               try clear q106
               obtain ⟨kq, x30_15, rfl, HA, HJ15, HO_3, BK101, HB⟩ := hcut
               cases kq with
               | zero => exact absurd HA.out (by simp [handle_Right.j2])
               | succ kj15 =>
                have H := HA.out
                clear HA
                simp only [handle_Right.j2] at H
                by_cases c19 : x30_15 = true
                ·subst c19
                 have H1 : (some false) = some r := by rw [if_pos rfl] at H; exact H
                 clear H
                 have H := H1
                 clear H1
                 obtain rfl := Option.some.inj H
                 go_wp2
                 repeat (go_quiet (fail); try go_wp2)
                 go_ret
                 exact ⟨by first | rfl | (simp [errW_none, errW_some] <;> rfl) | (simp [*, errW_none, errW_some] <;> rfl), by repeat (first | (with_reducible first | exact HB.out | apply Pa_ | apply Pn_ | apply Pd_ | refine Bs_ ?_ GE101.out) | exact HB.out)⟩
                ·replace c19 := Bool.eq_false_iff.mpr c19
                 subst c19
                 have H1 : (if (rd (rd_L1 l0_1 x17_1) x26_2) = (-1) then (handle_Right.l1 kj15 x3_2 l0_1 (l0_1.length : Int) x17_1 (rd_L1 l0_1 x17_1) ((rd_L1 l0_1 x17_1).length : Int) (wrap64 (x26_2 + 1)) l0_0 l0_1) else (if 0 ≤ (rd (rd_L1 l0_1 x17_1) x26_2) then (if (rd (rd_L1 l0_1 x17_1) x26_2) < (x3_2.length : Int) then (handle_Right.l1 kj15 (x3_2.set ((rd (rd_L1 l0_1 x17_1) x26_2) : Int).toNat (wrap64 ((rd x3_2 (rd (rd_L1 l0_1 x17_1) x26_2)) + 1))) l0_1 (l0_1.length : Int) x17_1 (rd_L1 l0_1 x17_1) ((rd_L1 l0_1 x17_1).length : Int) (wrap64 (x26_2 + 1)) l0_0 l0_1) else (none)) else (none))) = some r := by rw [if_neg (show ¬ (false = true) by decide)] at H; exact H
                 clear H
                 have H := H1
                 clear H1
                 by_cases c20 : (rd (rd_L1 l0_1 x17_1) x26_2) = (-1)
                 ·rw [if_pos c20] at H
                  have c20b0 : ((rd (rd_L1 l0_1 x17_1) x26_2) == (-1)) = true := beq_iff_eq.mpr c20
                  have c20b1 : ((rd (rd_L1 l0_1 x17_1) x26_2) != (-1)) = false := bne_eq_false_iff_eq.mpr c20
                  clear c20
                  have H' := Am_ H
                  clear H
                  go_wp2
                  repeat (go_quiet (fail); try go_wp2)
                  go_roundg kj15
                  case measure => have := HK1.out; have := HK2.out; have := HJ15.out; omega
                  case rel => exact ⟨(x3_2), (wrap64 (x26_2 + 1)), (by first | rfl | (simp; done) | (simp [*]; done)), H', ⟨by have := HK1.out; have := HK2.out; have := HJ15.out; omega⟩, ⟨by (with_reducible repeat (first | apply Ra_ | apply Rn_ | apply Rd_)); exact HO_3.out⟩, ⟨by (with_reducible repeat (first | refine Bn_ ?_ _ | refine Bd_ ?_ | refine Ba_ ?_ _)); exact BK101.out⟩, ⟨by repeat (first | (with_reducible first | exact HB.out | apply Pa_ | apply Pn_ | apply Pd_ | refine Bs_ ?_ GE101.out) | exact HB.out)⟩⟩
                 ·rw [if_neg c20] at H
                  have c20b0 : ((rd (rd_L1 l0_1 x17_1) x26_2) == (-1)) = false := beq_eq_false_iff_ne.mpr c20
                  have c20b1 : ((rd (rd_L1 l0_1 x17_1) x26_2) != (-1)) = true := bne_iff_ne.mpr c20
                  by_cases c21 : 0 ≤ (rd (rd_L1 l0_1 x17_1) x26_2)
                  ·rw [if_pos c21] at H
                   have c21b0 : decide (0 ≤ (rd (rd_L1 l0_1 x17_1) x26_2)) = true := Dt_ c21
                   clear c21
                   by_cases c22 : (rd (rd_L1 l0_1 x17_1) x26_2) < (x3_2.length : Int)
                   ·rw [if_pos c22] at H
                    have c22b0 : decide ((rd (rd_L1 l0_1 x17_1) x26_2) < (x3_2.length : Int)) = true := Dt_ c22
                    clear c22
                    obtain ⟨y108, hy108⟩ : ∃ y_ : List Int, y_ = (x3_2.set ((rd (rd_L1 l0_1 x17_1) x26_2) : Int).toNat (wrap64 ((rd x3_2 (rd (rd_L1 l0_1 x17_1) x26_2)) + 1))) := ⟨_, rfl⟩
                    replace H : (handle_Right.l1 kj15 y108 l0_1 (l0_1.length : Int) x17_1 (rd_L1 l0_1 x17_1) ((rd_L1 l0_1 x17_1).length : Int) (wrap64 (x26_2 + 1)) l0_0 l0_1) = some r := by first | (rw [hy108]; with_reducible exact H) | (have H2_ := (Option.bind_some _ _).symm.trans H; rw [hy108]; with_reducible exact H2_) | (have H2_ := (Option.bind_some _ _).symm.trans H; with_reducible exact H2_) | with_reducible exact H | (rw [hy108]; exact H) | exact H
                    have Ny108 := Am_ hy108
                    clear hy108
                    have H' := Am_ H
                    clear H
                    obtain ⟨Ao24, co24, eo24⟩ := Kd.R_slice HO_3.out
                    subst eo24
                    have p107 : 0 ≤ ((rd (rd_L1 l0_1 x17_1) x26_2) : Int) := Ot_ (by first | (with_reducible assumption) | assumption)
                    have q107 : (rd (rd_L1 l0_1 x17_1) x26_2) < (x3_2.length : Int) := Ot_ (by first | (with_reducible assumption) | assumption)
                    obtain ⟨ad107, e107, hx107_0⟩ := Kd.at_int (Kd.R_reads' HO_3.out).2.2 (rd (rd_L1 l0_1 x17_1) x26_2) p107 q107
                    cases e107
                    replace p107 := eq_true p107
                    replace q107 := eq_true q107
                    have p23 : 0 ≤ ((rd (rd_L1 l0_1 x17_1) x26_2) : Int) := Ot_ (by first | (with_reducible assumption) | assumption)
                    have q23 : ((rd (rd_L1 l0_1 x17_1) x26_2) : Int) < ((x3_2.length : Int) : Int) := Ot_ (by first | (with_reducible assumption) | assumption)
                    obtain ⟨go23, co23, eo23, gb23, gl23, cl23, HG23⟩ := Kd.R_form HO_3.out (by omega)
                    (first | cases eo23 | (injection eo23 with ea_ en_ ec_; (first | subst ea_ | (injection ea_ with ea_; subst ea_)); subst ec_; clear en_))
                    have GB23 := Am_ gb23
                    have GG23 := Am_ HG23
                    clear gb23 gl23 HG23
                    (first | simp only [add_plain] at hx107_0 | skip)
                    obtain ⟨hx23_0, hf23_0⟩ := Kd.R_celln 0 HO_3.out ((rd (rd_L1 l0_1 x17_1) x26_2) : Int) p23 q23
                    replace p23 := eq_true p23
                    replace q23 := eq_true q23
                    have HP25 := Kd.R_putg HO_3.out ((rd (rd_L1 l0_1 x17_1) x26_2) : Int) (wrap64 ((rd x3_2 (rd (rd_L1 l0_1 x17_1) x26_2)) + 1))
                    go_wp2_with (first | ((with_reducible refine gate_store (t := 3) (p := 47) rfl ?_); (try (rw [drewN_self wc]; generalize hq_ : World.drewN wc _ = wc; have n0_ := Am_ (Kd.R_at hq_ HO_3.out); have n1_ := Am_ (blk_at hq_ BK101.out); have n2_ := Am_ (below_at hq_ HB.out); clear hq_ HO_3 BK101 HB; have HO_3 := n0_; have BK101 := n1_; have HB := n2_; clear n0_ n1_ n2_; (try (have HP25 := Kd.R_putg HO_3.out ((rd (rd_L1 l0_1 x17_1) x26_2) : Int) (wrap64 ((rd x3_2 (rd (rd_L1 l0_1 x17_1) x26_2)) + 1)))))); refine store_event (t := 3) (p := 47) (v := ?vo_w26) (w1 := (wc.setCell ⟨go23, ((rd (rd_L1 l0_1 x17_1) x26_2) : Int).toNat, none⟩ (.int .i64 (wrap64 ((rd x3_2 (rd (rd_L1 l0_1 x17_1) x26_2)) + 1))))) ?hg ?ho ?hn ?hr ?_; (case ho => rfl); (case hg => rfl); (case hn => rfl); (case hr => go_simp; try rfl); intro w26 hw; have hg : wc.grownBy w26 (some go23) := (by rw [hw]; exact HP25.2); have hp_ : Kd.R (Kd.int .i64) 3 w26 w.heap.size (fun _ => True) (.slice (some ⟨go23, 0, none⟩) x3_2.length co24) y108 := (by rw [hw, Ny108.out]; exact HP25.1); clear HP25; have n0_ := Am_ (hp_); have n1_ := Am_ (Bg_ (g := gb101) (o := .cells #[.slice A0_0 l0_0.length c0_0, .slice (some ad105) l0_1.length c0_1] 25 (0, 0)) (Pk_ BK101.out) hg (Kd.R_ne HO_3.out BK101.out (by decide))); have n2_ := Am_ ((by rw [hw]; exact Bs_ (HB.out) GB23.out : Below w.heap.size w w26)); clear HO_3; clear BK101; clear HB; have HO_3 := n0_; have BK101 := n1_; have HB := n2_; clear n0_ n1_ n2_; clear hg hw hp_))
                    repeat (go_quiet (first | ((with_reducible refine gate_store (t := 3) (p := 47) rfl ?_); (try (rw [drewN_self wc]; generalize hq_ : World.drewN wc _ = wc; have n0_ := Am_ (Kd.R_at hq_ HO_3.out); have n1_ := Am_ (blk_at hq_ BK101.out); have n2_ := Am_ (below_at hq_ HB.out); clear hq_ HO_3 BK101 HB; have HO_3 := n0_; have BK101 := n1_; have HB := n2_; clear n0_ n1_ n2_; (try (have HP25 := Kd.R_putg HO_3.out ((rd (rd_L1 l0_1 x17_1) x26_2) : Int) (wrap64 ((rd x3_2 (rd (rd_L1 l0_1 x17_1) x26_2)) + 1)))))); refine store_event (t := 3) (p := 47) (v := ?vo_w26) (w1 := (wc.setCell ⟨go23, ((rd (rd_L1 l0_1 x17_1) x26_2) : Int).toNat, none⟩ (.int .i64 (wrap64 ((rd x3_2 (rd (rd_L1 l0_1 x17_1) x26_2)) + 1))))) ?hg ?ho ?hn ?hr ?_; (case ho => rfl); (case hg => rfl); (case hn => rfl); (case hr => go_simp; try rfl); intro w26 hw; have hg : wc.grownBy w26 (some go23) := (by rw [hw]; exact HP25.2); have hp_ : Kd.R (Kd.int .i64) 3 w26 w.heap.size (fun _ => True) (.slice (some ⟨go23, 0, none⟩) x3_2.length co24) y108 := (by rw [hw, Ny108.out]; exact HP25.1); clear HP25; have n0_ := Am_ (hp_); have n1_ := Am_ (Bg_ (g := gb101) (o := .cells #[.slice A0_0 l0_0.length c0_0, .slice (some ad105) l0_1.length c0_1] 25 (0, 0)) (Pk_ BK101.out) hg (Kd.R_ne HO_3.out BK101.out (by decide))); have n2_ := Am_ ((by rw [hw]; exact Bs_ (HB.out) GB23.out : Below w.heap.size w w26)); clear HO_3; clear BK101; clear HB; have HO_3 := n0_; have BK101 := n1_; have HB := n2_; clear n0_ n1_ n2_; clear hg hw hp_)); try go_wp2_with (first | ((with_reducible refine gate_store (t := 3) (p := 47) rfl ?_); (try (rw [drewN_self wc]; generalize hq_ : World.drewN wc _ = wc; have n0_ := Am_ (Kd.R_at hq_ HO_3.out); have n1_ := Am_ (blk_at hq_ BK101.out); have n2_ := Am_ (below_at hq_ HB.out); clear hq_ HO_3 BK101 HB; have HO_3 := n0_; have BK101 := n1_; have HB := n2_; clear n0_ n1_ n2_; (try (have HP25 := Kd.R_putg HO_3.out ((rd (rd_L1 l0_1 x17_1) x26_2) : Int) (wrap64 ((rd x3_2 (rd (rd_L1 l0_1 x17_1) x26_2)) + 1)))))); refine store_event (t := 3) (p := 47) (v := ?vo_w26) (w1 := (wc.setCell ⟨go23, ((rd (rd_L1 l0_1 x17_1) x26_2) : Int).toNat, none⟩ (.int .i64 (wrap64 ((rd x3_2 (rd (rd_L1 l0_1 x17_1) x26_2)) + 1))))) ?hg ?ho ?hn ?hr ?_; (case ho => rfl); (case hg => rfl); (case hn => rfl); (case hr => go_simp; try rfl); intro w26 hw; have hg : wc.grownBy w26 (some go23) := (by rw [hw]; exact HP25.2); have hp_ : Kd.R (Kd.int .i64) 3 w26 w.heap.size (fun _ => True) (.slice (some ⟨go23, 0, none⟩) x3_2.length co24) y108 := (by rw [hw, Ny108.out]; exact HP25.1); clear HP25; have n0_ := Am_ (hp_); have n1_ := Am_ (Bg_ (g := gb101) (o := .cells #[.slice A0_0 l0_0.length c0_0, .slice (some ad105) l0_1.length c0_1] 25 (0, 0)) (Pk_ BK101.out) hg (Kd.R_ne HO_3.out BK101.out (by decide))); have n2_ := Am_ ((by rw [hw]; exact Bs_ (HB.out) GB23.out : Below w.heap.size w w26)); clear HO_3; clear BK101; clear HB; have HO_3 := n0_; have BK101 := n1_; have HB := n2_; clear n0_ n1_ n2_; clear hg hw hp_)))
                    go_roundg kj15
                    case measure => have := HK1.out; have := HK2.out; have := HJ15.out; omega
                    case rel => exact ⟨(y108), (wrap64 (x26_2 + 1)), (by first | rfl | (simp; done) | (simp [*]; done)), H', ⟨by have := HK1.out; have := HK2.out; have := HJ15.out; omega⟩, ⟨by (with_reducible repeat (first | apply Ra_ | apply Rn_ | apply Rd_)); exact HO_3.out⟩, ⟨by (with_reducible repeat (first | refine Bn_ ?_ _ | refine Bd_ ?_ | refine Ba_ ?_ _)); exact BK101.out⟩, ⟨by repeat (first | (with_reducible first | exact HB.out | apply Pa_ | apply Pn_ | apply Pd_ | refine Bs_ ?_ GE101.out) | exact HB.out)⟩⟩
                   ·rw [if_neg c22] at H
                    exact absurd H (by simp)
                  ·rw [if_neg c21] at H
                   exact absurd H (by simp)
             ·rw [if_neg c15] at H
              exact absurd H (by simp)
            ·rw [if_neg c14] at H
             exact absurd H (by simp)
           ·rw [if_neg c13] at H
            have c13b0 : decide (x26_2 < ((rd_L1 l0_1 x17_1).length : Int)) = false := Df_ c13
            clear c13
            have H' := Am_ H
            clear H
            go_wp2
            repeat (go_quiet (fail); try go_wp2)
            go_roundg k2
            case measure => have := HK1.out; have := HK2.out; omega
            case rel => exact ⟨(x3_2), (wrap64 (x17_1 + 1)), (by first | rfl | (simp; done) | (simp [*]; done)), H', ⟨by have := HK1.out; have := HK2.out; omega⟩, ⟨by (with_reducible repeat (first | apply Ra_ | apply Rn_ | apply Rd_)); exact HO_3.out⟩, ⟨by (with_reducible repeat (first | refine Bn_ ?_ _ | refine Bd_ ?_ | refine Ba_ ?_ _)); exact BK101.out⟩, ⟨by repeat (first | (with_reducible first | exact HB.out | apply Pa_ | apply Pn_ | apply Pd_ | refine Bs_ ?_ GE101.out) | exact HB.out)⟩⟩
        ·rw [if_neg c12] at H
         have c12b0 : (((rd_L1 l0_1 x17_1).length : Int) == 8) = false := beq_eq_false_iff_ne.mpr c12
         have c12b1 : (((rd_L1 l0_1 x17_1).length : Int) != 8) = true := bne_iff_ne.mpr c12
         obtain rfl := Option.some.inj H
         have p105 : 0 ≤ (x17_1 : Int) := Ot_ (by first | (with_reducible assumption) | assumption)
         have q105 : x17_1 < (l0_1.length : Int) := Ot_ (by first | (with_reducible assumption) | assumption)
         obtain ⟨ad105, A105_0, c105_0, e105, hx105_0, hl105_0, hi105_0⟩ := at_L1 HR0_1.out x17_1 p105 q105
         cases e105
         replace hx105_0 := (HB.out.cell (Bl_ w _ hx105_0)).trans hx105_0
         have HR105_0 := Am_ hi105_0
         have HC105_0 := Am_ hl105_0
         clear hi105_0 hl105_0
         replace p105 := eq_true p105
         replace q105 := eq_true q105
         go_wp2
         repeat (go_quiet (fail); try go_wp2)
         go_ret
         exact ⟨by first | rfl | (simp [errW_none, errW_some] <;> rfl) | (simp [*, errW_none, errW_some] <;> rfl), by repeat (first | (with_reducible first | exact HB.out | apply Pa_ | apply Pn_ | apply Pd_ | refine Bs_ ?_ GE101.out) | exact HB.out)⟩
       ·rw [if_neg c11] at H
        exact absurd H (by simp)
      ·rw [if_neg c10] at H
       exact absurd H (by simp)
     ·rw [if_neg c9] at H
      have c9b0 : decide (x17_1 < (l0_1.length : Int)) = false := Df_ c9
      clear c9
      have H' := Am_ H
      clear H
      obtain ⟨hcz27_0, hcz27_1, hfz27_0, hfz27_1⟩ := Ce2_ BK101.out
      go_wp2
      repeat (go_quiet (fail); try go_wp2)
      go_loopg [53] k1 (fun kq v53 w' => ∃ (x53_2 : Int), v53 = .int .i64 x53_2 ∧ Aside0 (handle_Right.l2 kq x3_1 l0_0 (l0_0.length : Int) x53_2 = some r) ∧ Aside0 (kq ≤ k1) ∧ Aside0 (Kd.R (Kd.int .i64) 3 w' w.heap.size (fun _ => True) v103 x3_1) ∧ Aside0 (w'.heap[gb101]? = some (.cells #[(.slice A0_0 l0_0.length c0_0), (.slice A0_1 l0_1.length c0_1)] 25 (0, 0))) ∧ Aside0 (Below w.heap.size w w'))
      case atStart => exact ⟨(0), (by first | rfl | (simp; done) | (simp [*]; done)), H', ⟨Nat.le_refl _⟩, ⟨by (with_reducible repeat (first | apply Ra_ | apply Rn_ | apply Rd_)); exact HO_3.out⟩, ⟨by (with_reducible repeat (first | refine Bn_ ?_ _ | refine Bd_ ?_ | refine Ba_ ?_ _)); exact BK101.out⟩, ⟨by repeat (first | (with_reducible first | exact HB.out | apply Pa_ | apply Pn_ | apply Pd_ | refine Bs_ ?_ GE101.out) | exact HB.out)⟩⟩
      case round =>
       clear H'
       try clear c1
       try clear p1
       try clear q1
       try clear hx1
       try clear c2
       try clear c2b0
       try clear c2b1
       try clear p2
       try clear q2
       try clear hx2
       try clear hf2
       try clear c3
       try clear c3b0
       try clear c3b1
       try clear p6
       try clear c9
       try clear c9b0
       try clear c10
       try clear c10b0
       try clear p10
       try clear q10
       try clear hx10
       try clear c11
       try clear c11b0
       try clear c12
       try clear c12b0
       try clear c12b1
       try clear c13
       try clear c13b0
       try clear c14
       try clear c14b0
       try clear c15
       try clear c15b0
       try clear c17
       try clear c17b0
       try clear c19
       try clear c20
       try clear c20b0
       try clear c20b1
       try clear c21
       try clear c21b0
       try clear c22
       try clear c22b0
       try clear p23
       try clear q23
       try clear hx23
       try clear hf23
       try clear hcz27_0
       try clear hcz27_1
       try clear hcz5_0
       try clear hcz5_1
       try clear hcz8_0
       try clear hcz8_1
       try clear hfz27_0
       try clear hfz27_1
       try clear hfz5_0
       try clear hfz5_1
       try clear hfz8_0
       try clear hfz8_1
       try clear hx105_0
       try clear hx106_0
       try clear hx107_0
       try clear hx23_0
       try clear p1
       try clear p10
       try clear p105
       try clear p106
       try clear p107
       try clear p2
       try clear p23
       try clear q1
       try clear q10
       try clear q105
       try clear q106
       try clear q107
       try clear q23
       obtain ⟨x53_2, rfl, HA, HK2, HO_3, BK101, HB⟩ := hrel
       cases gk with
       | zero => exact absurd HA.out (by simp [handle_Right.l2])
       | succ k2 =>
        have H := HA.out
        clear HA
        simp only [handle_Right.l2] at H
        by_cases c28 : x53_2 < (l0_0.length : Int)
        ·rw [if_pos c28] at H
         have c28b0 : decide (x53_2 < (l0_0.length : Int)) = true := Dt_ c28
         clear c28
         by_cases c29 : 0 ≤ x53_2
         ·rw [if_pos c29] at H
          have c29b0 : decide (0 ≤ x53_2) = true := Dt_ c29
          clear c29
          by_cases c30 : x53_2 < (l0_0.length : Int)
          ·rw [if_pos c30] at H
           have c30b0 : decide (x53_2 < (l0_0.length : Int)) = true := Dt_ c30
           clear c30
           by_cases c31 : x53_2 < (x3_1.length : Int)
           ·rw [if_pos c31] at H
            have c31b0 : decide (x53_2 < (x3_1.length : Int)) = true := Dt_ c31
            clear c31
            by_cases c32 : ((rd_T38 l0_0 x53_2).f4) = (rd x3_1 x53_2)
            ·rw [if_pos c32] at H
             have c32b0 : (((rd_T38 l0_0 x53_2).f4) == (rd x3_1 x53_2)) = true := beq_iff_eq.mpr c32
             have c32b1 : (((rd_T38 l0_0 x53_2).f4) != (rd x3_1 x53_2)) = false := bne_eq_false_iff_eq.mpr c32
             clear c32
             by_cases c33 : ((rd_T38 l0_0 x53_2).f4) = 0
             case' neg =>
              rw [if_neg c33] at H
              have c33b0 : (((rd_T38 l0_0 x53_2).f4) == 0) = false := beq_eq_false_iff_ne.mpr c33
              have c33b1 : (((rd_T38 l0_0 x53_2).f4) != 0) = true := bne_iff_ne.mpr c33
              have H' := Am_ H
              clear H
             case' pos =>
              rw [if_pos c33] at H
              have c33b0 : (((rd_T38 l0_0 x53_2).f4) == 0) = true := beq_iff_eq.mpr c33
              have c33b1 : (((rd_T38 l0_0 x53_2).f4) != 0) = false := bne_eq_false_iff_eq.mpr c33
              clear c33
              by_cases c34 : (!(((rd_T38 l0_0 x53_2).f0) == 0) || (!(((rd_T38 l0_0 x53_2).f1) == 0) || (((rd_T38 l0_0 x53_2).f2) || (((rd_T38 l0_0 x53_2).f3) || (!(((rd_T38 l0_0 x53_2).f4) == 0) || (!(((rd_T38 l0_0 x53_2).f5) == 0))))))) = true
              case' neg =>
                rw [if_neg c34] at H
                have c34b0 : (!(((rd_T38 l0_0 x53_2).f0) == 0) || (!(((rd_T38 l0_0 x53_2).f1) == 0) || (((rd_T38 l0_0 x53_2).f2) || (((rd_T38 l0_0 x53_2).f3) || (!(((rd_T38 l0_0 x53_2).f4) == 0) || (!(((rd_T38 l0_0 x53_2).f5) == 0))))))) = false := by simpa using c34
                have c34b9 := c34b0; simp only [c33b0, Bool.not_true, Bool.false_or] at c34b9
                clear c34
                have H' := Am_ H
                clear H
              case' pos =>
                rw [if_pos c34] at H
                have c34b0 : (!(((rd_T38 l0_0 x53_2).f0) == 0) || (!(((rd_T38 l0_0 x53_2).f1) == 0) || (((rd_T38 l0_0 x53_2).f2) || (((rd_T38 l0_0 x53_2).f3) || (!(((rd_T38 l0_0 x53_2).f4) == 0) || (!(((rd_T38 l0_0 x53_2).f5) == 0))))))) = true := c34
                have c34b9 := c34b0; simp only [c33b0, Bool.not_true, Bool.false_or] at c34b9
                clear c34
                obtain rfl := Option.some.inj H
             all_goals
              have p109 : 0 ≤ (x53_2 : Int) := Ot_ (by first | (with_reducible assumption) | assumption)
              have q109 : x53_2 < (l0_0.length : Int) := Ot_ (by first | (with_reducible assumption) | assumption)
              obtain ⟨ad109, e109, hx109_0, hx109_1, hx109_2, hx109_3, hx109_4, hx109_5⟩ := at_T38 HR0_0.out x53_2 p109 q109
              cases e109
              replace hx109_0 := (HB.out.cell (Bl_ w _ hx109_0)).trans hx109_0
              replace hx109_1 := (HB.out.cell (Bl_ w _ hx109_1)).trans hx109_1
              replace hx109_2 := (HB.out.cell (Bl_ w _ hx109_2)).trans hx109_2
              replace hx109_3 := (HB.out.cell (Bl_ w _ hx109_3)).trans hx109_3
              replace hx109_4 := (HB.out.cell (Bl_ w _ hx109_4)).trans hx109_4
              replace hx109_5 := (HB.out.cell (Bl_ w _ hx109_5)).trans hx109_5
              replace p109 := eq_true p109
              replace q109 := eq_true q109
              go_wp2_with (first | ((with_reducible refine gate_dst (N := 9) rfl ?_); (try (refine gate_guard (by rfl) ?_; dsimp only)); refine box_event ?hg (N := 9) ?hd (cs := #[.int .i64 0, .int .i64 0, .bool false, .bool false, .int .i64 0, .int .i64 0]) (t := 38) ?hr ?_; (case hd => rfl); (case hg => rfl); (case hr => go_simp; try rfl); intro gb110 hg w35 hbox hb; have n0_ := Am_ (Rb_ (Px_ HO_3.out) hb); have n1_ := Am_ (Bb_ (g := gb101) (o := .cells #[.slice (some ad109) l0_0.length c0_0, .slice A0_1 l0_1.length c0_1] 25 (0, 0)) (Pk_ BK101.out) hb); have n2_ := Am_ (Be_ (Pb1_ HB.out GE101.out) hb); have n3_ := Am_ (hbox); have n4_ := Am_ ((by rw [hg]; exact (Bz_ (Pb1_ HB.out GE101.out)) : w.heap.size ≤ gb110)); have n5_ := Am_ ((by rw [hg]; exact (Bz_ (Pb1_ HB.out GE101.out)) : w.heap.size ≤ gb110)); have n6_ := Am_ ((by rw [hg]; exact Nat.ne_of_lt (blk_lt (g := gb101) (o := .cells #[.slice (some ad109) l0_0.length c0_0, .slice A0_1 l0_1.length c0_1] 25 (0, 0)) (Pk_ BK101.out)) : gb101 ≠ gb110)); have n7_ := Am_ ((by rw [hg]; exact Nat.ne_of_gt (blk_lt (g := gb101) (o := .cells #[.slice (some ad109) l0_0.length c0_0, .slice A0_1 l0_1.length c0_1] 25 (0, 0)) (Pk_ BK101.out)) : gb110 ≠ gb101)); clear HO_3; clear BK101; clear HB; have HO_3 := n0_; have BK101 := n1_; have HB := n2_; have BK110 := n3_; have GW110 := n4_; have GE110 := n5_; have NB101_110 := n6_; have NB110_101 := n7_; clear n0_ n1_ n2_ n3_ n4_ n5_ n6_ n7_; clear hb hbox hg; have hnb36 := NB110_101.out; have hnc36 := NB101_110.out; obtain ⟨hcz37_0, hcz37_1, hcz37_2, hcz37_3, hcz37_4, hcz37_5, hfz37_0, hfz37_1, hfz37_2, hfz37_3, hfz37_4, hfz37_5⟩ := Ce6_ BK110.out; obtain ⟨Ao38, co38, eo38⟩ := Kd.R_slice HO_3.out; subst eo38; have p111 : 0 ≤ (x53_2 : Int) := Ot_ (by first | (with_reducible assumption) | assumption); have q111 : x53_2 < (x3_1.length : Int) := Ot_ (by first | (with_reducible assumption) | assumption); obtain ⟨ad111, e111, hx111_0⟩ := Kd.at_int (Kd.R_reads' HO_3.out).2.2 x53_2 p111 q111; cases e111; have hn111_0 : ad111.block ≠ gb110 := Kd.own_blk (Kd.R_ne HO_3.out BK110.out (by decide)); have hn111_1 : ad111.block ≠ gb110 := Kd.own_blk (Kd.R_ne HO_3.out BK110.out (by decide)); have hn111_2 : ad111.block ≠ gb110 := Kd.own_blk (Kd.R_ne HO_3.out BK110.out (by decide)); have hn111_3 : ad111.block ≠ gb110 := Kd.own_blk (Kd.R_ne HO_3.out BK110.out (by decide)); have hn111_4 : ad111.block ≠ gb110 := Kd.own_blk (Kd.R_ne HO_3.out BK110.out (by decide)); have hn111_5 : ad111.block ≠ gb110 := Kd.own_blk (Kd.R_ne HO_3.out BK110.out (by decide)); replace hx111_0 := (Cf_ (p := ⟨gb110, 0, none⟩) (by first | (rw [Ab_]; exact hn111_0) | (show (Addr.add _ _).block ≠ _; rw [Ab_]; exact hn111_0) | exact hn111_0) (.int .i64 ((rd_T38 l0_0 x53_2).f0))).trans hx111_0; replace hx111_0 := (Cf_ (p := ⟨gb110, 1, none⟩) (by first | (rw [Ab_]; exact hn111_1) | (show (Addr.add _ _).block ≠ _; rw [Ab_]; exact hn111_1) | exact hn111_1) (.int .i64 ((rd_T38 l0_0 x53_2).f1))).trans hx111_0; replace hx111_0 := (Cf_ (p := ⟨gb110, 2, none⟩) (by first | (rw [Ab_]; exact hn111_2) | (show (Addr.add _ _).block ≠ _; rw [Ab_]; exact hn111_2) | exact hn111_2) (.bool ((rd_T38 l0_0 x53_2).f2))).trans hx111_0; replace hx111_0 := (Cf_ (p := ⟨gb110, 3, none⟩) (by first | (rw [Ab_]; exact hn111_3) | (show (Addr.add _ _).block ≠ _; rw [Ab_]; exact hn111_3) | exact hn111_3) (.bool ((rd_T38 l0_0 x53_2).f3))).trans hx111_0; replace hx111_0 := (Cf_ (p := ⟨gb110, 4, none⟩) (by first | (rw [Ab_]; exact hn111_4) | (show (Addr.add _ _).block ≠ _; rw [Ab_]; exact hn111_4) | exact hn111_4) (.int .i64 ((rd_T38 l0_0 x53_2).f4))).trans hx111_0; replace hx111_0 := (Cf_ (p := ⟨gb110, 5, none⟩) (by first | (rw [Ab_]; exact hn111_5) | (show (Addr.add _ _).block ≠ _; rw [Ab_]; exact hn111_5) | exact hn111_5) (.int .i64 ((rd_T38 l0_0 x53_2).f5))).trans hx111_0; (try have hy111_0 := fun (n_ : Nat) => (drawn_chain n_ (W2 := (((((((w35.drewN n_).setCell ⟨gb110, 0, none⟩ (.int .i64 ((rd_T38 l0_0 x53_2).f0))).setCell ⟨gb110, 1, none⟩ (.int .i64 ((rd_T38 l0_0 x53_2).f1))).setCell ⟨gb110, 2, none⟩ (.bool ((rd_T38 l0_0 x53_2).f2))).setCell ⟨gb110, 3, none⟩ (.bool ((rd_T38 l0_0 x53_2).f3))).setCell ⟨gb110, 4, none⟩ (.int .i64 ((rd_T38 l0_0 x53_2).f4))).setCell ⟨gb110, 5, none⟩ (.int .i64 ((rd_T38 l0_0 x53_2).f5)))) (by simp only [drawn_set]) hx111_0)); clear hn111_0; clear hn111_1; clear hn111_2; clear hn111_3; clear hn111_4; clear hn111_5; replace p111 := eq_true p111; replace q111 := eq_true q111))
              repeat (go_quiet (first | ((with_reducible refine gate_dst (N := 9) rfl ?_); (try (refine gate_guard (by rfl) ?_; dsimp only)); refine box_event ?hg (N := 9) ?hd (cs := #[.int .i64 0, .int .i64 0, .bool false, .bool false, .int .i64 0, .int .i64 0]) (t := 38) ?hr ?_; (case hd => rfl); (case hg => rfl); (case hr => go_simp; try rfl); intro gb110 hg w35 hbox hb; have n0_ := Am_ (Rb_ (Px_ HO_3.out) hb); have n1_ := Am_ (Bb_ (g := gb101) (o := .cells #[.slice (some ad109) l0_0.length c0_0, .slice A0_1 l0_1.length c0_1] 25 (0, 0)) (Pk_ BK101.out) hb); have n2_ := Am_ (Be_ (Pb1_ HB.out GE101.out) hb); have n3_ := Am_ (hbox); have n4_ := Am_ ((by rw [hg]; exact (Bz_ (Pb1_ HB.out GE101.out)) : w.heap.size ≤ gb110)); have n5_ := Am_ ((by rw [hg]; exact (Bz_ (Pb1_ HB.out GE101.out)) : w.heap.size ≤ gb110)); have n6_ := Am_ ((by rw [hg]; exact Nat.ne_of_lt (blk_lt (g := gb101) (o := .cells #[.slice (some ad109) l0_0.length c0_0, .slice A0_1 l0_1.length c0_1] 25 (0, 0)) (Pk_ BK101.out)) : gb101 ≠ gb110)); have n7_ := Am_ ((by rw [hg]; exact Nat.ne_of_gt (blk_lt (g := gb101) (o := .cells #[.slice (some ad109) l0_0.length c0_0, .slice A0_1 l0_1.length c0_1] 25 (0, 0)) (Pk_ BK101.out)) : gb110 ≠ gb101)); clear HO_3; clear BK101; clear HB; have HO_3 := n0_; have BK101 := n1_; have HB := n2_; have BK110 := n3_; have GW110 := n4_; have GE110 := n5_; have NB101_110 := n6_; have NB110_101 := n7_; clear n0_ n1_ n2_ n3_ n4_ n5_ n6_ n7_; clear hb hbox hg; have hnb36 := NB110_101.out; have hnc36 := NB101_110.out; obtain ⟨hcz37_0, hcz37_1, hcz37_2, hcz37_3, hcz37_4, hcz37_5, hfz37_0, hfz37_1, hfz37_2, hfz37_3, hfz37_4, hfz37_5⟩ := Ce6_ BK110.out; obtain ⟨Ao38, co38, eo38⟩ := Kd.R_slice HO_3.out; subst eo38; have p111 : 0 ≤ (x53_2 : Int) := Ot_ (by first | (with_reducible assumption) | assumption); have q111 : x53_2 < (x3_1.length : Int) := Ot_ (by first | (with_reducible assumption) | assumption); obtain ⟨ad111, e111, hx111_0⟩ := Kd.at_int (Kd.R_reads' HO_3.out).2.2 x53_2 p111 q111; cases e111; have hn111_0 : ad111.block ≠ gb110 := Kd.own_blk (Kd.R_ne HO_3.out BK110.out (by decide)); have hn111_1 : ad111.block ≠ gb110 := Kd.own_blk (Kd.R_ne HO_3.out BK110.out (by decide)); have hn111_2 : ad111.block ≠ gb110 := Kd.own_blk (Kd.R_ne HO_3.out BK110.out (by decide)); have hn111_3 : ad111.block ≠ gb110 := Kd.own_blk (Kd.R_ne HO_3.out BK110.out (by decide)); have hn111_4 : ad111.block ≠ gb110 := Kd.own_blk (Kd.R_ne HO_3.out BK110.out (by decide)); have hn111_5 : ad111.block ≠ gb110 := Kd.own_blk (Kd.R_ne HO_3.out BK110.out (by decide)); replace hx111_0 := (Cf_ (p := ⟨gb110, 0, none⟩) (by first | (rw [Ab_]; exact hn111_0) | (show (Addr.add _ _).block ≠ _; rw [Ab_]; exact hn111_0) | exact hn111_0) (.int .i64 ((rd_T38 l0_0 x53_2).f0))).trans hx111_0; replace hx111_0 := (Cf_ (p := ⟨gb110, 1, none⟩) (by first | (rw [Ab_]; exact hn111_1) | (show (Addr.add _ _).block ≠ _; rw [Ab_]; exact hn111_1) | exact hn111_1) (.int .i64 ((rd_T38 l0_0 x53_2).f1))).trans hx111_0; replace hx111_0 := (Cf_ (p := ⟨gb110, 2, none⟩) (by first | (rw [Ab_]; exact hn111_2) | (show (Addr.add _ _).block ≠ _; rw [Ab_]; exact hn111_2) | exact hn111_2) (.bool ((rd_T38 l0_0 x53_2).f2))).trans hx111_0; replace hx111_0 := (Cf_ (p := ⟨gb110, 3, none⟩) (by first | (rw [Ab_]; exact hn111_3) | (show (Addr.add _ _).block ≠ _; rw [Ab_]; exact hn111_3) | exact hn111_3) (.bool ((rd_T38 l0_0 x53_2).f3))).trans hx111_0; replace hx111_0 := (Cf_ (p := ⟨gb110, 4, none⟩) (by first | (rw [Ab_]; exact hn111_4) | (show (Addr.add _ _).block ≠ _; rw [Ab_]; exact hn111_4) | exact hn111_4) (.int .i64 ((rd_T38 l0_0 x53_2).f4))).trans hx111_0; replace hx111_0 := (Cf_ (p := ⟨gb110, 5, none⟩) (by first | (rw [Ab_]; exact hn111_5) | (show (Addr.add _ _).block ≠ _; rw [Ab_]; exact hn111_5) | exact hn111_5) (.int .i64 ((rd_T38 l0_0 x53_2).f5))).trans hx111_0; (try have hy111_0 := fun (n_ : Nat) => (drawn_chain n_ (W2 := (((((((w35.drewN n_).setCell ⟨gb110, 0, none⟩ (.int .i64 ((rd_T38 l0_0 x53_2).f0))).setCell ⟨gb110, 1, none⟩ (.int .i64 ((rd_T38 l0_0 x53_2).f1))).setCell ⟨gb110, 2, none⟩ (.bool ((rd_T38 l0_0 x53_2).f2))).setCell ⟨gb110, 3, none⟩ (.bool ((rd_T38 l0_0 x53_2).f3))).setCell ⟨gb110, 4, none⟩ (.int .i64 ((rd_T38 l0_0 x53_2).f4))).setCell ⟨gb110, 5, none⟩ (.int .i64 ((rd_T38 l0_0 x53_2).f5)))) (by simp only [drawn_set]) hx111_0)); clear hn111_0; clear hn111_1; clear hn111_2; clear hn111_3; clear hn111_4; clear hn111_5; replace p111 := eq_true p111; replace q111 := eq_true q111)); try go_wp2_with (first | ((with_reducible refine gate_dst (N := 9) rfl ?_); (try (refine gate_guard (by rfl) ?_; dsimp only)); refine box_event ?hg (N := 9) ?hd (cs := #[.int .i64 0, .int .i64 0, .bool false, .bool false, .int .i64 0, .int .i64 0]) (t := 38) ?hr ?_; (case hd => rfl); (case hg => rfl); (case hr => go_simp; try rfl); intro gb110 hg w35 hbox hb; have n0_ := Am_ (Rb_ (Px_ HO_3.out) hb); have n1_ := Am_ (Bb_ (g := gb101) (o := .cells #[.slice (some ad109) l0_0.length c0_0, .slice A0_1 l0_1.length c0_1] 25 (0, 0)) (Pk_ BK101.out) hb); have n2_ := Am_ (Be_ (Pb1_ HB.out GE101.out) hb); have n3_ := Am_ (hbox); have n4_ := Am_ ((by rw [hg]; exact (Bz_ (Pb1_ HB.out GE101.out)) : w.heap.size ≤ gb110)); have n5_ := Am_ ((by rw [hg]; exact (Bz_ (Pb1_ HB.out GE101.out)) : w.heap.size ≤ gb110)); have n6_ := Am_ ((by rw [hg]; exact Nat.ne_of_lt (blk_lt (g := gb101) (o := .cells #[.slice (some ad109) l0_0.length c0_0, .slice A0_1 l0_1.length c0_1] 25 (0, 0)) (Pk_ BK101.out)) : gb101 ≠ gb110)); have n7_ := Am_ ((by rw [hg]; exact Nat.ne_of_gt (blk_lt (g := gb101) (o := .cells #[.slice (some ad109) l0_0.length c0_0, .slice A0_1 l0_1.length c0_1] 25 (0, 0)) (Pk_ BK101.out)) : gb110 ≠ gb101)); clear HO_3; clear BK101; clear HB; have HO_3 := n0_; have BK101 := n1_; have HB := n2_; have BK110 := n3_; have GW110 := n4_; have GE110 := n5_; have NB101_110 := n6_; have NB110_101 := n7_; clear n0_ n1_ n2_ n3_ n4_ n5_ n6_ n7_; clear hb hbox hg; have hnb36 := NB110_101.out; have hnc36 := NB101_110.out; obtain ⟨hcz37_0, hcz37_1, hcz37_2, hcz37_3, hcz37_4, hcz37_5, hfz37_0, hfz37_1, hfz37_2, hfz37_3, hfz37_4, hfz37_5⟩ := Ce6_ BK110.out; obtain ⟨Ao38, co38, eo38⟩ := Kd.R_slice HO_3.out; subst eo38; have p111 : 0 ≤ (x53_2 : Int) := Ot_ (by first | (with_reducible assumption) | assumption); have q111 : x53_2 < (x3_1.length : Int) := Ot_ (by first | (with_reducible assumption) | assumption); obtain ⟨ad111, e111, hx111_0⟩ := Kd.at_int (Kd.R_reads' HO_3.out).2.2 x53_2 p111 q111; cases e111; have hn111_0 : ad111.block ≠ gb110 := Kd.own_blk (Kd.R_ne HO_3.out BK110.out (by decide)); have hn111_1 : ad111.block ≠ gb110 := Kd.own_blk (Kd.R_ne HO_3.out BK110.out (by decide)); have hn111_2 : ad111.block ≠ gb110 := Kd.own_blk (Kd.R_ne HO_3.out BK110.out (by decide)); have hn111_3 : ad111.block ≠ gb110 := Kd.own_blk (Kd.R_ne HO_3.out BK110.out (by decide)); have hn111_4 : ad111.block ≠ gb110 := Kd.own_blk (Kd.R_ne HO_3.out BK110.out (by decide)); have hn111_5 : ad111.block ≠ gb110 := Kd.own_blk (Kd.R_ne HO_3.out BK110.out (by decide)); replace hx111_0 := (Cf_ (p := ⟨gb110, 0, none⟩) (by first | (rw [Ab_]; exact hn111_0) | (show (Addr.add _ _).block ≠ _; rw [Ab_]; exact hn111_0) | exact hn111_0) (.int .i64 ((rd_T38 l0_0 x53_2).f0))).trans hx111_0; replace hx111_0 := (Cf_ (p := ⟨gb110, 1, none⟩) (by first | (rw [Ab_]; exact hn111_1) | (show (Addr.add _ _).block ≠ _; rw [Ab_]; exact hn111_1) | exact hn111_1) (.int .i64 ((rd_T38 l0_0 x53_2).f1))).trans hx111_0; replace hx111_0 := (Cf_ (p := ⟨gb110, 2, none⟩) (by first | (rw [Ab_]; exact hn111_2) | (show (Addr.add _ _).block ≠ _; rw [Ab_]; exact hn111_2) | exact hn111_2) (.bool ((rd_T38 l0_0 x53_2).f2))).trans hx111_0; replace hx111_0 := (Cf_ (p := ⟨gb110, 3, none⟩) (by first | (rw [Ab_]; exact hn111_3) | (show (Addr.add _ _).block ≠ _; rw [Ab_]; exact hn111_3) | exact hn111_3) (.bool ((rd_T38 l0_0 x53_2).f3))).trans hx111_0; replace hx111_0 := (Cf_ (p := ⟨gb110, 4, none⟩) (by first | (rw [Ab_]; exact hn111_4) | (show (Addr.add _ _).block ≠ _; rw [Ab_]; exact hn111_4) | exact hn111_4) (.int .i64 ((rd_T38 l0_0 x53_2).f4))).trans hx111_0; replace hx111_0 := (Cf_ (p := ⟨gb110, 5, none⟩) (by first | (rw [Ab_]; exact hn111_5) | (show (Addr.add _ _).block ≠ _; rw [Ab_]; exact hn111_5) | exact hn111_5) (.int .i64 ((rd_T38 l0_0 x53_2).f5))).trans hx111_0; (try have hy111_0 := fun (n_ : Nat) => (drawn_chain n_ (W2 := (((((((w35.drewN n_).setCell ⟨gb110, 0, none⟩ (.int .i64 ((rd_T38 l0_0 x53_2).f0))).setCell ⟨gb110, 1, none⟩ (.int .i64 ((rd_T38 l0_0 x53_2).f1))).setCell ⟨gb110, 2, none⟩ (.bool ((rd_T38 l0_0 x53_2).f2))).setCell ⟨gb110, 3, none⟩ (.bool ((rd_T38 l0_0 x53_2).f3))).setCell ⟨gb110, 4, none⟩ (.int .i64 ((rd_T38 l0_0 x53_2).f4))).setCell ⟨gb110, 5, none⟩ (.int .i64 ((rd_T38 l0_0 x53_2).f5)))) (by simp only [drawn_set]) hx111_0)); clear hn111_0; clear hn111_1; clear hn111_2; clear hn111_3; clear hn111_4; clear hn111_5; replace p111 := eq_true p111; replace q111 := eq_true q111)))
             ·go_ret
              exact ⟨by first | rfl | (simp [errW_none, errW_some] <;> rfl) | (simp [*, errW_none, errW_some] <;> rfl), by repeat (first | (with_reducible first | exact HB.out | apply Pa_ | apply Pn_ | apply Pd_ | refine Bs_ ?_ GE101.out | refine Bs_ ?_ GE110.out) | exact HB.out)⟩
             ·go_roundg k2
              case measure => have := HK1.out; have := HK2.out; omega
              case rel => exact ⟨(wrap64 (x53_2 + 1)), (by first | rfl | (simp; done) | (simp [*]; done)), H', ⟨by have := HK1.out; have := HK2.out; omega⟩, ⟨by (with_reducible repeat (first | apply Ra_ | apply Rn_ | apply Rd_)); exact Kd.R_mono (Kd.R_far (p := ⟨gb110, 5, none⟩) (Kd.R_far (p := ⟨gb110, 4, none⟩) (Kd.R_far (p := ⟨gb110, 3, none⟩) (Kd.R_far (p := ⟨gb110, 2, none⟩) (Kd.R_far (p := ⟨gb110, 1, none⟩) (Kd.R_far (p := ⟨gb110, 0, none⟩) (Kd.R_types HO_3.out BK110.out (by decide)) (fun _ hk => hk.2) (.int .i64 ((rd_T38 l0_0 x53_2).f0))) (fun _ hk => hk.2) (.int .i64 ((rd_T38 l0_0 x53_2).f1))) (fun _ hk => hk.2) (.bool ((rd_T38 l0_0 x53_2).f2))) (fun _ hk => hk.2) (.bool ((rd_T38 l0_0 x53_2).f3))) (fun _ hk => hk.2) (.int .i64 ((rd_T38 l0_0 x53_2).f4))) (fun _ hk => hk.2) (.int .i64 ((rd_T38 l0_0 x53_2).f5))) (fun _ hk => trivial)⟩, ⟨by (with_reducible repeat (first | refine Bn_ ?_ _ | refine Bd_ ?_ | refine Ba_ ?_ _)); refine blk_far ?_ NB101_110.out _; (with_reducible repeat (first | refine Bn_ ?_ _ | refine Bd_ ?_ | refine Ba_ ?_ _)); refine blk_far ?_ NB101_110.out _; (with_reducible repeat (first | refine Bn_ ?_ _ | refine Bd_ ?_ | refine Ba_ ?_ _)); refine blk_far ?_ NB101_110.out _; (with_reducible repeat (first | refine Bn_ ?_ _ | refine Bd_ ?_ | refine Ba_ ?_ _)); refine blk_far ?_ NB101_110.out _; (with_reducible repeat (first | refine Bn_ ?_ _ | refine Bd_ ?_ | refine Ba_ ?_ _)); refine blk_far ?_ NB101_110.out _; (with_reducible repeat (first | refine Bn_ ?_ _ | refine Bd_ ?_ | refine Ba_ ?_ _)); refine blk_far ?_ NB101_110.out _; (with_reducible repeat (first | refine Bn_ ?_ _ | refine Bd_ ?_ | refine Ba_ ?_ _)); exact BK101.out⟩, ⟨by repeat (first | (with_reducible first | exact HB.out | apply Pa_ | apply Pn_ | apply Pd_ | refine Bs_ ?_ GE101.out | refine Bs_ ?_ GE110.out) | exact HB.out)⟩⟩
             ·go_roundg k2
              case measure => have := HK1.out; have := HK2.out; omega
              case rel => exact ⟨(wrap64 (x53_2 + 1)), (by first | rfl | (simp; done) | (simp [*]; done)), H', ⟨by have := HK1.out; have := HK2.out; omega⟩, ⟨by (with_reducible repeat (first | apply Ra_ | apply Rn_ | apply Rd_)); exact Kd.R_mono (Kd.R_far (p := ⟨gb110, 5, none⟩) (Kd.R_far (p := ⟨gb110, 4, none⟩) (Kd.R_far (p := ⟨gb110, 3, none⟩) (Kd.R_far (p := ⟨gb110, 2, none⟩) (Kd.R_far (p := ⟨gb110, 1, none⟩) (Kd.R_far (p := ⟨gb110, 0, none⟩) (Kd.R_types HO_3.out BK110.out (by decide)) (fun _ hk => hk.2) (.int .i64 ((rd_T38 l0_0 x53_2).f0))) (fun _ hk => hk.2) (.int .i64 ((rd_T38 l0_0 x53_2).f1))) (fun _ hk => hk.2) (.bool ((rd_T38 l0_0 x53_2).f2))) (fun _ hk => hk.2) (.bool ((rd_T38 l0_0 x53_2).f3))) (fun _ hk => hk.2) (.int .i64 ((rd_T38 l0_0 x53_2).f4))) (fun _ hk => hk.2) (.int .i64 ((rd_T38 l0_0 x53_2).f5))) (fun _ hk => trivial)⟩, ⟨by (with_reducible repeat (first | refine Bn_ ?_ _ | refine Bd_ ?_ | refine Ba_ ?_ _)); refine blk_far ?_ NB101_110.out _; (with_reducible repeat (first | refine Bn_ ?_ _ | refine Bd_ ?_ | refine Ba_ ?_ _)); refine blk_far ?_ NB101_110.out _; (with_reducible repeat (first | refine Bn_ ?_ _ | refine Bd_ ?_ | refine Ba_ ?_ _)); refine blk_far ?_ NB101_110.out _; (with_reducible repeat (first | refine Bn_ ?_ _ | refine Bd_ ?_ | refine Ba_ ?_ _)); refine blk_far ?_ NB101_110.out _; (with_reducible repeat (first | refine Bn_ ?_ _ | refine Bd_ ?_ | refine Ba_ ?_ _)); refine blk_far ?_ NB101_110.out _; (with_reducible repeat (first | refine Bn_ ?_ _ | refine Bd_ ?_ | refine Ba_ ?_ _)); refine blk_far ?_ NB101_110.out _; (with_reducible repeat (first | refine Bn_ ?_ _ | refine Bd_ ?_ | refine Ba_ ?_ _)); exact BK101.out⟩, ⟨by repeat (first | (with_reducible first | exact HB.out | apply Pa_ | apply Pn_ | apply Pd_ | refine Bs_ ?_ GE101.out | refine Bs_ ?_ GE110.out) | exact HB.out)⟩⟩
            ·rw [if_neg c32] at H
             have c32b0 : (((rd_T38 l0_0 x53_2).f4) == (rd x3_1 x53_2)) = false := beq_eq_false_iff_ne.mpr c32
             have c32b1 : (((rd_T38 l0_0 x53_2).f4) != (rd x3_1 x53_2)) = true := bne_iff_ne.mpr c32
             obtain rfl := Option.some.inj H
             have p109 : 0 ≤ (x53_2 : Int) := Ot_ (by first | (with_reducible assumption) | assumption)
             have q109 : x53_2 < (l0_0.length : Int) := Ot_ (by first | (with_reducible assumption) | assumption)
             obtain ⟨ad109, e109, hx109_0, hx109_1, hx109_2, hx109_3, hx109_4, hx109_5⟩ := at_T38 HR0_0.out x53_2 p109 q109
             cases e109
             replace hx109_0 := (HB.out.cell (Bl_ w _ hx109_0)).trans hx109_0
             replace hx109_1 := (HB.out.cell (Bl_ w _ hx109_1)).trans hx109_1
             replace hx109_2 := (HB.out.cell (Bl_ w _ hx109_2)).trans hx109_2
             replace hx109_3 := (HB.out.cell (Bl_ w _ hx109_3)).trans hx109_3
             replace hx109_4 := (HB.out.cell (Bl_ w _ hx109_4)).trans hx109_4
             replace hx109_5 := (HB.out.cell (Bl_ w _ hx109_5)).trans hx109_5
             replace p109 := eq_true p109
             replace q109 := eq_true q109
             go_wp2_with (first | ((with_reducible refine gate_dst (N := 9) rfl ?_); (try (refine gate_guard (by rfl) ?_; dsimp only)); refine box_event ?hg (N := 9) ?hd (cs := #[.int .i64 0, .int .i64 0, .bool false, .bool false, .int .i64 0, .int .i64 0]) (t := 38) ?hr ?_; (case hd => rfl); (case hg => rfl); (case hr => go_simp; try rfl); intro gb110 hg w47 hbox hb; have n0_ := Am_ (Rb_ (Px_ HO_3.out) hb); have n1_ := Am_ (Bb_ (g := gb101) (o := .cells #[.slice (some ad109) l0_0.length c0_0, .slice A0_1 l0_1.length c0_1] 25 (0, 0)) (Pk_ BK101.out) hb); have n2_ := Am_ (Be_ (Pb1_ HB.out GE101.out) hb); have n3_ := Am_ (hbox); have n4_ := Am_ ((by rw [hg]; exact (Bz_ (Pb1_ HB.out GE101.out)) : w.heap.size ≤ gb110)); have n5_ := Am_ ((by rw [hg]; exact (Bz_ (Pb1_ HB.out GE101.out)) : w.heap.size ≤ gb110)); have n6_ := Am_ ((by rw [hg]; exact Nat.ne_of_lt (blk_lt (g := gb101) (o := .cells #[.slice (some ad109) l0_0.length c0_0, .slice A0_1 l0_1.length c0_1] 25 (0, 0)) (Pk_ BK101.out)) : gb101 ≠ gb110)); have n7_ := Am_ ((by rw [hg]; exact Nat.ne_of_gt (blk_lt (g := gb101) (o := .cells #[.slice (some ad109) l0_0.length c0_0, .slice A0_1 l0_1.length c0_1] 25 (0, 0)) (Pk_ BK101.out)) : gb110 ≠ gb101)); clear HO_3; clear BK101; clear HB; have HO_3 := n0_; have BK101 := n1_; have HB := n2_; have BK110 := n3_; have GW110 := n4_; have GE110 := n5_; have NB101_110 := n6_; have NB110_101 := n7_; clear n0_ n1_ n2_ n3_ n4_ n5_ n6_ n7_; clear hb hbox hg; have hnb48 := NB110_101.out; have hnc48 := NB101_110.out; obtain ⟨hcz49_0, hcz49_1, hcz49_2, hcz49_3, hcz49_4, hcz49_5, hfz49_0, hfz49_1, hfz49_2, hfz49_3, hfz49_4, hfz49_5⟩ := Ce6_ BK110.out; obtain ⟨Ao50, co50, eo50⟩ := Kd.R_slice HO_3.out; subst eo50; have p111 : 0 ≤ (x53_2 : Int) := Ot_ (by first | (with_reducible assumption) | assumption); have q111 : x53_2 < (x3_1.length : Int) := Ot_ (by first | (with_reducible assumption) | assumption); obtain ⟨ad111, e111, hx111_0⟩ := Kd.at_int (Kd.R_reads' HO_3.out).2.2 x53_2 p111 q111; cases e111; have hn111_0 : ad111.block ≠ gb110 := Kd.own_blk (Kd.R_ne HO_3.out BK110.out (by decide)); have hn111_1 : ad111.block ≠ gb110 := Kd.own_blk (Kd.R_ne HO_3.out BK110.out (by decide)); have hn111_2 : ad111.block ≠ gb110 := Kd.own_blk (Kd.R_ne HO_3.out BK110.out (by decide)); have hn111_3 : ad111.block ≠ gb110 := Kd.own_blk (Kd.R_ne HO_3.out BK110.out (by decide)); have hn111_4 : ad111.block ≠ gb110 := Kd.own_blk (Kd.R_ne HO_3.out BK110.out (by decide)); have hn111_5 : ad111.block ≠ gb110 := Kd.own_blk (Kd.R_ne HO_3.out BK110.out (by decide)); replace hx111_0 := (Cf_ (p := ⟨gb110, 0, none⟩) (by first | (rw [Ab_]; exact hn111_0) | (show (Addr.add _ _).block ≠ _; rw [Ab_]; exact hn111_0) | exact hn111_0) (.int .i64 ((rd_T38 l0_0 x53_2).f0))).trans hx111_0; replace hx111_0 := (Cf_ (p := ⟨gb110, 1, none⟩) (by first | (rw [Ab_]; exact hn111_1) | (show (Addr.add _ _).block ≠ _; rw [Ab_]; exact hn111_1) | exact hn111_1) (.int .i64 ((rd_T38 l0_0 x53_2).f1))).trans hx111_0; replace hx111_0 := (Cf_ (p := ⟨gb110, 2, none⟩) (by first | (rw [Ab_]; exact hn111_2) | (show (Addr.add _ _).block ≠ _; rw [Ab_]; exact hn111_2) | exact hn111_2) (.bool ((rd_T38 l0_0 x53_2).f2))).trans hx111_0; replace hx111_0 := (Cf_ (p := ⟨gb110, 3, none⟩) (by first | (rw [Ab_]; exact hn111_3) | (show (Addr.add _ _).block ≠ _; rw [Ab_]; exact hn111_3) | exact hn111_3) (.bool ((rd_T38 l0_0 x53_2).f3))).trans hx111_0; replace hx111_0 := (Cf_ (p := ⟨gb110, 4, none⟩) (by first | (rw [Ab_]; exact hn111_4) | (show (Addr.add _ _).block ≠ _; rw [Ab_]; exact hn111_4) | exact hn111_4) (.int .i64 ((rd_T38 l0_0 x53_2).f4))).trans hx111_0; replace hx111_0 := (Cf_ (p := ⟨gb110, 5, none⟩) (by first | (rw [Ab_]; exact hn111_5) | (show (Addr.add _ _).block ≠ _; rw [Ab_]; exact hn111_5) | exact hn111_5) (.int .i64 ((rd_T38 l0_0 x53_2).f5))).trans hx111_0; (try have hy111_0 := fun (n_ : Nat) => (drawn_chain n_ (W2 := (((((((w47.drewN n_).setCell ⟨gb110, 0, none⟩ (.int .i64 ((rd_T38 l0_0 x53_2).f0))).setCell ⟨gb110, 1, none⟩ (.int .i64 ((rd_T38 l0_0 x53_2).f1))).setCell ⟨gb110, 2, none⟩ (.bool ((rd_T38 l0_0 x53_2).f2))).setCell ⟨gb110, 3, none⟩ (.bool ((rd_T38 l0_0 x53_2).f3))).setCell ⟨gb110, 4, none⟩ (.int .i64 ((rd_T38 l0_0 x53_2).f4))).setCell ⟨gb110, 5, none⟩ (.int .i64 ((rd_T38 l0_0 x53_2).f5)))) (by simp only [drawn_set]) hx111_0)); clear hn111_0; clear hn111_1; clear hn111_2; clear hn111_3; clear hn111_4; clear hn111_5; replace p111 := eq_true p111; replace q111 := eq_true q111))
             repeat (go_quiet (first | ((with_reducible refine gate_dst (N := 9) rfl ?_); (try (refine gate_guard (by rfl) ?_; dsimp only)); refine box_event ?hg (N := 9) ?hd (cs := #[.int .i64 0, .int .i64 0, .bool false, .bool false, .int .i64 0, .int .i64 0]) (t := 38) ?hr ?_; (case hd => rfl); (case hg => rfl); (case hr => go_simp; try rfl); intro gb110 hg w47 hbox hb; have n0_ := Am_ (Rb_ (Px_ HO_3.out) hb); have n1_ := Am_ (Bb_ (g := gb101) (o := .cells #[.slice (some ad109) l0_0.length c0_0, .slice A0_1 l0_1.length c0_1] 25 (0, 0)) (Pk_ BK101.out) hb); have n2_ := Am_ (Be_ (Pb1_ HB.out GE101.out) hb); have n3_ := Am_ (hbox); have n4_ := Am_ ((by rw [hg]; exact (Bz_ (Pb1_ HB.out GE101.out)) : w.heap.size ≤ gb110)); have n5_ := Am_ ((by rw [hg]; exact (Bz_ (Pb1_ HB.out GE101.out)) : w.heap.size ≤ gb110)); have n6_ := Am_ ((by rw [hg]; exact Nat.ne_of_lt (blk_lt (g := gb101) (o := .cells #[.slice (some ad109) l0_0.length c0_0, .slice A0_1 l0_1.length c0_1] 25 (0, 0)) (Pk_ BK101.out)) : gb101 ≠ gb110)); have n7_ := Am_ ((by rw [hg]; exact Nat.ne_of_gt (blk_lt (g := gb101) (o := .cells #[.slice (some ad109) l0_0.length c0_0, .slice A0_1 l0_1.length c0_1] 25 (0, 0)) (Pk_ BK101.out)) : gb110 ≠ gb101)); clear HO_3; clear BK101; clear HB; have HO_3 := n0_; have BK101 := n1_; have HB := n2_; have BK110 := n3_; have GW110 := n4_; have GE110 := n5_; have NB101_110 := n6_; have NB110_101 := n7_; clear n0_ n1_ n2_ n3_ n4_ n5_ n6_ n7_; clear hb hbox hg; have hnb48 := NB110_101.out; have hnc48 := NB101_110.out; obtain ⟨hcz49_0, hcz49_1, hcz49_2, hcz49_3, hcz49_4, hcz49_5, hfz49_0, hfz49_1, hfz49_2, hfz49_3, hfz49_4, hfz49_5⟩ := Ce6_ BK110.out; obtain ⟨Ao50, co50, eo50⟩ := Kd.R_slice HO_3.out; subst eo50; have p111 : 0 ≤ (x53_2 : Int) := Ot_ (by first | (with_reducible assumption) | assumption); have q111 : x53_2 < (x3_1.length : Int) := Ot_ (by first | (with_reducible assumption) | assumption); obtain ⟨ad111, e111, hx111_0⟩ := Kd.at_int (Kd.R_reads' HO_3.out).2.2 x53_2 p111 q111; cases e111; have hn111_0 : ad111.block ≠ gb110 := Kd.own_blk (Kd.R_ne HO_3.out BK110.out (by decide)); have hn111_1 : ad111.block ≠ gb110 := Kd.own_blk (Kd.R_ne HO_3.out BK110.out (by decide)); have hn111_2 : ad111.block ≠ gb110 := Kd.own_blk (Kd.R_ne HO_3.out BK110.out (by decide)); have hn111_3 : ad111.block ≠ gb110 := Kd.own_blk (Kd.R_ne HO_3.out BK110.out (by decide)); have hn111_4 : ad111.block ≠ gb110 := Kd.own_blk (Kd.R_ne HO_3.out BK110.out (by decide)); have hn111_5 : ad111.block ≠ gb110 := Kd.own_blk (Kd.R_ne HO_3.out BK110.out (by decide)); replace hx111_0 := (Cf_ (p := ⟨gb110, 0, none⟩) (by first | (rw [Ab_]; exact hn111_0) | (show (Addr.add _ _).block ≠ _; rw [Ab_]; exact hn111_0) | exact hn111_0) (.int .i64 ((rd_T38 l0_0 x53_2).f0))).trans hx111_0; replace hx111_0 := (Cf_ (p := ⟨gb110, 1, none⟩) (by first | (rw [Ab_]; exact hn111_1) | (show (Addr.add _ _).block ≠ _; rw [Ab_]; exact hn111_1) | exact hn111_1) (.int .i64 ((rd_T38 l0_0 x53_2).f1))).trans hx111_0; replace hx111_0 := (Cf_ (p := ⟨gb110, 2, none⟩) (by first | (rw [Ab_]; exact hn111_2) | (show (Addr.add _ _).block ≠ _; rw [Ab_]; exact hn111_2) | exact hn111_2) (.bool ((rd_T38 l0_0 x53_2).f2))).trans hx111_0; replace hx111_0 := (Cf_ (p := ⟨gb110, 3, none⟩) (by first | (rw [Ab_]; exact hn111_3) | (show (Addr.add _ _).block ≠ _; rw [Ab_]; exact hn111_3) | exact hn111_3) (.bool ((rd_T38 l0_0 x53_2).f3))).trans hx111_0; replace hx111_0 := (Cf_ (p := ⟨gb110, 4, none⟩) (by first | (rw [Ab_]; exact hn111_4) | (show (Addr.add _ _).block ≠ _; rw [Ab_]; exact hn111_4) | exact hn111_4) (.int .i64 ((rd_T38 l0_0 x53_2).f4))).trans hx111_0; replace hx111_0 := (Cf_ (p := ⟨gb110, 5, none⟩) (by first | (rw [Ab_]; exact hn111_5) | (show (Addr.add _ _).block ≠ _; rw [Ab_]; exact hn111_5) | exact hn111_5) (.int .i64 ((rd_T38 l0_0 x53_2).f5))).trans hx111_0; (try have hy111_0 := fun (n_ : Nat) => (drawn_chain n_ (W2 := (((((((w47.drewN n_).setCell ⟨gb110, 0, none⟩ (.int .i64 ((rd_T38 l0_0 x53_2).f0))).setCell ⟨gb110, 1, none⟩ (.int .i64 ((rd_T38 l0_0 x53_2).f1))).setCell ⟨gb110, 2, none⟩ (.bool ((rd_T38 l0_0 x53_2).f2))).setCell ⟨gb110, 3, none⟩ (.bool ((rd_T38 l0_0 x53_2).f3))).setCell ⟨gb110, 4, none⟩ (.int .i64 ((rd_T38 l0_0 x53_2).f4))).setCell ⟨gb110, 5, none⟩ (.int .i64 ((rd_T38 l0_0 x53_2).f5)))) (by simp only [drawn_set]) hx111_0)); clear hn111_0; clear hn111_1; clear hn111_2; clear hn111_3; clear hn111_4; clear hn111_5; replace p111 := eq_true p111; replace q111 := eq_true q111)); try go_wp2_with (first | ((with_reducible refine gate_dst (N := 9) rfl ?_); (try (refine gate_guard (by rfl) ?_; dsimp only)); refine box_event ?hg (N := 9) ?hd (cs := #[.int .i64 0, .int .i64 0, .bool false, .bool false, .int .i64 0, .int .i64 0]) (t := 38) ?hr ?_; (case hd => rfl); (case hg => rfl); (case hr => go_simp; try rfl); intro gb110 hg w47 hbox hb; have n0_ := Am_ (Rb_ (Px_ HO_3.out) hb); have n1_ := Am_ (Bb_ (g := gb101) (o := .cells #[.slice (some ad109) l0_0.length c0_0, .slice A0_1 l0_1.length c0_1] 25 (0, 0)) (Pk_ BK101.out) hb); have n2_ := Am_ (Be_ (Pb1_ HB.out GE101.out) hb); have n3_ := Am_ (hbox); have n4_ := Am_ ((by rw [hg]; exact (Bz_ (Pb1_ HB.out GE101.out)) : w.heap.size ≤ gb110)); have n5_ := Am_ ((by rw [hg]; exact (Bz_ (Pb1_ HB.out GE101.out)) : w.heap.size ≤ gb110)); have n6_ := Am_ ((by rw [hg]; exact Nat.ne_of_lt (blk_lt (g := gb101) (o := .cells #[.slice (some ad109) l0_0.length c0_0, .slice A0_1 l0_1.length c0_1] 25 (0, 0)) (Pk_ BK101.out)) : gb101 ≠ gb110)); have n7_ := Am_ ((by rw [hg]; exact Nat.ne_of_gt (blk_lt (g := gb101) (o := .cells #[.slice (some ad109) l0_0.length c0_0, .slice A0_1 l0_1.length c0_1] 25 (0, 0)) (Pk_ BK101.out)) : gb110 ≠ gb101)); clear HO_3; clear BK101; clear HB; have HO_3 := n0_; have BK101 := n1_; have HB := n2_; have BK110 := n3_; have GW110 := n4_; have GE110 := n5_; have NB101_110 := n6_; have NB110_101 := n7_; clear n0_ n1_ n2_ n3_ n4_ n5_ n6_ n7_; clear hb hbox hg; have hnb48 := NB110_101.out; have hnc48 := NB101_110.out; obtain ⟨hcz49_0, hcz49_1, hcz49_2, hcz49_3, hcz49_4, hcz49_5, hfz49_0, hfz49_1, hfz49_2, hfz49_3, hfz49_4, hfz49_5⟩ := Ce6_ BK110.out; obtain ⟨Ao50, co50, eo50⟩ := Kd.R_slice HO_3.out; subst eo50; have p111 : 0 ≤ (x53_2 : Int) := Ot_ (by first | (with_reducible assumption) | assumption); have q111 : x53_2 < (x3_1.length : Int) := Ot_ (by first | (with_reducible assumption) | assumption); obtain ⟨ad111, e111, hx111_0⟩ := Kd.at_int (Kd.R_reads' HO_3.out).2.2 x53_2 p111 q111; cases e111; have hn111_0 : ad111.block ≠ gb110 := Kd.own_blk (Kd.R_ne HO_3.out BK110.out (by decide)); have hn111_1 : ad111.block ≠ gb110 := Kd.own_blk (Kd.R_ne HO_3.out BK110.out (by decide)); have hn111_2 : ad111.block ≠ gb110 := Kd.own_blk (Kd.R_ne HO_3.out BK110.out (by decide)); have hn111_3 : ad111.block ≠ gb110 := Kd.own_blk (Kd.R_ne HO_3.out BK110.out (by decide)); have hn111_4 : ad111.block ≠ gb110 := Kd.own_blk (Kd.R_ne HO_3.out BK110.out (by decide)); have hn111_5 : ad111.block ≠ gb110 := Kd.own_blk (Kd.R_ne HO_3.out BK110.out (by decide)); replace hx111_0 := (Cf_ (p := ⟨gb110, 0, none⟩) (by first | (rw [Ab_]; exact hn111_0) | (show (Addr.add _ _).block ≠ _; rw [Ab_]; exact hn111_0) | exact hn111_0) (.int .i64 ((rd_T38 l0_0 x53_2).f0))).trans hx111_0; replace hx111_0 := (Cf_ (p := ⟨gb110, 1, none⟩) (by first | (rw [Ab_]; exact hn111_1) | (show (Addr.add _ _).block ≠ _; rw [Ab_]; exact hn111_1) | exact hn111_1) (.int .i64 ((rd_T38 l0_0 x53_2).f1))).trans hx111_0; replace hx111_0 := (Cf_ (p := ⟨gb110, 2, none⟩) (by first | (rw [Ab_]; exact hn111_2) | (show (Addr.add _ _).block ≠ _; rw [Ab_]; exact hn111_2) | exact hn111_2) (.bool ((rd_T38 l0_0 x53_2).f2))).trans hx111_0; replace hx111_0 := (Cf_ (p := ⟨gb110, 3, none⟩) (by first | (rw [Ab_]; exact hn111_3) | (show (Addr.add _ _).block ≠ _; rw [Ab_]; exact hn111_3) | exact hn111_3) (.bool ((rd_T38 l0_0 x53_2).f3))).trans hx111_0; replace hx111_0 := (Cf_ (p := ⟨gb110, 4, none⟩) (by first | (rw [Ab_]; exact hn111_4) | (show (Addr.add _ _).block ≠ _; rw [Ab_]; exact hn111_4) | exact hn111_4) (.int .i64 ((rd_T38 l0_0 x53_2).f4))).trans hx111_0; replace hx111_0 := (Cf_ (p := ⟨gb110, 5, none⟩) (by first | (rw [Ab_]; exact hn111_5) | (show (Addr.add _ _).block ≠ _; rw [Ab_]; exact hn111_5) | exact hn111_5) (.int .i64 ((rd_T38 l0_0 x53_2).f5))).trans hx111_0; (try have hy111_0 := fun (n_ : Nat) => (drawn_chain n_ (W2 := (((((((w47.drewN n_).setCell ⟨gb110, 0, none⟩ (.int .i64 ((rd_T38 l0_0 x53_2).f0))).setCell ⟨gb110, 1, none⟩ (.int .i64 ((rd_T38 l0_0 x53_2).f1))).setCell ⟨gb110, 2, none⟩ (.bool ((rd_T38 l0_0 x53_2).f2))).setCell ⟨gb110, 3, none⟩ (.bool ((rd_T38 l0_0 x53_2).f3))).setCell ⟨gb110, 4, none⟩ (.int .i64 ((rd_T38 l0_0 x53_2).f4))).setCell ⟨gb110, 5, none⟩ (.int .i64 ((rd_T38 l0_0 x53_2).f5)))) (by simp only [drawn_set]) hx111_0)); clear hn111_0; clear hn111_1; clear hn111_2; clear hn111_3; clear hn111_4; clear hn111_5; replace p111 := eq_true p111; replace q111 := eq_true q111)))
             go_ret
             exact ⟨by first | rfl | (simp [errW_none, errW_some] <;> rfl) | (simp [*, errW_none, errW_some] <;> rfl), by repeat (first | (with_reducible first | exact HB.out | apply Pa_ | apply Pn_ | apply Pd_ | refine Bs_ ?_ GE101.out | refine Bs_ ?_ GE110.out) | exact HB.out)⟩
           ·rw [if_neg c31] at H
            exact absurd H (by simp)
          ·rw [if_neg c30] at H
           exact absurd H (by simp)
         ·rw [if_neg c29] at H
          exact absurd H (by simp)
        ·rw [if_neg c28] at H
         have c28b0 : decide (x53_2 < (l0_0.length : Int)) = false := Df_ c28
         clear c28
         obtain rfl := Option.some.inj H
         go_wp2
         repeat (go_quiet (fail); try go_wp2)
         go_ret
         exact ⟨by first | rfl | (simp [errW_none, errW_some] <;> rfl) | (simp [*, errW_none, errW_some] <;> rfl), by repeat (first | (with_reducible first | exact HB.out | apply Pa_ | apply Pn_ | apply Pd_ | refine Bs_ ?_ GE101.out) | exact HB.out)⟩
  ·rw [if_neg c3] at H
   exact absurd H (by simp)
 ·rw [if_neg c2] at H
  exact absurd H (by simp)

end Go.Proofs.Ytkecfdljodiifaa.P
