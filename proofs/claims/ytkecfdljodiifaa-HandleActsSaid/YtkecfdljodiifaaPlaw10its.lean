-- Printed by a program of this session (inject.py) over the kit's print, with functions that were proved by hand in their places.
import Derived.Test.YtkecfdljodiifaaPK
namespace Go.Proofs.Ytkecfdljodiifaa.P
open Go.RowKit Go.Proofs.YtkecfdljodiifaaW.PrintWords Go.Proofs.YtkecfdljodiifaaW.PrintLast Go.Proofs.YtkecfdljodiifaaW.PrintMore
attribute [local go_sem] max2_int min2_int max_two min_two max_three min_three max_four min_four   -- for this text's walks alone
set_option linter.unusedVariables false
set_option linter.unusedSimpArgs false

/-! ### flagstonelaw10_its: function 14 -/
def flagstonelaw10_its.l0 : Nat → List (S54) → Int → List (S38) → List (List Int) → Option ((List (S54)) × (List (List Int)))
 | 0, _, _, _, _ => none
 | k + 1, x3, x4, x209000, x209001 => if x4 < (x209000.length : Int) then (if 0 ≤ x4 then (if x3.length < 3518437208883 then (flagstonelaw10_its.l0 k (x3 ++ [(⟨(rd_T38 x209000 x4).f0, (rd_T38 x209000 x4).f1, (rd_T38 x209000 x4).f2, (rd_T38 x209000 x4).f3, (rd_T38 x209000 x4).f4, (rd_T38 x209000 x4).f5⟩ : S54)]) (wrap64 (x4 + 1)) x209000 x209001) else (none)) else (none)) else (some (x3, x209001))
def flagstonelaw10_its.f (k : Nat) (l0_0 : List (S38)) (l0_1 : List (List Int)) : Option ((List (S54)) × (List (List Int))) := flagstonelaw10_its.l0 k (([] : List (S54))) 0 l0_0 l0_1
theorem flagstonelaw10_its.mono_l : ∀ k, (∀ y0 y1 y2 y3, LeO (flagstonelaw10_its.l0 k y0 y1 y2 y3) (flagstonelaw10_its.l0 (k + 1) y0 y1 y2 y3))
 | 0 => fun _ _ _ _ r h => by simp [flagstonelaw10_its.l0] at h
 | k + 1 => by
  have ih0 := flagstonelaw10_its.mono_l k
  ·intro y0 y1 y2 y3
   unfold flagstonelaw10_its.l0
   repeat' first
   | (with_reducible exact ih0 _ _ _ _)
   | (with_reducible exact LeO.refl _)
   | (with_reducible exact LeO.none _)
   | (with_reducible refine LeO.ite ?_ ?_)
   | (with_reducible refine LeO.bind ?_ (fun _ => ?_))
   | exact ih0 _ _ _ _
   | exact LeO.none _
   | refine LeO.ite ?_ ?_
   | refine LeO.bind ?_ (fun _ => ?_)
theorem flagstonelaw10_its.mono : ∀ a0 a1 k, LeO (flagstonelaw10_its.f k a0 a1) (flagstonelaw10_its.f (k + 1) a0 a1) := by
 intro a0 a1 k
 have ih0 := flagstonelaw10_its.mono_l k
 unfold flagstonelaw10_its.f
 repeat' first
   | (with_reducible exact ih0 _ _ _ _)
   | (with_reducible exact LeO.refl _)
   | (with_reducible exact LeO.none _)
   | (with_reducible refine LeO.ite ?_ ?_)
   | (with_reducible refine LeO.bind ?_ (fun _ => ?_))
   | exact ih0 _ _ _ _
   | exact LeO.none _
   | refine LeO.ite ?_ ?_
   | refine LeO.bind ?_ (fun _ => ?_)
set_option maxHeartbeats 8000000 in
set_option maxRecDepth 100000 in
theorem flagstonelaw10_its.calls (k : Nat) (A0_0 : Option Addr) (c0_0 : Nat) (l0_0 : List (S38)) (P0_1_ : Nat → Prop) (A0_1 : Option Addr) (c0_1 : Nat) (l0_1 : List (List Int)) (r1 : List (S54)) (r2 : List (List Int)) (w : World) (hr0_0 : Kd.C k38 w A0_0 l0_0.length l0_0) (hc0_0 : l0_0.length ≤ c0_0) (hs0_1 : Kd.V (Kd.slice 3 (Kd.int .i64)) 64 w w.heap.size (fun k_ => P0_1_ k_) (.slice A0_1 l0_1.length c0_1) l0_1) (h : flagstonelaw10_its.f k l0_0 l0_1 = some (r1, r2)) :
  Calls Try.prog 14 #[.agg #[.slice A0_0 l0_0.length c0_0, .slice A0_1 l0_1.length c0_1]] w fun e w' => ∃ v0_ v1_ : Value, e = .returned (.agg #[v0_, v1_]) ∧ Kd.R k54 54 w' w.heap.size (fun k_ => (w.heap.size ≤ k_)) v0_ r1 ∧ Kd.V (Kd.slice 3 (Kd.int .i64)) 64 w' w.heap.size (fun k_ => (P0_1_ k_ ∨ w.heap.size ≤ k_) ∧ some k_ ≠ (v0_ : Value).ownBlock) v1_ r2 ∧ Below w.heap.size w w' := by
 have hu25 := Try.underlying25
 have hu31 := Try.underlying31
 have hu38 := Try.underlying38
 have HR0_0 := Am_ hr0_0
 have HC0_0 := Am_ hc0_0
 clear hr0_0 hc0_0
 have HO0_1 := Am_ (show Kd.V (Kd.slice 3 (Kd.int .i64)) 64 w w.heap.size (fun k_ => (P0_1_ k_ ∨ w.heap.size ≤ k_)) (.slice A0_1 l0_1.length c0_1) l0_1 from Vm_ hs0_1 (fun k_ hk => .inl hk))
 have HB := Am_ (Below.refl w.heap.size w)
 have H : (flagstonelaw10_its.l0 k (([] : List (S54))) 0 l0_0 l0_1) = some (r1, r2) := h
 clear h
 obtain ⟨y210, hy210⟩ : ∃ y_ : List (S54), y_ = (([] : List (S54))) := ⟨_, rfl⟩
 replace H : (flagstonelaw10_its.l0 k y210 0 l0_0 l0_1) = some (r1, r2) := by first | (rw [hy210]; with_reducible exact H) | (have H2_ := (Option.bind_some _ _).symm.trans H; rw [hy210]; with_reducible exact H2_) | (have H2_ := (Option.bind_some _ _).symm.trans H; with_reducible exact H2_) | with_reducible exact H | (rw [hy210]; exact H) | exact H
 have Ny210 := Am_ hy210
 clear hy210
 have H' := Am_ H
 clear H
 go_enter Try.func14, Try.ntmps14
 go_wp2_with (first | ((with_reducible refine gate_dst (N := 1) rfl ?_); refine box_event ?hg (N := 1) ?hd (cs := #[.slice A0_0 l0_0.length c0_0, .slice A0_1 l0_1.length c0_1]) (t := 25) ?hr ?_; (case hd => rfl); (case hg => rfl); (case hr => go_simp; try rfl); intro gb208 hg w2 hbox hb; have n0_ := Am_ (Vb_ (Ke_ (Pv_ HO0_1.out) gb208 (Nat.le_of_eq hg.symm)) hb); have n1_ := Am_ (Be_ (Pb0_ HB.out) hb); have n2_ := Am_ (hbox); have n3_ := Am_ ((by rw [hg]; exact (Bz_ (Pb0_ HB.out)) : w.heap.size ≤ gb208)); have n4_ := Am_ ((by rw [hg]; exact (Bz_ (Pb0_ HB.out)) : w.heap.size ≤ gb208)); clear HO0_1; clear HB; have HO0_1 := n0_; have HB := n1_; have BK208 := n2_; have GW208 := n3_; have GE208 := n4_; clear n0_ n1_ n2_ n3_ n4_; clear hb hbox hg) | ((with_reducible refine gate_dst (N := 2) rfl ?_); refine box_event ?hg (N := 2) ?hd (cs := #[.slice none 0 0, .slice none 0 0]) (t := 31) ?hr ?_; (case hd => rfl); (case hg => rfl); (case hr => go_simp; try rfl); intro gb209 hg w3 hbox hb; have n0_ := Am_ (Vb_ (Ke_ (Pv_ HO0_1.out) gb209 (Nat.le_of_eq hg.symm)) hb); have n1_ := Am_ (Bb_ (g := gb208) (o := .cells #[.slice A0_0 l0_0.length c0_0, .slice A0_1 l0_1.length c0_1] 25 (0, 0)) (Pk_ BK208.out) hb); have n2_ := Am_ (Be_ (Pb1_ HB.out GE208.out) hb); have n3_ := Am_ (hbox); have n4_ := Am_ ((by rw [hg]; exact (Bz_ (Pb1_ HB.out GE208.out)) : w.heap.size ≤ gb209)); have n5_ := Am_ ((by rw [hg]; exact (Bz_ (Pb1_ HB.out GE208.out)) : w.heap.size ≤ gb209)); have n6_ := Am_ ((by rw [hg]; exact Nat.ne_of_lt (blk_lt (g := gb208) (o := .cells #[.slice A0_0 l0_0.length c0_0, .slice A0_1 l0_1.length c0_1] 25 (0, 0)) (Pk_ BK208.out)) : gb208 ≠ gb209)); have n7_ := Am_ ((by rw [hg]; exact Nat.ne_of_gt (blk_lt (g := gb208) (o := .cells #[.slice A0_0 l0_0.length c0_0, .slice A0_1 l0_1.length c0_1] 25 (0, 0)) (Pk_ BK208.out)) : gb209 ≠ gb208)); clear HO0_1; clear BK208; clear HB; have HO0_1 := n0_; have BK208 := n1_; have HB := n2_; have BK209 := n3_; have GW209 := n4_; have GE209 := n5_; have NB208_209 := n6_; have NB209_208 := n7_; clear n0_ n1_ n2_ n3_ n4_ n5_ n6_ n7_; clear hb hbox hg) | ((with_reducible refine gate_dst (N := 5) rfl ?_); refine Kd.R_lit k54 _ 54 ?hg (N := 5) ?hd (xs := ([] : List (S54))) (inner := []) (ok := fun _ => True) (okp := fun _ => True) ?hr ?hp (fun _ hk => hk) trivial (Below.refl _ _) (Nat.le_refl _) (by simp) ?_; (case hd => rfl); (case hg => rfl); (case hr => go_simp; try rfl); (case hp => exact (Reps.none _ _)); intro v211 w4 ho5 hb hg_ hnew_; clear hg_ hnew_; (first | rw [← Ny210.out] at ho5 | (simp only [Int.reduceToNat] at ho5; rw [← Ny210.out] at ho5)); have n0_ := Am_ (Kd.V_elder' (Pv_ HO0_1.out) (Kd.R_base ho5) hb); have n1_ := Am_ (Kd.R_lower (Kd.R_newM (M := fun k_ => (w.heap.size ≤ k_)) ho5 (Bz_ (Pb2_ HB.out GE208.out GE209.out)) (fun k_ h_ => h_)) (Bz_ (Pb2_ HB.out GE208.out GE209.out))); have n2_ := Am_ (Bb_ (g := gb208) (o := .cells #[.slice A0_0 l0_0.length c0_0, .slice A0_1 l0_1.length c0_1] 25 (0, 0)) (Pk_ BK208.out) hb); have n3_ := Am_ (Bb_ (g := gb209) (o := .cells #[.slice none 0 0, .slice none 0 0] 31 (0, 0)) (Pk_ BK209.out) hb); have n4_ := Am_ (Be_ (Pb2_ HB.out GE208.out GE209.out) hb); clear HO0_1; clear BK208; clear BK209; clear HB; have HO0_1 := n0_; have HO212 := n1_; have BK208 := n2_; have BK209 := n3_; have HB := n4_; clear n0_ n1_ n2_ n3_ n4_; clear hb ho5))
 go_loopg [3, 4] k (fun kq v3 v4 w' => ∃ (x3_1 : List (S54)) (x4_1 : Int), v4 = .int .i64 x4_1 ∧ Aside0 (flagstonelaw10_its.l0 kq x3_1 x4_1 l0_0 l0_1 = some (r1, r2)) ∧ Aside0 (kq ≤ k) ∧ Aside0 (Kd.R k54 54 w' w.heap.size (fun k_ => (w.heap.size ≤ k_)) v3 x3_1) ∧ Aside0 (Kd.V (Kd.slice 3 (Kd.int .i64)) 64 w' w.heap.size (fun k_ => (P0_1_ k_ ∨ w.heap.size ≤ k_) ∧ some k_ ≠ (v3 : Value).ownBlock ∧ k_ ≠ gb208 ∧ k_ ≠ gb209) (.slice A0_1 l0_1.length c0_1) l0_1) ∧ Aside0 (w'.heap[gb208]? = some (.cells #[(.slice A0_0 l0_0.length c0_0), (.slice A0_1 l0_1.length c0_1)] 25 (0, 0))) ∧ Aside0 (w'.heap[gb209]? = some (.cells #[(.slice none 0 0), (.slice none 0 0)] 31 (0, 0))) ∧ Aside0 (Below w.heap.size w w'))
 case atStart => exact ⟨(y210), (0), (by first | rfl | (simp; done) | (simp [*]; done)), H', ⟨Nat.le_refl _⟩, ⟨by (with_reducible repeat (first | apply Ra_ | apply Rn_ | apply Rd_)); exact Kd.R_mono HO212.out (fun _ hk => hk.1)⟩, ⟨by (with_reducible repeat (first | apply Va_ | apply Vn_ | apply Vd_)); exact Vm_ HO0_1.out (fun _ hk => ⟨hk.1.1.1, ⟨hk.2, ⟨hk.1.1.2, hk.1.2⟩⟩⟩)⟩, ⟨by (with_reducible repeat (first | refine Bn_ ?_ _ | refine Bd_ ?_ | refine Ba_ ?_ _)); exact BK208.out⟩, ⟨by (with_reducible repeat (first | refine Bn_ ?_ _ | refine Bd_ ?_ | refine Ba_ ?_ _)); exact BK209.out⟩, ⟨by repeat (first | (with_reducible first | exact HB.out | apply Pa_ | apply Pn_ | apply Pd_ | refine Bs_ ?_ GE208.out | refine Bs_ ?_ GE209.out) | exact HB.out)⟩⟩
 case round =>
  clear H'
  try clear c1
  try clear p2
  obtain ⟨x3_1, x4_1, rfl, HA, HK1, HO_3, HO_209001, BK208, BK209, HB⟩ := hrel
  cases gk with
  | zero => exact absurd HA.out (by simp [flagstonelaw10_its.l0])
  | succ k1 =>
   have H := HA.out
   clear HA
   simp only [flagstonelaw10_its.l0] at H
   by_cases c6 : x4_1 < (l0_0.length : Int)
   ·rw [if_pos c6] at H
    have c6b0 : decide (x4_1 < (l0_0.length : Int)) = true := Dt_ c6
    clear c6
    by_cases c7 : 0 ≤ x4_1
    ·rw [if_pos c7] at H
     have c7b0 : decide (0 ≤ x4_1) = true := Dt_ c7
     clear c7
     by_cases c8 : x3_1.length < 3518437208883
     ·rw [if_pos c8] at H
      have LMc8 := Am_ c8
      clear c8
      obtain ⟨y214, hy214⟩ : ∃ y_ : List (S54), y_ = (x3_1 ++ [(⟨(rd_T38 l0_0 x4_1).f0, (rd_T38 l0_0 x4_1).f1, (rd_T38 l0_0 x4_1).f2, (rd_T38 l0_0 x4_1).f3, (rd_T38 l0_0 x4_1).f4, (rd_T38 l0_0 x4_1).f5⟩ : S54)]) := ⟨_, rfl⟩
      replace H : (flagstonelaw10_its.l0 k1 y214 (wrap64 (x4_1 + 1)) l0_0 l0_1) = some (r1, r2) := by first | (rw [hy214]; with_reducible exact H) | (have H2_ := (Option.bind_some _ _).symm.trans H; rw [hy214]; with_reducible exact H2_) | (have H2_ := (Option.bind_some _ _).symm.trans H; with_reducible exact H2_) | with_reducible exact H | (rw [hy214]; exact H) | exact H
      have Ny214 := Am_ hy214
      clear hy214
      have H' := Am_ H
      clear H
      have hnb9 := NB208_209.out
      have hnc9 := NB209_208.out
      obtain ⟨hcz10_0, hcz10_1, hfz10_0, hfz10_1⟩ := Ce2_ BK208.out
      have p213 : 0 ≤ (x4_1 : Int) := Ot_ (by first | (with_reducible assumption) | assumption)
      have q213 : x4_1 < (l0_0.length : Int) := Ot_ (by first | (with_reducible assumption) | assumption)
      obtain ⟨ad213, e213, hx213_0, hx213_1, hx213_2, hx213_3, hx213_4, hx213_5⟩ := at_T38 HR0_0.out x4_1 p213 q213
      cases e213
      replace hx213_0 := (HB.out.cell (Bl_ w _ hx213_0)).trans hx213_0
      replace hx213_1 := (HB.out.cell (Bl_ w _ hx213_1)).trans hx213_1
      replace hx213_2 := (HB.out.cell (Bl_ w _ hx213_2)).trans hx213_2
      replace hx213_3 := (HB.out.cell (Bl_ w _ hx213_3)).trans hx213_3
      replace hx213_4 := (HB.out.cell (Bl_ w _ hx213_4)).trans hx213_4
      replace hx213_5 := (HB.out.cell (Bl_ w _ hx213_5)).trans hx213_5
      replace p213 := eq_true p213
      replace q213 := eq_true q213
      go_wp2_with (first | ((with_reducible refine gate_builtin (b := .append) (xs := #[.tmp 13, .tmp 19]) rfl ?_); at_builtin; refine Kd.R_append k54 (w0 := w) w.heap.size rfl (.tmp 13) (.tmp 19) 29 54 (.agg #[(.int .i64 0), (.int .i64 0), (.bool false), (.bool false), (.int .i64 0), (.int .i64 0)]) 40 rfl Try.underlying29 info54 rfl (by decide) (by omega) u3 x3_1 (⟨(rd_T38 l0_0 x4_1).f0, (rd_T38 l0_0 x4_1).f1, (rd_T38 l0_0 x4_1).f2, (rd_T38 l0_0 x4_1).f3, (rd_T38 l0_0 x4_1).f4, (rd_T38 l0_0 x4_1).f5⟩ : S54) [.int .i64 ((rd_T38 l0_0 x4_1).f0), .int .i64 ((rd_T38 l0_0 x4_1).f1), .bool ((rd_T38 l0_0 x4_1).f2), .bool ((rd_T38 l0_0 x4_1).f3), .int .i64 ((rd_T38 l0_0 x4_1).f4), .int .i64 ((rd_T38 l0_0 x4_1).f5)] (fun k_ => (w.heap.size ≤ k_)) (fun _ => False) rfl rfl ?aP (fun _ hk => hk.elim) ?aF ?aO ?aB ?aS ?aL ?_; (case aP => exact k54_mkM _ _ _ (⟨(rd_T38 l0_0 x4_1).f0, (rd_T38 l0_0 x4_1).f1, (rd_T38 l0_0 x4_1).f2, (rd_T38 l0_0 x4_1).f3, (rd_T38 l0_0 x4_1).f4, (rd_T38 l0_0 x4_1).f5⟩ : S54)); (case aB => exact (Pb2_ HB.out GE208.out GE209.out)); (case aF => exact (fun k_ hk => (Nat.le_trans (Bz_ (Pb2_ HB.out GE208.out GE209.out)) hk))); (case aO => exact (Px_ HO_3.out)); (case aS => exact (Bz_ (Pb2_ HB.out GE208.out GE209.out))); (case aL => have := LMc8.out; omega); intro v215 w11 ho hb hg hat; rw [← Ny214.out] at ho; have n0_ := Am_ (Kd.V_afterv (ok := (fun k_ => (P0_1_ k_ ∨ w.heap.size ≤ k_) ∧ k_ ≠ gb208 ∧ k_ ≠ gb209)) (by (with_reducible repeat (first | apply Va_ | apply Vn_ | apply Vd_)); exact Vm_ HO_209001.out (fun _ hk => ⟨⟨hk.1, ⟨hk.2.2.1, hk.2.2.2⟩⟩, hk.2.1⟩)) hg hat); have n1_ := Am_ (Bg_ (g := gb208) (o := .cells #[.slice (some ad213) l0_0.length c0_0, .slice A0_1 l0_1.length c0_1] 25 (0, 0)) (Pk_ BK208.out) hg (Kd.R_ne HO_3.out BK208.out (by decide))); have n2_ := Am_ (Bg_ (g := gb209) (o := .cells #[.slice none 0 0, .slice none 0 0] 31 (0, 0)) (Pk_ BK209.out) hg (Kd.R_ne HO_3.out BK209.out (by decide))); have n3_ := Am_ (hb); have n4_ := Am_ (ho); clear HO_209001; clear BK208; clear BK209; clear HB; clear HO_3; have HO_209001 := n0_; have BK208 := n1_; have BK209 := n2_; have HB := n3_; have HO216 := n4_; clear n0_ n1_ n2_ n3_ n4_; clear ho hb hg hat))
      go_roundg k1
      case measure => have := HK1.out; omega
      case rel => exact ⟨(y214), (wrap64 (x4_1 + 1)), (by first | rfl | (simp; done) | (simp [*]; done)), H', ⟨by have := HK1.out; omega⟩, ⟨by (with_reducible repeat (first | apply Ra_ | apply Rn_ | apply Rd_)); exact HO216.out⟩, ⟨by (with_reducible repeat (first | apply Va_ | apply Vn_ | apply Vd_)); exact Vm_ HO_209001.out (fun _ hk => ⟨hk.1.1, ⟨hk.2, ⟨hk.1.2.1, hk.1.2.2⟩⟩⟩)⟩, ⟨by (with_reducible repeat (first | refine Bn_ ?_ _ | refine Bd_ ?_ | refine Ba_ ?_ _)); exact BK208.out⟩, ⟨by (with_reducible repeat (first | refine Bn_ ?_ _ | refine Bd_ ?_ | refine Ba_ ?_ _)); exact BK209.out⟩, ⟨by repeat (first | (with_reducible first | exact HB.out | apply Pa_ | apply Pn_ | apply Pd_ | refine Bs_ ?_ GE208.out | refine Bs_ ?_ GE209.out) | exact HB.out)⟩⟩
     ·rw [if_neg c8] at H
      exact absurd H (by simp)
    ·rw [if_neg c7] at H
     exact absurd H (by simp)
   ·rw [if_neg c6] at H
    have c6b0 : decide (x4_1 < (l0_0.length : Int)) = false := Df_ c6
    clear c6
    simp only [Option.some.injEq, Prod.mk.injEq] at H
    obtain ⟨rfl, rfl⟩ := H
    have hnb12 := NB208_209.out
    have hnc12 := NB209_208.out
    obtain ⟨hcz13_0, hcz13_1, hfz13_0, hfz13_1⟩ := Ce2_ BK208.out
    obtain ⟨Ao14, co14, eo14⟩ := Kd.R_slice HO_3.out
    subst eo14
    obtain ⟨hcz15_0, hcz15_1, hfz15_0, hfz15_1⟩ := Ce2_ BK209.out
    go_wp2
    refine bodyPost_ret (results_cell_row rfl _ _ gb209 31 #[.slice Ao14 x3_1.length co14, .slice A0_1 l0_1.length c0_1] (0, 0) _ rfl (by (with_reducible repeat (first | refine Bn_ ?_ _ | refine Bd_ ?_ | refine Ba_ ?_ _)); refine Bp_ (cs := #[.slice Ao14 x3_1.length co14, .slice none 0 0]) ?_ 1 _ rfl; (with_reducible repeat (first | refine Bn_ ?_ _ | refine Bd_ ?_ | refine Ba_ ?_ _)); refine Bp_ (cs := #[.slice none 0 0, .slice none 0 0]) ?_ 0 _ rfl; (with_reducible repeat (first | refine Bn_ ?_ _ | refine Bd_ ?_ | refine Ba_ ?_ _)); exact BK209.out) Try.underlying31 rfl (by kernel_rfl)) rfl ?_
    exact ⟨_, _, by first | rfl | (simp [errW_none, errW_some] <;> rfl) | (simp [*, errW_none, errW_some] <;> rfl), by (with_reducible repeat (first | apply Ra_ | apply Rn_ | apply Rd_)); exact Kd.R_mono (Kd.R_far (p := ⟨gb209, 1, none⟩) (Kd.R_far (p := ⟨gb209, 0, none⟩) (Kd.R_types HO_3.out BK209.out (by decide)) (fun _ hk => hk.2) (.slice Ao14 x3_1.length co14)) (fun _ hk => hk.2) (.slice A0_1 l0_1.length c0_1)) (fun _ hk => hk.1), by (with_reducible repeat (first | apply Va_ | apply Vn_ | apply Vd_)); exact Vm_ (Vf_ (p := ⟨gb209, 1, none⟩) (Vf_ (p := ⟨gb209, 0, none⟩) (Vm_ HO_209001.out (fun k_ hk => (⟨hk, hk.2.2.2⟩ : _ ∧ k_ ≠ gb209))) (fun _ hk => hk.2) (.slice Ao14 x3_1.length co14)) (fun _ hk => hk.2) (.slice A0_1 l0_1.length c0_1)) (fun _ hk => ⟨hk.1.1, hk.1.2.1⟩), by repeat (first | (with_reducible first | exact HB.out | apply Pa_ | apply Pn_ | apply Pd_ | refine Bs_ ?_ GE208.out | refine Bs_ ?_ GE209.out) | exact HB.out)⟩

end Go.Proofs.Ytkecfdljodiifaa.P
