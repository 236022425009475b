-- Printed by a program of this session (inject.py) over the kit's print, with functions that were proved by hand in their places.
import Derived.Test.YtbfjakhloabhmaaPK
namespace Go.Proofs.Ytbfjakhloabhmaa.P
open Go.RowKit Go.Proofs.YtbfjakhloabhmaaW.PrintWords Go.Proofs.YtbfjakhloabhmaaW.PrintLast Go.Proofs.YtbfjakhloabhmaaW.PrintMore
attribute [local go_sem] max2_int min2_int max_two min_two max_three min_three max_four min_four   -- for this text's walks alone
set_option linter.unusedVariables false
set_option linter.unusedSimpArgs false

/-! ### flagstonelaw11_its: function 13 -/
def flagstonelaw11_its.l0 : Nat → List (S52) → Int → List (S44) → List (List Int) → Option ((List (S52)) × (List (List Int)))
 | 0, _, _, _, _ => none
 | k + 1, x3, x4, x102000, x102001 => if x4 < (x102000.length : Int) then (if 0 ≤ x4 then (if x3.length < 3518437208883 then (flagstonelaw11_its.l0 k (x3 ++ [(⟨(rd_T44 x102000 x4).f0, (rd_T44 x102000 x4).f1, (rd_T44 x102000 x4).f2, (rd_T44 x102000 x4).f3, (rd_T44 x102000 x4).f4, (rd_T44 x102000 x4).f5⟩ : S52)]) (wrap64 (x4 + 1)) x102000 x102001) else (none)) else (none)) else (some (x3, x102001))
def flagstonelaw11_its.f (k : Nat) (l0_0 : List (S44)) (l0_1 : List (List Int)) : Option ((List (S52)) × (List (List Int))) := flagstonelaw11_its.l0 k (([] : List (S52))) 0 l0_0 l0_1
theorem flagstonelaw11_its.mono_l : ∀ k, (∀ y0 y1 y2 y3, LeO (flagstonelaw11_its.l0 k y0 y1 y2 y3) (flagstonelaw11_its.l0 (k + 1) y0 y1 y2 y3))
 | 0 => fun _ _ _ _ r h => by simp [flagstonelaw11_its.l0] at h
 | k + 1 => by
  have ih0 := flagstonelaw11_its.mono_l k
  ·intro y0 y1 y2 y3
   unfold flagstonelaw11_its.l0
   repeat' first
   | (with_reducible exact ih0 _ _ _ _)
   | (with_reducible exact LeO.refl _)
   | (with_reducible exact LeO.none _)
   | (with_reducible refine LeO.ite ?_ ?_)
   | (with_reducible refine LeO.bind ?_ (fun _ => ?_))
   | exact ih0 _ _ _ _
   | exact LeO.none _
   | refine LeO.ite ?_ ?_
   | refine LeO.bind ?_ (fun _ => ?_)
theorem flagstonelaw11_its.mono : ∀ a0 a1 k, LeO (flagstonelaw11_its.f k a0 a1) (flagstonelaw11_its.f (k + 1) a0 a1) := by
 intro a0 a1 k
 have ih0 := flagstonelaw11_its.mono_l k
 unfold flagstonelaw11_its.f
 repeat' first
   | (with_reducible exact ih0 _ _ _ _)
   | (with_reducible exact LeO.refl _)
   | (with_reducible exact LeO.none _)
   | (with_reducible refine LeO.ite ?_ ?_)
   | (with_reducible refine LeO.bind ?_ (fun _ => ?_))
   | exact ih0 _ _ _ _
   | exact LeO.none _
   | refine LeO.ite ?_ ?_
   | refine LeO.bind ?_ (fun _ => ?_)
set_option maxHeartbeats 8000000 in
set_option maxRecDepth 100000 in
theorem flagstonelaw11_its.calls (k : Nat) (A0_0 : Option Addr) (c0_0 : Nat) (l0_0 : List (S44)) (P0_1_ : Nat → Prop) (A0_1 : Option Addr) (c0_1 : Nat) (l0_1 : List (List Int)) (r1 : List (S52)) (r2 : List (List Int)) (w : World) (hr0_0 : Kd.C k44 w A0_0 l0_0.length l0_0) (hc0_0 : l0_0.length ≤ c0_0) (hs0_1 : Kd.V (Kd.slice 3 (Kd.int .i64)) 48 w w.heap.size (fun k_ => P0_1_ k_) (.slice A0_1 l0_1.length c0_1) l0_1) (h : flagstonelaw11_its.f k l0_0 l0_1 = some (r1, r2)) :
  Calls Try.prog 13 #[.agg #[.slice A0_0 l0_0.length c0_0, .slice A0_1 l0_1.length c0_1]] w fun e w' => ∃ v0_ v1_ : Value, e = .returned (.agg #[v0_, v1_]) ∧ Kd.R k52 52 w' w.heap.size (fun k_ => (w.heap.size ≤ k_)) v0_ r1 ∧ Kd.V (Kd.slice 3 (Kd.int .i64)) 48 w' w.heap.size (fun k_ => (P0_1_ k_ ∨ w.heap.size ≤ k_) ∧ some k_ ≠ (v0_ : Value).ownBlock) v1_ r2 ∧ Below w.heap.size w w' := by
 have hu25 := Try.underlying25
 have hu33 := Try.underlying33
 have hu44 := Try.underlying44
 have HR0_0 := Am_ hr0_0
 have HC0_0 := Am_ hc0_0
 clear hr0_0 hc0_0
 have HO0_1 := Am_ (show Kd.V (Kd.slice 3 (Kd.int .i64)) 48 w w.heap.size (fun k_ => (P0_1_ k_ ∨ w.heap.size ≤ k_)) (.slice A0_1 l0_1.length c0_1) l0_1 from Vm_ hs0_1 (fun k_ hk => .inl hk))
 have HB := Am_ (Below.refl w.heap.size w)
 have H : (flagstonelaw11_its.l0 k (([] : List (S52))) 0 l0_0 l0_1) = some (r1, r2) := h
 clear h
 obtain ⟨y103, hy103⟩ : ∃ y_ : List (S52), y_ = (([] : List (S52))) := ⟨_, rfl⟩
 replace H : (flagstonelaw11_its.l0 k y103 0 l0_0 l0_1) = some (r1, r2) := by first | (rw [hy103]; with_reducible exact H) | (have H2_ := (Option.bind_some _ _).symm.trans H; rw [hy103]; with_reducible exact H2_) | (have H2_ := (Option.bind_some _ _).symm.trans H; with_reducible exact H2_) | with_reducible exact H | (rw [hy103]; exact H) | exact H
 have Ny103 := Am_ hy103
 clear hy103
 have H' := Am_ H
 clear H
 go_enter Try.func13, Try.ntmps13
 go_wp2_with (first | ((with_reducible refine gate_dst (N := 1) rfl ?_); refine box_event ?hg (N := 1) ?hd (cs := #[.slice A0_0 l0_0.length c0_0, .slice A0_1 l0_1.length c0_1]) (t := 25) ?hr ?_; (case hd => rfl); (case hg => rfl); (case hr => first | (go_simp; done) | (go_simp; rfl)); intro gb101 hg w2 hbox hb; have n0_ := Am_ (Vb_ (Ke_ (by (with_reducible repeat (first | apply Va_ | apply Vn_ | apply Vd_)); exact HO0_1.out) gb101 (Nat.le_of_eq hg.symm)) hb); have n1_ := Am_ (Be_ (by repeat (first | (with_reducible first | exact HB.out | apply Pa_ | apply Pn_ | apply Pd_) | exact HB.out)) hb); have n2_ := Am_ (hbox); have n3_ := Am_ ((by rw [hg]; exact (Bz_ (by repeat (first | (with_reducible first | exact HB.out | apply Pa_ | apply Pn_ | apply Pd_) | exact HB.out))) : w.heap.size ≤ gb101)); have n4_ := Am_ ((by rw [hg]; exact (Bz_ (by repeat (first | (with_reducible first | exact HB.out | apply Pa_ | apply Pn_ | apply Pd_) | exact HB.out))) : w.heap.size ≤ gb101)); clear HO0_1; clear HB; have HO0_1 := n0_; have HB := n1_; have BK101 := n2_; have GW101 := n3_; have GE101 := n4_; clear n0_ n1_ n2_ n3_ n4_; clear hb hbox hg) | ((with_reducible refine gate_dst (N := 2) rfl ?_); refine box_event ?hg (N := 2) ?hd (cs := #[.slice none 0 0, .slice none 0 0]) (t := 33) ?hr ?_; (case hd => rfl); (case hg => rfl); (case hr => first | (go_simp; done) | (go_simp; rfl)); intro gb102 hg w3 hbox hb; have n0_ := Am_ (Vb_ (Ke_ (by (with_reducible repeat (first | apply Va_ | apply Vn_ | apply Vd_)); exact HO0_1.out) gb102 (Nat.le_of_eq hg.symm)) hb); have n1_ := Am_ (Bb_ (g := gb101) (o := .cells #[.slice A0_0 l0_0.length c0_0, .slice A0_1 l0_1.length c0_1] 25 (0, 0)) (by (with_reducible repeat (first | refine Bn_ ?_ _ | refine Bd_ ?_ | refine Ba_ ?_ _)); exact BK101.out) hb); have n2_ := Am_ (Be_ (by repeat (first | (with_reducible first | exact HB.out | apply Pa_ | apply Pn_ | apply Pd_ | refine Bs_ ?_ GE101.out) | exact HB.out)) hb); have n3_ := Am_ (hbox); have n4_ := Am_ ((by rw [hg]; exact (Bz_ (by repeat (first | (with_reducible first | exact HB.out | apply Pa_ | apply Pn_ | apply Pd_ | refine Bs_ ?_ GE101.out) | exact HB.out))) : w.heap.size ≤ gb102)); have n5_ := Am_ ((by rw [hg]; exact (Bz_ (by repeat (first | (with_reducible first | exact HB.out | apply Pa_ | apply Pn_ | apply Pd_ | refine Bs_ ?_ GE101.out) | exact HB.out))) : w.heap.size ≤ gb102)); have n6_ := Am_ ((by rw [hg]; exact Nat.ne_of_lt (blk_lt (g := gb101) (o := .cells #[.slice A0_0 l0_0.length c0_0, .slice A0_1 l0_1.length c0_1] 25 (0, 0)) (by (with_reducible repeat (first | refine Bn_ ?_ _ | refine Bd_ ?_ | refine Ba_ ?_ _)); exact BK101.out)) : gb101 ≠ gb102)); have n7_ := Am_ ((by rw [hg]; exact Nat.ne_of_gt (blk_lt (g := gb101) (o := .cells #[.slice A0_0 l0_0.length c0_0, .slice A0_1 l0_1.length c0_1] 25 (0, 0)) (by (with_reducible repeat (first | refine Bn_ ?_ _ | refine Bd_ ?_ | refine Ba_ ?_ _)); exact BK101.out)) : gb102 ≠ gb101)); clear HO0_1; clear BK101; clear HB; have HO0_1 := n0_; have BK101 := n1_; have HB := n2_; have BK102 := n3_; have GW102 := n4_; have GE102 := n5_; have NB101_102 := n6_; have NB102_101 := n7_; clear n0_ n1_ n2_ n3_ n4_ n5_ n6_ n7_; clear hb hbox hg) | ((with_reducible refine gate_dst (N := 5) rfl ?_); refine Kd.R_lit k52 _ 52 ?hg (N := 5) ?hd (xs := ([] : List (S52))) (inner := []) (ok := fun _ => True) (okp := fun _ => True) ?hr ?hp (fun _ hk => hk) trivial (Below.refl _ _) (Nat.le_refl _) (by simp) ?_; (case hd => rfl); (case hg => rfl); (case hr => first | (go_simp; done) | (go_simp; rfl)); (case hp => exact (Reps.none _ _)); intro v104 w4 ho5 hb hg_ hnew_; clear hg_ hnew_; (first | rw [← Ny103.out] at ho5 | (simp only [Int.reduceToNat] at ho5; rw [← Ny103.out] at ho5)); have n0_ := Am_ (Kd.V_elder' (by (with_reducible repeat (first | apply Va_ | apply Vn_ | apply Vd_)); exact HO0_1.out) (Kd.R_base ho5) hb); have n1_ := Am_ (Kd.R_lower (Kd.R_newM (M := fun k_ => (w.heap.size ≤ k_)) ho5 (Bz_ (by repeat (first | (with_reducible first | exact HB.out | apply Pa_ | apply Pn_ | apply Pd_ | refine Bs_ ?_ GE101.out | refine Bs_ ?_ GE102.out) | exact HB.out))) (fun k_ h_ => h_)) (Bz_ (by repeat (first | (with_reducible first | exact HB.out | apply Pa_ | apply Pn_ | apply Pd_ | refine Bs_ ?_ GE101.out | refine Bs_ ?_ GE102.out) | exact HB.out)))); have n2_ := Am_ (Bb_ (g := gb101) (o := .cells #[.slice A0_0 l0_0.length c0_0, .slice A0_1 l0_1.length c0_1] 25 (0, 0)) (by (with_reducible repeat (first | refine Bn_ ?_ _ | refine Bd_ ?_ | refine Ba_ ?_ _)); exact BK101.out) hb); have n3_ := Am_ (Bb_ (g := gb102) (o := .cells #[.slice none 0 0, .slice none 0 0] 33 (0, 0)) (by (with_reducible repeat (first | refine Bn_ ?_ _ | refine Bd_ ?_ | refine Ba_ ?_ _)); exact BK102.out) hb); have n4_ := Am_ (Be_ (by repeat (first | (with_reducible first | exact HB.out | apply Pa_ | apply Pn_ | apply Pd_ | refine Bs_ ?_ GE101.out | refine Bs_ ?_ GE102.out) | exact HB.out)) hb); clear HO0_1; clear BK101; clear BK102; clear HB; have HO0_1 := n0_; have HO105 := n1_; have BK101 := n2_; have BK102 := n3_; have HB := n4_; clear n0_ n1_ n2_ n3_ n4_; clear hb ho5))
 go_loopg [3, 4] k (fun kq v3 v4 w' => ∃ (x3_1 : List (S52)) (x4_1 : Int), v4 = .int .i64 x4_1 ∧ Aside0 (flagstonelaw11_its.l0 kq x3_1 x4_1 l0_0 l0_1 = some (r1, r2)) ∧ Aside0 (kq ≤ k) ∧ Aside0 (Kd.R k52 52 w' w.heap.size (fun k_ => (w.heap.size ≤ k_)) v3 x3_1) ∧ Aside0 (Kd.V (Kd.slice 3 (Kd.int .i64)) 48 w' w.heap.size (fun k_ => (P0_1_ k_ ∨ w.heap.size ≤ k_) ∧ some k_ ≠ (v3 : Value).ownBlock ∧ k_ ≠ gb101 ∧ k_ ≠ gb102) (.slice A0_1 l0_1.length c0_1) l0_1) ∧ Aside0 (w'.heap[gb101]? = some (.cells #[(.slice A0_0 l0_0.length c0_0), (.slice A0_1 l0_1.length c0_1)] 25 (0, 0))) ∧ Aside0 (w'.heap[gb102]? = some (.cells #[(.slice none 0 0), (.slice none 0 0)] 33 (0, 0))) ∧ Aside0 (Below w.heap.size w w'))
 case atStart => exact ⟨(y103), (0), (by first | rfl | (simp; done) | (simp [*]; done)), H', ⟨Nat.le_refl _⟩, ⟨by (with_reducible repeat (first | apply Ra_ | apply Rn_ | apply Rd_)); exact Kd.R_mono HO105.out (fun _ hk => hk.1)⟩, ⟨by (with_reducible repeat (first | apply Va_ | apply Vn_ | apply Vd_)); exact Vm_ HO0_1.out (fun _ hk => ⟨hk.1.1.1, ⟨hk.2, ⟨hk.1.1.2, hk.1.2⟩⟩⟩)⟩, ⟨by (with_reducible repeat (first | refine Bn_ ?_ _ | refine Bd_ ?_ | refine Ba_ ?_ _)); exact BK101.out⟩, ⟨by (with_reducible repeat (first | refine Bn_ ?_ _ | refine Bd_ ?_ | refine Ba_ ?_ _)); exact BK102.out⟩, ⟨by repeat (first | (with_reducible first | exact HB.out | apply Pa_ | apply Pn_ | apply Pd_ | refine Bs_ ?_ GE101.out | refine Bs_ ?_ GE102.out) | exact HB.out)⟩⟩
 case round =>
  clear H'
  try clear c1
  try clear p2
  obtain ⟨x3_1, x4_1, rfl, HA, HK1, HO_3, HO_102001, BK101, BK102, HB⟩ := hrel
  cases gk with
  | zero => exact absurd HA.out (by simp [flagstonelaw11_its.l0])
  | succ k1 =>
   have H := HA.out
   clear HA
   simp only [flagstonelaw11_its.l0] at H
   by_cases c6 : x4_1 < (l0_0.length : Int)
   ·rw [if_pos c6] at H
    have c6b0 : decide (x4_1 < (l0_0.length : Int)) = true := Dt_ c6
    clear c6
    by_cases c7 : 0 ≤ x4_1
    ·rw [if_pos c7] at H
     have c7b0 : decide (0 ≤ x4_1) = true := Dt_ c7
     clear c7
     by_cases c8 : x3_1.length < 3518437208883
     ·rw [if_pos c8] at H
      have LMc8 := Am_ c8
      clear c8
      obtain ⟨y107, hy107⟩ : ∃ y_ : List (S52), y_ = (x3_1 ++ [(⟨(rd_T44 l0_0 x4_1).f0, (rd_T44 l0_0 x4_1).f1, (rd_T44 l0_0 x4_1).f2, (rd_T44 l0_0 x4_1).f3, (rd_T44 l0_0 x4_1).f4, (rd_T44 l0_0 x4_1).f5⟩ : S52)]) := ⟨_, rfl⟩
      replace H : (flagstonelaw11_its.l0 k1 y107 (wrap64 (x4_1 + 1)) l0_0 l0_1) = some (r1, r2) := by first | (rw [hy107]; with_reducible exact H) | (have H2_ := (Option.bind_some _ _).symm.trans H; rw [hy107]; with_reducible exact H2_) | (have H2_ := (Option.bind_some _ _).symm.trans H; with_reducible exact H2_) | with_reducible exact H | (rw [hy107]; exact H) | exact H
      have Ny107 := Am_ hy107
      clear hy107
      have H' := Am_ H
      clear H
      have hnb9 := NB101_102.out
      have hnc9 := NB102_101.out
      have hcz10_0 : wr.cell? ⟨gb101, 0, none⟩ = some (.slice A0_0 l0_0.length c0_0) := (Bc_ BK101.out 0).trans rfl
      have hcz10_1 : wr.cell? ⟨gb101, 1, none⟩ = some (.slice A0_1 l0_1.length c0_1) := (Bc_ BK101.out 1).trans rfl
      have hfz10_0 := Bf_ BK101.out 0
      have hfz10_1 := Bf_ BK101.out 1
      have p106 : 0 ≤ (x4_1 : Int) := Ot_ (by first | (with_reducible assumption) | assumption)
      have q106 : x4_1 < (l0_0.length : Int) := Ot_ (by first | (with_reducible assumption) | assumption)
      obtain ⟨ad106, e106, hx106_0, hx106_1, hx106_2, hx106_3, hx106_4, hx106_5⟩ := at_T44 HR0_0.out x4_1 p106 q106
      cases e106
      replace hx106_0 := (HB.out.cell (Bl_ w _ hx106_0)).trans hx106_0
      replace hx106_1 := (HB.out.cell (Bl_ w _ hx106_1)).trans hx106_1
      replace hx106_2 := (HB.out.cell (Bl_ w _ hx106_2)).trans hx106_2
      replace hx106_3 := (HB.out.cell (Bl_ w _ hx106_3)).trans hx106_3
      replace hx106_4 := (HB.out.cell (Bl_ w _ hx106_4)).trans hx106_4
      replace hx106_5 := (HB.out.cell (Bl_ w _ hx106_5)).trans hx106_5
      replace p106 := eq_true p106
      replace q106 := eq_true q106
      go_wp2_with (first | ((with_reducible refine gate_builtin (b := .append) (xs := #[.tmp 13, .tmp 19]) rfl ?_); at_builtin; refine Kd.R_append k52 (w0 := w) w.heap.size rfl (.tmp 13) (.tmp 19) 31 52 (.agg #[(.int .i64 0), (.int .i64 0), (.bool false), (.bool false), (.int .i64 0), (.int .i64 0)]) 40 rfl Try.underlying31 info52 rfl (by decide) (by omega) u3 x3_1 (⟨(rd_T44 l0_0 x4_1).f0, (rd_T44 l0_0 x4_1).f1, (rd_T44 l0_0 x4_1).f2, (rd_T44 l0_0 x4_1).f3, (rd_T44 l0_0 x4_1).f4, (rd_T44 l0_0 x4_1).f5⟩ : S52) [.int .i64 ((rd_T44 l0_0 x4_1).f0), .int .i64 ((rd_T44 l0_0 x4_1).f1), .bool ((rd_T44 l0_0 x4_1).f2), .bool ((rd_T44 l0_0 x4_1).f3), .int .i64 ((rd_T44 l0_0 x4_1).f4), .int .i64 ((rd_T44 l0_0 x4_1).f5)] (fun k_ => (w.heap.size ≤ k_)) (fun _ => False) rfl rfl ?aP (fun _ hk => hk.elim) ?aF ?aO ?aB ?aS ?aL ?_; (case aP => exact k52_mkM _ _ _ (⟨(rd_T44 l0_0 x4_1).f0, (rd_T44 l0_0 x4_1).f1, (rd_T44 l0_0 x4_1).f2, (rd_T44 l0_0 x4_1).f3, (rd_T44 l0_0 x4_1).f4, (rd_T44 l0_0 x4_1).f5⟩ : S52)); (case aB => exact (by repeat (first | (with_reducible first | exact HB.out | apply Pa_ | apply Pn_ | apply Pd_ | refine Bs_ ?_ GE101.out | refine Bs_ ?_ GE102.out) | exact HB.out))); (case aF => exact (fun k_ hk => (Nat.le_trans (Bz_ (by repeat (first | (with_reducible first | exact HB.out | apply Pa_ | apply Pn_ | apply Pd_ | refine Bs_ ?_ GE101.out | refine Bs_ ?_ GE102.out) | exact HB.out))) hk))); (case aO => exact (by (with_reducible repeat (first | apply Ra_ | apply Rn_ | apply Rd_)); exact HO_3.out)); (case aS => exact (Bz_ (by repeat (first | (with_reducible first | exact HB.out | apply Pa_ | apply Pn_ | apply Pd_ | refine Bs_ ?_ GE101.out | refine Bs_ ?_ GE102.out) | exact HB.out)))); (case aL => have := LMc8.out; omega); intro v108 w11 ho hb hg hat; rw [← Ny107.out] at ho; have n0_ := Am_ (Kd.V_afterv (ok := (fun k_ => (P0_1_ k_ ∨ w.heap.size ≤ k_) ∧ k_ ≠ gb101 ∧ k_ ≠ gb102)) (by (with_reducible repeat (first | apply Va_ | apply Vn_ | apply Vd_)); exact Vm_ HO_102001.out (fun _ hk => ⟨⟨hk.1, ⟨hk.2.2.1, hk.2.2.2⟩⟩, hk.2.1⟩)) hg hat); have n1_ := Am_ (Bg_ (g := gb101) (o := .cells #[.slice (some ad106) l0_0.length c0_0, .slice A0_1 l0_1.length c0_1] 25 (0, 0)) (by (with_reducible repeat (first | refine Bn_ ?_ _ | refine Bd_ ?_ | refine Ba_ ?_ _)); exact BK101.out) hg (Kd.R_ne HO_3.out BK101.out (by decide))); have n2_ := Am_ (Bg_ (g := gb102) (o := .cells #[.slice none 0 0, .slice none 0 0] 33 (0, 0)) (by (with_reducible repeat (first | refine Bn_ ?_ _ | refine Bd_ ?_ | refine Ba_ ?_ _)); exact BK102.out) hg (Kd.R_ne HO_3.out BK102.out (by decide))); have n3_ := Am_ (hb); have n4_ := Am_ (ho); clear HO_102001; clear BK101; clear BK102; clear HB; clear HO_3; have HO_102001 := n0_; have BK101 := n1_; have BK102 := n2_; have HB := n3_; have HO109 := n4_; clear n0_ n1_ n2_ n3_ n4_; clear ho hb hg hat))
      go_roundg k1
      case measure => have := HK1.out; omega
      case rel => exact ⟨(y107), (wrap64 (x4_1 + 1)), (by first | rfl | (simp; done) | (simp [*]; done)), H', ⟨by have := HK1.out; omega⟩, ⟨by (with_reducible repeat (first | apply Ra_ | apply Rn_ | apply Rd_)); exact HO109.out⟩, ⟨by (with_reducible repeat (first | apply Va_ | apply Vn_ | apply Vd_)); exact Vm_ HO_102001.out (fun _ hk => ⟨hk.1.1, ⟨hk.2, ⟨hk.1.2.1, hk.1.2.2⟩⟩⟩)⟩, ⟨by (with_reducible repeat (first | refine Bn_ ?_ _ | refine Bd_ ?_ | refine Ba_ ?_ _)); exact BK101.out⟩, ⟨by (with_reducible repeat (first | refine Bn_ ?_ _ | refine Bd_ ?_ | refine Ba_ ?_ _)); exact BK102.out⟩, ⟨by repeat (first | (with_reducible first | exact HB.out | apply Pa_ | apply Pn_ | apply Pd_ | refine Bs_ ?_ GE101.out | refine Bs_ ?_ GE102.out) | exact HB.out)⟩⟩
     ·rw [if_neg c8] at H
      exact absurd H (by simp)
    ·rw [if_neg c7] at H
     exact absurd H (by simp)
   ·rw [if_neg c6] at H
    have c6b0 : decide (x4_1 < (l0_0.length : Int)) = false := Df_ c6
    clear c6
    simp only [Option.some.injEq, Prod.mk.injEq] at H
    obtain ⟨rfl, rfl⟩ := H
    have hnb12 := NB101_102.out
    have hnc12 := NB102_101.out
    have hcz13_0 : wr.cell? ⟨gb101, 0, none⟩ = some (.slice A0_0 l0_0.length c0_0) := (Bc_ BK101.out 0).trans rfl
    have hcz13_1 : wr.cell? ⟨gb101, 1, none⟩ = some (.slice A0_1 l0_1.length c0_1) := (Bc_ BK101.out 1).trans rfl
    have hfz13_0 := Bf_ BK101.out 0
    have hfz13_1 := Bf_ BK101.out 1
    obtain ⟨Ao14, co14, eo14⟩ := Kd.R_slice HO_3.out
    subst eo14
    have hcz15_0 : wr.cell? ⟨gb102, 0, none⟩ = some (.slice none 0 0) := (Bc_ BK102.out 0).trans rfl
    have hcz15_1 : wr.cell? ⟨gb102, 1, none⟩ = some (.slice none 0 0) := (Bc_ BK102.out 1).trans rfl
    have hfz15_0 := Bf_ BK102.out 0
    have hfz15_1 := Bf_ BK102.out 1
    go_wp2
    refine bodyPost_ret (results_cell_row rfl _ _ gb102 33 #[.slice Ao14 x3_1.length co14, .slice A0_1 l0_1.length c0_1] (0, 0) _ rfl (by (with_reducible repeat (first | refine Bn_ ?_ _ | refine Bd_ ?_ | refine Ba_ ?_ _)); refine Bp_ (cs := #[.slice Ao14 x3_1.length co14, .slice none 0 0]) ?_ 1 _ rfl; (with_reducible repeat (first | refine Bn_ ?_ _ | refine Bd_ ?_ | refine Ba_ ?_ _)); refine Bp_ (cs := #[.slice none 0 0, .slice none 0 0]) ?_ 0 _ rfl; (with_reducible repeat (first | refine Bn_ ?_ _ | refine Bd_ ?_ | refine Ba_ ?_ _)); exact BK102.out) Try.underlying33 rfl (by kernel_rfl)) rfl ?_
    exact ⟨_, _, by first | rfl | (simp [errW_none, errW_some] <;> rfl) | (simp [*, errW_none, errW_some] <;> rfl), by (with_reducible repeat (first | apply Ra_ | apply Rn_ | apply Rd_)); exact Kd.R_mono (Kd.R_far (p := ⟨gb102, 1, none⟩) (Kd.R_far (p := ⟨gb102, 0, none⟩) (Kd.R_types HO_3.out BK102.out (by decide)) (fun _ hk => hk.2) (.slice Ao14 x3_1.length co14)) (fun _ hk => hk.2) (.slice A0_1 l0_1.length c0_1)) (fun _ hk => hk.1), by (with_reducible repeat (first | apply Va_ | apply Vn_ | apply Vd_)); exact Vm_ (Vf_ (p := ⟨gb102, 1, none⟩) (Vf_ (p := ⟨gb102, 0, none⟩) (Vm_ HO_102001.out (fun k_ hk => (⟨hk, hk.2.2.2⟩ : _ ∧ k_ ≠ gb102))) (fun _ hk => hk.2) (.slice Ao14 x3_1.length co14)) (fun _ hk => hk.2) (.slice A0_1 l0_1.length c0_1)) (fun _ hk => ⟨hk.1.1, hk.1.2.1⟩), by repeat (first | (with_reducible first | exact HB.out | apply Pa_ | apply Pn_ | apply Pd_ | refine Bs_ ?_ GE101.out | refine Bs_ ?_ GE102.out) | exact HB.out)⟩

end Go.Proofs.Ytbfjakhloabhmaa.P
