-- Printed by a program of this session (inject.py) over the kit's print, with functions that were proved by hand in their places.
import Derived.Test.YtkecfdljodiifaaPK
namespace Go.Proofs.Ytkecfdljodiifaa.P
open Go.RowKit Go.Proofs.YtkecfdljodiifaaW.PrintWords Go.Proofs.YtkecfdljodiifaaW.PrintLast Go.Proofs.YtkecfdljodiifaaW.PrintMore
attribute [local go_sem] max2_int min2_int max_two min_two max_three min_three max_four min_four   -- for this text's walks alone
set_option linter.unusedVariables false
set_option linter.unusedSimpArgs false

/-! ### flagstoneref10_copied: function 40 -/
def flagstoneref10_copied.l0 : Nat → Int → List (S54) → List (List Int) → List (S54) → List (List Int) → Option ((List (S54)) × (List (List Int)))
 | 0, _, _, _, _, _ => none
 | k + 1, x4, x260000, x260001, x268000, x268001 => if x4 < (x260001.length : Int) then ((some (([] : List Int) : List Int)).bind fun y268 => (if 0 ≤ x4 then (if y268.length + (rd_L1 x260001 x4).length < 17592186044416 then (if x268001.length < 5864062014805 then (flagstoneref10_copied.l0 k (wrap64 (x4 + 1)) x260000 x260001 x268000 (x268001 ++ [(y268 ++ (rd_L1 x260001 x4))])) else (none)) else (none)) else (none))) else (some (x268000, x268001))
def flagstoneref10_copied.f (k : Nat) (l0_0 : List (S54)) (l0_1 : List (List Int)) : Option ((List (S54)) × (List (List Int))) := (some (([] : List (S54)) : List (S54))).bind fun y261 => (if y261.length + l0_0.length < 3518437208883 then (flagstoneref10_copied.l0 k 0 l0_0 l0_1 (y261 ++ l0_0) ([] : List (List Int))) else (none))
theorem flagstoneref10_copied.mono_l : ∀ k, (∀ y0 y1 y2 y3 y4, LeO (flagstoneref10_copied.l0 k y0 y1 y2 y3 y4) (flagstoneref10_copied.l0 (k + 1) y0 y1 y2 y3 y4))
 | 0 => fun _ _ _ _ _ r h => by simp [flagstoneref10_copied.l0] at h
 | k + 1 => by
  have ih0 := flagstoneref10_copied.mono_l k
  ·intro y0 y1 y2 y3 y4
   unfold flagstoneref10_copied.l0
   repeat' first
   | (with_reducible exact ih0 _ _ _ _ _)
   | (with_reducible exact LeO.refl _)
   | (with_reducible exact LeO.none _)
   | (with_reducible refine LeO.ite ?_ ?_)
   | (with_reducible refine LeO.bind ?_ (fun _ => ?_))
   | exact ih0 _ _ _ _ _
   | exact LeO.none _
   | refine LeO.ite ?_ ?_
   | refine LeO.bind ?_ (fun _ => ?_)
theorem flagstoneref10_copied.mono : ∀ a0 a1 k, LeO (flagstoneref10_copied.f k a0 a1) (flagstoneref10_copied.f (k + 1) a0 a1) := by
 intro a0 a1 k
 have ih0 := flagstoneref10_copied.mono_l k
 unfold flagstoneref10_copied.f
 repeat' first
   | (with_reducible exact ih0 _ _ _ _ _)
   | (with_reducible exact LeO.refl _)
   | (with_reducible exact LeO.none _)
   | (with_reducible refine LeO.ite ?_ ?_)
   | (with_reducible refine LeO.bind ?_ (fun _ => ?_))
   | exact ih0 _ _ _ _ _
   | exact LeO.none _
   | refine LeO.ite ?_ ?_
   | refine LeO.bind ?_ (fun _ => ?_)
def flagstoneref10_copied.T5 : Bool × List (List Nat × List Nat) := (true, [([], []), ([0], [0]), ([], []), ([], []), ([3], [3]), ([], []), ([4, 5], [4, 5]), ([6], [6]), ([2, 7], [2, 7]), ([8], [8]), ([1, 9, 8], [1, 9]), ([0, 1, 2, 3, 4, 5, 6, 7, 8, 9, 10], []), ([11, 10, 10, 0, 1, 2, 3, 4, 5, 6, 7, 8, 9, 10], [10, 11])])
def flagstoneref10_copied.B5 : List Nat := [0, 1, 0, 0, 8, 0, 56, 120, 252, 508, 1023, 2047, 4095]
theorem flagstoneref10_copied.tab5 : rtab .any (opsOf Try.f40 5) = flagstoneref10_copied.T5 := by kernel_rfl
theorem flagstoneref10_copied.bits5 : waitsOk flagstoneref10_copied.T5.2 flagstoneref10_copied.B5 = true := by kernel_rfl
set_option maxHeartbeats 8000000 in
set_option maxRecDepth 100000 in
theorem flagstoneref10_copied.calls (k : Nat) (A0_0 : Option Addr) (c0_0 : Nat) (l0_0 : List (S54)) (A0_1 : Option Addr) (c0_1 : Nat) (l0_1 : List (List Int)) (r1 : List (S54)) (r2 : List (List Int)) (w : World) (hr0_0 : Kd.C k54 w A0_0 l0_0.length l0_0) (hc0_0 : l0_0.length ≤ c0_0) (hr0_1 : Kd.C (Kd.slice 3 (Kd.int .i64)) w A0_1 l0_1.length l0_1) (hc0_1 : l0_1.length ≤ c0_1) (h : flagstoneref10_copied.f k l0_0 l0_1 = some (r1, r2)) :
  Calls Try.prog 40 #[.agg #[.slice A0_0 l0_0.length c0_0, .slice A0_1 l0_1.length c0_1]] w fun e w' => ∃ v0_ v1_ : Value, e = .returned (.agg #[v0_, v1_]) ∧ Kd.R k54 54 w' w.heap.size (fun _ => True) v0_ r1 ∧ Kd.S (Kd.slice 3 (Kd.int .i64)) 64 w' w.heap.size (fun _ => True) v1_ r2 ∧ Below w.heap.size w w' := by
 have hu31 := Try.underlying31
 have HR0_0 := Am_ hr0_0
 have HC0_0 := Am_ hc0_0
 clear hr0_0 hc0_0
 have HR0_1 := Am_ hr0_1
 have HC0_1 := Am_ hc0_1
 clear hr0_1 hc0_1
 have HB := Am_ (Below.refl w.heap.size w)
 have H : ((some (([] : List (S54)) : List (S54))).bind fun y261 => (if y261.length + l0_0.length < 3518437208883 then (flagstoneref10_copied.l0 k 0 l0_0 l0_1 (y261 ++ l0_0) ([] : List (List Int))) else (none))) = some (r1, r2) := h
 clear h
 obtain ⟨y261, hy261⟩ : ∃ y_ : List (S54), y_ = (([] : List (S54))) := ⟨_, rfl⟩
 replace H : (if y261.length + l0_0.length < 3518437208883 then (flagstoneref10_copied.l0 k 0 l0_0 l0_1 (y261 ++ l0_0) ([] : List (List Int))) else (none)) = some (r1, r2) := by first | (rw [hy261]; with_reducible exact H) | (have H2_ := (Option.bind_some _ _).symm.trans H; rw [hy261]; with_reducible exact H2_) | (have H2_ := (Option.bind_some _ _).symm.trans H; with_reducible exact H2_) | with_reducible exact H | (rw [hy261]; exact H) | exact H
 have Ny261 := Am_ hy261
 clear hy261
 by_cases c2 : y261.length + l0_0.length < 3518437208883
 ·rw [if_pos c2] at H
  have LMc2 := Am_ c2
  clear c2
  obtain ⟨y264, hy264⟩ : ∃ y_ : List (S54), y_ = (y261 ++ l0_0) := ⟨_, rfl⟩
  replace H : (flagstoneref10_copied.l0 k 0 l0_0 l0_1 y264 ([] : List (List Int))) = some (r1, r2) := by first | (rw [hy264]; with_reducible exact H) | (have H2_ := (Option.bind_some _ _).symm.trans H; rw [hy264]; with_reducible exact H2_) | (have H2_ := (Option.bind_some _ _).symm.trans H; with_reducible exact H2_) | with_reducible exact H | (rw [hy264]; exact H) | exact H
  have Ny264 := Am_ hy264
  clear hy264
  have H' := Am_ H
  clear H
  go_enter Try.func40, Try.ntmps40
  go_wp2_with (first | ((with_reducible refine gate_dst (N := 1) rfl ?_); refine box_event ?hg (N := 1) ?hd (cs := #[.slice A0_0 l0_0.length c0_0, .slice A0_1 l0_1.length c0_1]) (t := 31) ?hr ?_; (case hd => rfl); (case hg => rfl); (case hr => go_simp; try rfl); intro gb259 hg w3 hbox hb; have n0_ := Am_ (Be_ (Pb0_ HB.out) hb); have n1_ := Am_ (hbox); have n2_ := Am_ ((by rw [hg]; exact (Bz_ (Pb0_ HB.out)) : w.heap.size ≤ gb259)); have n3_ := Am_ ((by rw [hg]; exact (Bz_ (Pb0_ HB.out)) : w.heap.size ≤ gb259)); clear HB; have HB := n0_; have BK259 := n1_; have GW259 := n2_; have GE259 := n3_; clear n0_ n1_ n2_ n3_; clear hb hbox hg) | ((with_reducible refine gate_dst (N := 2) rfl ?_); refine box_event ?hg (N := 2) ?hd (cs := #[.slice none 0 0, .slice none 0 0]) (t := 31) ?hr ?_; (case hd => rfl); (case hg => rfl); (case hr => go_simp; try rfl); intro gb260 hg w4 hbox hb; have n0_ := Am_ (Bb_ (g := gb259) (o := .cells #[.slice A0_0 l0_0.length c0_0, .slice A0_1 l0_1.length c0_1] 31 (0, 0)) (Pk_ BK259.out) hb); have n1_ := Am_ (Be_ (Pb1_ HB.out GE259.out) hb); have n2_ := Am_ (hbox); have n3_ := Am_ ((by rw [hg]; exact (Bz_ (Pb1_ HB.out GE259.out)) : w.heap.size ≤ gb260)); have n4_ := Am_ ((by rw [hg]; exact (Bz_ (Pb1_ HB.out GE259.out)) : w.heap.size ≤ gb260)); have n5_ := Am_ ((by rw [hg]; exact Nat.ne_of_lt (blk_lt (g := gb259) (o := .cells #[.slice A0_0 l0_0.length c0_0, .slice A0_1 l0_1.length c0_1] 31 (0, 0)) (Pk_ BK259.out)) : gb259 ≠ gb260)); have n6_ := Am_ ((by rw [hg]; exact Nat.ne_of_gt (blk_lt (g := gb259) (o := .cells #[.slice A0_0 l0_0.length c0_0, .slice A0_1 l0_1.length c0_1] 31 (0, 0)) (Pk_ BK259.out)) : gb260 ≠ gb259)); clear BK259; clear HB; have BK259 := n0_; have HB := n1_; have BK260 := n2_; have GW260 := n3_; have GE260 := n4_; have NB259_260 := n5_; have NB260_259 := n6_; clear n0_ n1_ n2_ n3_ n4_ n5_ n6_; clear hb hbox hg) | ((with_reducible refine gate_dst (N := 5) rfl ?_); refine Kd.R_lit k54 _ 54 ?hg (N := 5) ?hd (xs := ([] : List (S54))) (inner := []) (ok := fun _ => True) (okp := fun _ => True) ?hr ?hp (fun _ hk => hk) trivial (Below.refl _ _) (Nat.le_refl _) (by simp) ?_; (case hd => rfl); (case hg => rfl); (case hr => go_simp; try rfl); (case hp => exact (Reps.none _ _)); intro v262 w5 ho6 hb hg_ hnew_; clear hg_ hnew_; (first | rw [← Ny261.out] at ho6 | (simp only [Int.reduceToNat] at ho6; rw [← Ny261.out] at ho6)); have n0_ := Am_ (Kd.R_lower ho6 (Bz_ (Pb2_ HB.out GE259.out GE260.out))); have n1_ := Am_ (Bb_ (g := gb259) (o := .cells #[.slice A0_0 l0_0.length c0_0, .slice A0_1 l0_1.length c0_1] 31 (0, 0)) (Pk_ BK259.out) hb); have n2_ := Am_ (Bb_ (g := gb260) (o := .cells #[.slice none 0 0, .slice none 0 0] 31 (0, 0)) (Pk_ BK260.out) hb); have n3_ := Am_ (Be_ (Pb2_ HB.out GE259.out GE260.out) hb); clear BK259; clear BK260; clear HB; have HO263 := n0_; have BK259 := n1_; have BK260 := n2_; have HB := n3_; clear n0_ n1_ n2_ n3_; clear hb ho6; have hnb7 := NB259_260.out; have hnc7 := NB260_259.out; obtain ⟨hcz8_0, hcz8_1, hfz8_0, hfz8_1⟩ := Ce2_ BK259.out) | ((with_reducible refine gate_builtin (b := .append) (xs := #[.tmp 5, .tmp 7]) rfl ?_); at_builtin; refine Kd.R_append_rows k54 (w0 := w) w.heap.size rfl (.tmp 5) (.tmp 7) 29 54 (.agg #[(.int .i64 0), (.int .i64 0), (.bool false), (.bool false), (.int .i64 0), (.int .i64 0)]) 40 rfl Try.underlying29 info54 rfl (by decide) (by omega) v262 y261 l0_0 _ _ _ (fun _ => True) (fun _ => False) rfl rfl ?aO ?aR (fun _ _ h => h) (fun _ h => h.elim) ?aF ?aB ?aS ?aL ?_; (case aR => repeat (first | exact (Kd.C_below HR0_0.out HB.out) | (with_reducible refine Kd.C_alloc ?_ _) | (with_reducible refine Kd.C_drewN ?_ _) | (with_reducible refine Kd.C_drew ?_))); (case aB => exact (Pb2_ HB.out GE259.out GE260.out)); (case aF => exact (fun _ _ => trivial)); (case aO => exact (Px_ HO263.out)); (case aS => exact (Bz_ (Pb2_ HB.out GE259.out GE260.out))); (case aL => have := LMc2.out; omega); intro v265 w9 ho hb hg hat; rw [← Ny264.out] at ho; have n0_ := Am_ (Bg_ (g := gb259) (o := .cells #[.slice A0_0 l0_0.length c0_0, .slice A0_1 l0_1.length c0_1] 31 (0, 0)) (Pk_ BK259.out) hg (Kd.R_ne HO263.out BK259.out (by decide))); have n1_ := Am_ (Bg_ (g := gb260) (o := .cells #[.slice none 0 0, .slice none 0 0] 31 (0, 0)) (Pk_ BK260.out) hg (Kd.R_ne HO263.out BK260.out (by decide))); have n2_ := Am_ (hb); have n3_ := Am_ (ho); clear BK259; clear BK260; clear HB; clear HO263; have BK259 := n0_; have BK260 := n1_; have HB := n2_; have HO266 := n3_; clear n0_ n1_ n2_ n3_; clear ho hb hg hat; obtain ⟨Ao10, co10, eo10⟩ := Kd.R_slice HO266.out; subst eo10) | ((with_reducible refine gate_dst (N := 3) rfl ?_); refine box_event ?hg (N := 3) ?hd (cs := #[.slice none 0 0, .slice none 0 0]) (t := 31) ?hr ?_; (case hd => rfl); (case hg => rfl); (case hr => go_simp; try rfl); intro gb267 hg w11 hbox hb; have n0_ := Am_ (Rb_ (Px_ HO266.out) hb); have n1_ := Am_ (Bb_ (g := gb259) (o := .cells #[.slice A0_0 l0_0.length c0_0, .slice A0_1 l0_1.length c0_1] 31 (0, 0)) (Pk_ BK259.out) hb); have n2_ := Am_ (Bb_ (g := gb260) (o := .cells #[.slice none 0 0, .slice none 0 0] 31 (0, 0)) (Pk_ BK260.out) hb); have n3_ := Am_ (Be_ (Pb2_ HB.out GE259.out GE260.out) hb); have n4_ := Am_ (hbox); have n5_ := Am_ ((by rw [hg]; exact (Bz_ (Pb2_ HB.out GE259.out GE260.out)) : w.heap.size ≤ gb267)); have n6_ := Am_ ((by rw [hg]; exact (Bz_ (Pb2_ HB.out GE259.out GE260.out)) : w.heap.size ≤ gb267)); have n7_ := Am_ ((by rw [hg]; exact Nat.ne_of_lt (blk_lt (g := gb259) (o := .cells #[.slice A0_0 l0_0.length c0_0, .slice A0_1 l0_1.length c0_1] 31 (0, 0)) (Pk_ BK259.out)) : gb259 ≠ gb267)); have n8_ := Am_ ((by rw [hg]; exact Nat.ne_of_gt (blk_lt (g := gb259) (o := .cells #[.slice A0_0 l0_0.length c0_0, .slice A0_1 l0_1.length c0_1] 31 (0, 0)) (Pk_ BK259.out)) : gb267 ≠ gb259)); have n9_ := Am_ ((by rw [hg]; exact Nat.ne_of_lt (blk_lt (g := gb260) (o := .cells #[.slice none 0 0, .slice none 0 0] 31 (0, 0)) (Pk_ BK260.out)) : gb260 ≠ gb267)); have n10_ := Am_ ((by rw [hg]; exact Nat.ne_of_gt (blk_lt (g := gb260) (o := .cells #[.slice none 0 0, .slice none 0 0] 31 (0, 0)) (Pk_ BK260.out)) : gb267 ≠ gb260)); clear HO266; clear BK259; clear BK260; clear HB; have HO266 := n0_; have BK259 := n1_; have BK260 := n2_; have HB := n3_; have BK267 := n4_; have GW267 := n5_; have GE267 := n6_; have NB259_267 := n7_; have NB267_259 := n8_; have NB260_267 := n9_; have NB267_260 := n10_; clear n0_ n1_ n2_ n3_ n4_ n5_ n6_ n7_ n8_ n9_ n10_; clear hb hbox hg; have hnb12 := NB267_259.out; have hnc12 := NB259_267.out; have hnb13 := NB267_260.out; have hnc13 := NB260_267.out; obtain ⟨hcz14_0, hcz14_1, hfz14_0, hfz14_1⟩ := Ce2_ BK267.out))
  go_loopg [4] k (fun kq v4 w' => ∃ (x4_1 : Int) (x268001_1 : List (List Int)) (u268001 : Value), v4 = .int .i64 x4_1 ∧ Aside0 (flagstoneref10_copied.l0 kq x4_1 l0_0 l0_1 y264 x268001_1 = some (r1, r2)) ∧ Aside0 (kq ≤ k) ∧ Aside0 (Kd.R k54 54 w' w.heap.size (fun _ => True) (.slice Ao10 y264.length co10) y264) ∧ Aside0 (Kd.S (Kd.slice 3 (Kd.int .i64)) 64 w' w.heap.size (fun _ => True) u268001 x268001_1) ∧ Aside0 (w'.heap[gb259]? = some (.cells #[(.slice A0_0 l0_0.length c0_0), (.slice A0_1 l0_1.length c0_1)] 31 (0, 0))) ∧ Aside0 (w'.heap[gb260]? = some (.cells #[(.slice none 0 0), (.slice none 0 0)] 31 (0, 0))) ∧ Aside0 (w'.heap[gb267]? = some (.cells #[(.slice Ao10 y264.length co10), u268001] 31 (0, 0))) ∧ Aside0 (Below w.heap.size w w'))
  case atStart => exact ⟨(0), (([] : List (List Int))), (.slice none 0 0), (by first | rfl | (simp; done) | (simp [*]; done)), H', ⟨Nat.le_refl _⟩, ⟨by (with_reducible repeat (first | apply Ra_ | apply Rn_ | apply Rd_)); exact Kd.R_mono (Kd.R_far (p := ⟨gb267, 1, none⟩) (Kd.R_far (p := ⟨gb267, 0, none⟩) (Kd.R_types HO266.out BK267.out (by decide)) (fun _ hk => hk.2) (.slice Ao10 y264.length co10)) (fun _ hk => hk.2) (.slice none 0 0)) (fun _ hk => trivial)⟩, ⟨by first | exact Kd.S_nil _ _ _ _ _ | exact Kd.N_nil _ _ _ _ _ | exact Kd.V_nil _ _ _ _ _ | exact Kd.Q_nil _ _ _ _ _ | exact Kd.R_nil _ _ _ _ _⟩, ⟨by (with_reducible repeat (first | refine Bn_ ?_ _ | refine Bd_ ?_ | refine Ba_ ?_ _)); refine blk_far ?_ NB259_267.out _; (with_reducible repeat (first | refine Bn_ ?_ _ | refine Bd_ ?_ | refine Ba_ ?_ _)); refine blk_far ?_ NB259_267.out _; (with_reducible repeat (first | refine Bn_ ?_ _ | refine Bd_ ?_ | refine Ba_ ?_ _)); exact BK259.out⟩, ⟨by (with_reducible repeat (first | refine Bn_ ?_ _ | refine Bd_ ?_ | refine Ba_ ?_ _)); refine blk_far ?_ NB260_267.out _; (with_reducible repeat (first | refine Bn_ ?_ _ | refine Bd_ ?_ | refine Ba_ ?_ _)); refine blk_far ?_ NB260_267.out _; (with_reducible repeat (first | refine Bn_ ?_ _ | refine Bd_ ?_ | refine Ba_ ?_ _)); exact BK260.out⟩, ⟨by (with_reducible repeat (first | refine Bn_ ?_ _ | refine Bd_ ?_ | refine Ba_ ?_ _)); refine Bp_ (cs := #[.slice Ao10 y264.length co10, .slice none 0 0]) ?_ 1 _ rfl; (with_reducible repeat (first | refine Bn_ ?_ _ | refine Bd_ ?_ | refine Ba_ ?_ _)); refine Bp_ (cs := #[.slice none 0 0, .slice none 0 0]) ?_ 0 _ rfl; (with_reducible repeat (first | refine Bn_ ?_ _ | refine Bd_ ?_ | refine Ba_ ?_ _)); exact BK267.out⟩, ⟨by repeat (first | (with_reducible first | exact HB.out | apply Pa_ | apply Pn_ | apply Pd_ | refine Bs_ ?_ GE259.out | refine Bs_ ?_ GE260.out | refine Bs_ ?_ GE267.out) | exact HB.out)⟩⟩
  case round =>
   clear H'
   try clear c1
   try clear c2
   try clear p2
   try clear c4
   try clear c7
   try clear c12
   try clear c13
   try clear hcz14_0
   try clear hcz14_1
   try clear hcz8_0
   try clear hcz8_1
   try clear hfz14_0
   try clear hfz14_1
   try clear hfz8_0
   try clear hfz8_1
   obtain ⟨x4_1, x268001_1, u268001, rfl, HA, HK1, HO_268000, HO_268001, BK259, BK260, BK267, HB⟩ := hrel
   cases gk with
   | zero => exact absurd HA.out (by simp [flagstoneref10_copied.l0])
   | succ k1 =>
    have H := HA.out
    clear HA
    simp only [flagstoneref10_copied.l0] at H
    by_cases c15 : x4_1 < (l0_1.length : Int)
    ·rw [if_pos c15] at H
     have c15b0 : decide (x4_1 < (l0_1.length : Int)) = true := Dt_ c15
     clear c15
     obtain ⟨y268, hy268⟩ : ∃ y_ : List Int, y_ = (([] : List Int)) := ⟨_, rfl⟩
     replace H : (if 0 ≤ x4_1 then (if y268.length + (rd_L1 l0_1 x4_1).length < 17592186044416 then (if x268001_1.length < 5864062014805 then (flagstoneref10_copied.l0 k1 (wrap64 (x4_1 + 1)) l0_0 l0_1 y264 (x268001_1 ++ [(y268 ++ (rd_L1 l0_1 x4_1))])) else (none)) else (none)) else (none)) = some (r1, r2) := by first | (rw [hy268]; with_reducible exact H) | (have H2_ := (Option.bind_some _ _).symm.trans H; rw [hy268]; with_reducible exact H2_) | (have H2_ := (Option.bind_some _ _).symm.trans H; with_reducible exact H2_) | with_reducible exact H | (rw [hy268]; exact H) | exact H
     have Ny268 := Am_ hy268
     clear hy268
     by_cases c16 : 0 ≤ x4_1
     ·rw [if_pos c16] at H
      have c16b0 : decide (0 ≤ x4_1) = true := Dt_ c16
      clear c16
      by_cases c17 : y268.length + (rd_L1 l0_1 x4_1).length < 17592186044416
      ·rw [if_pos c17] at H
       have LMc17 := Am_ c17
       clear c17
       obtain ⟨y272, hy272⟩ : ∃ y_ : List Int, y_ = (y268 ++ (rd_L1 l0_1 x4_1)) := ⟨_, rfl⟩
       replace H : (if x268001_1.length < 5864062014805 then (flagstoneref10_copied.l0 k1 (wrap64 (x4_1 + 1)) l0_0 l0_1 y264 (x268001_1 ++ [y272])) else (none)) = some (r1, r2) := by first | (rw [hy272]; with_reducible exact H) | (have H2_ := (Option.bind_some _ _).symm.trans H; rw [hy272]; with_reducible exact H2_) | (have H2_ := (Option.bind_some _ _).symm.trans H; with_reducible exact H2_) | with_reducible exact H | (rw [hy272]; exact H) | exact H
       have Ny272 := Am_ hy272
       clear hy272
       by_cases c18 : x268001_1.length < 5864062014805
       ·rw [if_pos c18] at H
        have LMc18 := Am_ c18
        clear c18
        obtain ⟨y275, hy275⟩ : ∃ y_ : List (List Int), y_ = (x268001_1 ++ [y272]) := ⟨_, rfl⟩
        replace H : (flagstoneref10_copied.l0 k1 (wrap64 (x4_1 + 1)) l0_0 l0_1 y264 y275) = some (r1, r2) := by first | (rw [hy275]; with_reducible exact H) | (have H2_ := (Option.bind_some _ _).symm.trans H; rw [hy275]; with_reducible exact H2_) | (have H2_ := (Option.bind_some _ _).symm.trans H; with_reducible exact H2_) | with_reducible exact H | (rw [hy275]; exact H) | exact H
        have Ny275 := Am_ hy275
        clear hy275
        have H' := Am_ H
        clear H
        have hnb19 := NB259_260.out
        have hnc19 := NB260_259.out
        have hnb20 := NB259_267.out
        have hnc20 := NB267_259.out
        obtain ⟨hcz21_0, hcz21_1, hfz21_0, hfz21_1⟩ := Ce2_ BK259.out
        try go_wp2
        have n0_ := Am_ (Rd_ HO_268000.out)
        have n1_ := Am_ (Kd.S_drew HO_268001.out)
        have n2_ := Am_ (Bd_ BK259.out)
        have n3_ := Am_ (Bd_ BK260.out)
        have n4_ := Am_ (Bd_ BK267.out)
        have n5_ := Am_ (Pd_ HB.out)
        clear HO_268000
        clear HO_268001
        clear BK259
        clear BK260
        clear BK267
        clear HB
        have HO_268000 := n0_
        have HO_268001 := n1_
        have BK259 := n2_
        have BK260 := n3_
        have BK267 := n4_
        have HB := n5_
        clear n0_ n1_ n2_ n3_ n4_ n5_
        have p271 : 0 ≤ (x4_1 : Int) := Ot_ (by first | (with_reducible assumption) | assumption)
        have q271 : x4_1 < (l0_1.length : Int) := Ot_ (by first | (with_reducible assumption) | assumption)
        obtain ⟨ad271, A271_0, c271_0, e271, hx271_0, hl271_0, hi271_0⟩ := at_L1 HR0_1.out x4_1 p271 q271
        have hw271_0 := hx271_0
        cases e271
        replace hx271_0 := (HB.out.cell (Bl_ w _ hx271_0)).trans hx271_0
        have HR271_0 := Am_ hi271_0
        have HC271_0 := Am_ hl271_0
        clear hi271_0 hl271_0
        replace p271 := eq_true p271
        replace q271 := eq_true q271
        refine start_ (n := 13) (S := fun w' => w'.cell? ⟨gb267, 0, none⟩ = some (.slice Ao10 y264.length co10) ∧ w'.cell? ⟨gb267, 1, none⟩ = some (u268001) ∧ w'.cell? ⟨gb259, 0, none⟩ = some (.slice A0_0 l0_0.length c0_0) ∧ w'.cell? ⟨gb259, 1, none⟩ = some (.slice (some ad271) l0_1.length c0_1) ∧ w'.cell? (ad271.add (x4_1).toNat) = some (.slice A271_0 (rd_L1 l0_1 x4_1).length c271_0)) (ds := [12]) #[f_,f_,f_,f_,f_,f_,f_,f_,f_,f_,f_,f_,f_] (by kernel_rfl) rfl rfl ⟨(Bc_ BK267.out 0).trans rfl, (Bc_ BK267.out 1).trans rfl, (Bc_ BK259.out 0).trans rfl, (Bc_ BK259.out 1).trans rfl, ((HB.out.cell (Bl_ w _ hw271_0)).trans hw271_0)⟩ (fun hHeld => ?_); refine with_tabW flagstoneref10_copied.tab5 flagstoneref10_copied.bits5 (fun HT_ HW_ => ?_)
        generalize wr.drew = w22 at HO_268000 HO_268001 BK259 BK260 BK267 HB HR271_0 hx271_0 hHeld ⊢
        refine pure_ (i := 0) (N := some 17) (v := ?_) (a' := ?_) #[t_,f_,f_,f_,f_,f_,f_,f_,f_,f_,f_,f_,f_] rfl rfl (any_of HT_.out (by kernel_rfl)) (fun _ _ _ h => h) (Or.inl ⟨by rfl, ?_⟩) ?_ ?_
        rotate_left
        ·intro w'
         go_simp
         with_reducible rfl
        rotate_left
        ·simp only [Act.put, La_, Lb_, Lc_, i64_w, i32_w]
         rfl
        refine pure_ (i := 3) (N := some 20) (v := ?_) (a' := ?_) #[t_,f_,f_,t_,f_,f_,f_,f_,f_,f_,f_,f_,f_] rfl rfl (any_of HT_.out (by kernel_rfl)) (fun _ _ _ h => h) (Or.inl ⟨by rfl, ?_⟩) ?_ ?_
        rotate_left
        ·intro w'
         go_simp
         with_reducible rfl
        rotate_left
        ·simp only [Act.put, La_, Lb_, Lc_, i64_w, i32_w]
         rfl
        refine pure_ (i := 5) (N := some 22) (v := ?_) (a' := ?_) #[t_,f_,f_,t_,f_,t_,f_,f_,f_,f_,f_,f_,f_] rfl rfl (any_of HT_.out (by kernel_rfl)) (fun _ _ _ h => h) (Or.inl ⟨by rfl, ?_⟩) ?_ ?_
        rotate_left
        ·intro w'
         go_simp
         with_reducible rfl
        rotate_left
        ·simp only [Act.put, La_, Lb_, Lc_, i64_w, i32_w]
         rfl
        refine take_ (i := 1) (N := some 18) (v := ?_) (a' := ?_) #[t_,t_,f_,t_,f_,t_,f_,f_,f_,f_,f_,f_,f_] rfl rfl (take_ofW HT_.out HW_.out (by kernel_rfl)) (fun _ _ _ h => h) (Or.inl ⟨by rfl, ?_⟩) hHeld ?_ ?_
        rotate_left
        ·rintro w' ⟨s0, s1, s2, s3, s4⟩
         go_simp
         with_reducible rfl
        rotate_left
        ·simp only [Act.put, La_, Lb_, Lc_, i64_w, i32_w]
         rfl
        refine take_ (i := 4) (N := some 21) (v := ?_) (a' := ?_) #[t_,t_,f_,t_,t_,t_,f_,f_,f_,f_,f_,f_,f_] rfl rfl (take_ofW HT_.out HW_.out (by kernel_rfl)) (fun _ _ _ h => h) (Or.inl ⟨by rfl, ?_⟩) hHeld ?_ ?_
        rotate_left
        ·rintro w' ⟨s0, s1, s2, s3, s4⟩
         go_simp
         with_reducible rfl
        rotate_left
        ·simp only [Act.put, La_, Lb_, Lc_, i64_w, i32_w]
         rfl
        refine pure_ (i := 6) (N := some 23) (v := ?_) (a' := ?_) #[t_,t_,f_,t_,t_,t_,t_,f_,f_,f_,f_,f_,f_] rfl rfl (any_of HT_.out (by kernel_rfl)) (fun _ _ _ h => h) (Or.inl ⟨by rfl, ?_⟩) ?_ ?_
        rotate_left
        ·intro w'
         go_simp
         with_reducible rfl
        rotate_left
        ·simp only [Act.put, La_, Lb_, Lc_, i64_w, i32_w]
         rfl
        refine take_ (i := 7) (N := some 24) (v := ?_) (a' := ?_) #[t_,t_,f_,t_,t_,t_,t_,t_,f_,f_,f_,f_,f_] rfl rfl (take_ofW HT_.out HW_.out (by kernel_rfl)) (fun _ _ _ h => h) (Or.inl ⟨by rfl, ?_⟩) hHeld ?_ ?_
        rotate_left
        ·rintro w' ⟨s0, s1, s2, s3, s4⟩
         go_simp
         with_reducible rfl
        rotate_left
        ·simp only [Act.put, La_, Lb_, Lc_, i64_w, i32_w]
         rfl
        refine one_ (i := 2) (N := some 19) #[t_,t_,t_,t_,t_,t_,t_,t_,f_,f_,f_,f_,f_] rfl rfl (one_of HT_.out (by kernel_rfl)) (by decide) (fun K hK => ?_)
        refine Kd.R_lit_step (Kd.int .i64) _ 3 ?hg (N := 19) ?hd (xs := ([] : List Int)) (inner := []) (ok := fun _ => True) (okp := fun _ => True) ?hr ?hp (fun _ hk => hk) trivial (Below.refl _ _) (Nat.le_refl _) (by simp) ?_; (case hd => rfl); (case hg => rfl); (case hr => go_simp; try rfl); (case hp => exact (Reps.none _ _))
        intro v269 w23 ho24 hb hg_ hnew_
        clear hg_ hnew_
        (first | rw [← Ny268.out] at ho24 | (simp only [Int.reduceToNat] at ho24; rw [← Ny268.out] at ho24))
        have n0_ := Am_ (Rb_ (Px_ HO_268000.out) hb)
        have n1_ := Am_ (Kd.S_elder' (Py_ HO_268001.out) (Kd.R_base ho24) hb)
        have n2_ := Am_ (Kd.R_lower ho24 (Bz_ (Pb3_ HB.out GE259.out GE260.out GE267.out)))
        have n3_ := Am_ (Bb_ (g := gb259) (o := .cells #[.slice A0_0 l0_0.length c0_0, .slice (some ad271) l0_1.length c0_1] 31 (0, 0)) (Pk_ BK259.out) hb)
        have n4_ := Am_ (Bb_ (g := gb260) (o := .cells #[.slice none 0 0, .slice none 0 0] 31 (0, 0)) (Pk_ BK260.out) hb)
        have n5_ := Am_ (Bb_ (g := gb267) (o := .cells #[.slice Ao10 y264.length co10, u268001] 31 (0, 0)) (Pk_ BK267.out) hb)
        have n6_ := Am_ (Be_ (Pb3_ HB.out GE259.out GE260.out GE267.out) hb)
        clear HO_268000
        clear HO_268001
        clear BK259
        clear BK260
        clear BK267
        clear HB
        have HO_268000 := n0_
        have HO_268001 := n1_
        have HO270 := n2_
        have BK259 := n3_
        have BK260 := n4_
        have BK267 := n5_
        have HB := n6_
        clear n0_ n1_ n2_ n3_ n4_ n5_ n6_
        clear hb ho24
        refine hK.out _ _ ⟨(Bc_ BK267.out 0).trans rfl, (Bc_ BK267.out 1).trans rfl, (Bc_ BK259.out 0).trans rfl, (Bc_ BK259.out 1).trans rfl, ((HB.out.cell (Bl_ w _ hw271_0)).trans hw271_0)⟩ (fun hHeld => ?_)
        clear hK K
        refine norm_ (a' := ?_) ?_ ?_
        rotate_left
        ·show Act.put _ (some 19) _ = _
         simp only [Act.put, La_, Lb_, Lc_, i64_w, i32_w]
         rfl
        refine one_ (i := 8) (N := some 25) #[t_,t_,t_,t_,t_,t_,t_,t_,t_,f_,f_,f_,f_] rfl rfl (one_of HT_.out (by kernel_rfl)) (by decide) (fun K hK => ?_)
        refine Kd.R_append_rows_step (Kd.int .i64) (w0 := w) w.heap.size (by rfl) (.tmp 19) (.tmp 24) 64 3 (.int .i64 0) 8 rfl Try.underlying64 info3 rfl (by decide) (by omega) v269 y268 (rd_L1 l0_1 x4_1) _ _ _ (fun _ => True) (fun _ => False) rfl rfl ?aO ?aR (fun _ _ h => h) (fun _ h => h.elim) ?aF ?aB ?aS ?aL ?_
        (case aR => repeat (first | exact (Kd.C_below HR271_0.out HB.out) | (with_reducible refine Kd.C_alloc ?_ _) | (with_reducible refine Kd.C_drewN ?_ _) | (with_reducible refine Kd.C_drew ?_)))
        (case aB => exact (Pb3_ HB.out GE259.out GE260.out GE267.out))
        (case aF => exact (fun _ _ => trivial))
        (case aO => exact (Px_ HO270.out))
        (case aS => exact (Bz_ (Pb3_ HB.out GE259.out GE260.out GE267.out)))
        (case aL => have := LMc17.out; omega)
        intro v273 w25 ho hb hg hat
        rw [← Ny272.out] at ho
        have n0_ := Am_ (Kd.R_over' (Px_ HO_268000.out) (Kd.R_typed (Px_ HO270.out)) (by decide) hg)
        have n1_ := Am_ (Kd.S_after (ok := (fun _ => True)) (Py_ HO_268001.out) hg hat)
        have n2_ := Am_ (Bg_ (g := gb259) (o := .cells #[.slice A0_0 l0_0.length c0_0, .slice (some ad271) l0_1.length c0_1] 31 (0, 0)) (Pk_ BK259.out) hg (Kd.R_ne HO270.out BK259.out (by decide)))
        have n3_ := Am_ (Bg_ (g := gb260) (o := .cells #[.slice none 0 0, .slice none 0 0] 31 (0, 0)) (Pk_ BK260.out) hg (Kd.R_ne HO270.out BK260.out (by decide)))
        have n4_ := Am_ (Bg_ (g := gb267) (o := .cells #[.slice Ao10 y264.length co10, u268001] 31 (0, 0)) (Pk_ BK267.out) hg (Kd.R_ne HO270.out BK267.out (by decide)))
        have n5_ := Am_ (hb)
        have n6_ := Am_ (ho)
        clear HO_268000
        clear HO_268001
        clear BK259
        clear BK260
        clear BK267
        clear HB
        clear HO270
        have HO_268000 := n0_
        have HO_268001 := n1_
        have BK259 := n2_
        have BK260 := n3_
        have BK267 := n4_
        have HB := n5_
        have HO274 := n6_
        clear n0_ n1_ n2_ n3_ n4_ n5_ n6_
        clear ho hb hg hat
        obtain ⟨Ao27, co27, eo27⟩ := Kd.R_slice HO274.out
        (first | subst eo27 | (injection eo27 with f1_ f2_ f3_; have f4_ := f1_.symm; have f5_ := f3_.symm; clear f1_ f2_ f3_; subst f4_; subst f5_))
        refine hK.out _ _ ⟨(Bc_ BK267.out 0).trans rfl, (Bc_ BK267.out 1).trans rfl, (Bc_ BK259.out 0).trans rfl, (Bc_ BK259.out 1).trans rfl, ((HB.out.cell (Bl_ w _ hw271_0)).trans hw271_0)⟩ (fun hHeld => ?_)
        clear hK K
        refine norm_ (a' := ?_) ?_ ?_
        rotate_left
        ·show Act.put _ (some 25) _ = _
         simp only [Act.put, La_, Lb_, Lc_, i64_w, i32_w]
         rfl
        refine one_ (i := 9) (N := some 26) #[t_,t_,t_,t_,t_,t_,t_,t_,t_,t_,f_,f_,f_] rfl rfl (one_of HT_.out (by kernel_rfl)) (by decide) (fun K hK => ?_)
        refine value_ (w1 := ?_) (v := ?_) (by rfl) rfl ?_ ?_
        rotate_left 2
        ·go_simp
         constructor
         ·rfl
         ·rfl
        refine hK.out _ _ ⟨(Bc_ (Ba_ BK267.out _) 0).trans rfl, (Bc_ (Ba_ BK267.out _) 1).trans rfl, (Bc_ (Ba_ BK259.out _) 0).trans rfl, (Bc_ (Ba_ BK259.out _) 1).trans rfl, (World.cell?_alloc_lt _ _ _ (Bl_ _ _ (((HB.out.cell (Bl_ w _ hw271_0)).trans hw271_0)))).trans (((HB.out.cell (Bl_ w _ hw271_0)).trans hw271_0))⟩ (fun hHeld => ?_)
        clear hK K
        refine norm_ (a' := ?_) ?_ ?_
        rotate_left
        ·show Act.put _ (some 26) _ = _
         simp only [Act.put, La_, Lb_, Lc_, i64_w, i32_w]
         rfl
        refine one_ (i := 10) (N := some 27) #[t_,t_,t_,t_,t_,t_,t_,t_,t_,t_,t_,f_,f_] rfl rfl (one_of HT_.out (by kernel_rfl)) (by decide) (fun K hK => ?_)
        refine Kd.S_append_step (Kd.slice 3 (Kd.int .i64)) (w0 := w) w.heap.size (by rfl) (.tmp 18) (.tmp 26) 23 64 (.slice none 0 0) 24 rfl Try.underlying23 info64 rfl (by decide) (by omega) u268001 x268001_1 y272 [.slice Ao27 y272.length co27] (fun _ => True) (fun k_ => some k_ = (.slice Ao27 y272.length co27 : Value).ownBlock) rfl rfl ?aP (fun k_ hk_ => ((Kd.R_mono (ok' := fun k_ => ((fun _ => True)) k_ ∧ some k_ ≠ (u268001 : Value).ownBlock) (Kd.R_apart' (HO274.out) (Kd.S_typed HO_268001.out) (by decide)) (fun k_ hk => ⟨trivial, hk.2⟩))).1 k_ hk_.symm) ?aF ?aO ?aB ?aS ?aL ?_
        (case aP => exact Kd.M_row (Kd.R_mono (Kd.R_tight rfl (Kd.R_mono (ok' := fun k_ => ((fun _ => True)) k_ ∧ some k_ ≠ (u268001 : Value).ownBlock) (Kd.R_apart' (HO274.out) (Kd.S_typed HO_268001.out) (by decide)) (fun k_ hk => ⟨trivial, hk.2⟩))) (fun _ h_ => h_)))
        (case aB => exact (Pb3_ HB.out GE259.out GE260.out GE267.out))
        (case aF => exact (fun _ _ => trivial))
        (case aO => exact (by (with_reducible repeat (first | apply Kd.S_alloc | apply Kd.S_drewN | apply Kd.S_drew)); exact Kd.S_mono HO_268001.out (fun k_ hk => ⟨trivial, fun e_ => hk.2 e_⟩)))
        (case aS => exact (Bz_ (Pb3_ HB.out GE259.out GE260.out GE267.out)))
        (case aL => have := LMc18.out; omega)
        intro v276 w26 ho hb hg hat
        rw [← Ny275.out] at ho
        have n0_ := Am_ (Kd.R_over' (Px_ HO_268000.out) (Kd.S_typed (Py_ HO_268001.out)) (by decide) hg)
        have n1_ := Am_ (Bg_ (g := gb259) (o := .cells #[.slice A0_0 l0_0.length c0_0, .slice (some ad271) l0_1.length c0_1] 31 (0, 0)) (Pk_ BK259.out) hg (Kd.S_ne HO_268001.out BK259.out (by decide)))
        have n2_ := Am_ (Bg_ (g := gb260) (o := .cells #[.slice none 0 0, .slice none 0 0] 31 (0, 0)) (Pk_ BK260.out) hg (Kd.S_ne HO_268001.out BK260.out (by decide)))
        have n3_ := Am_ (Bg_ (g := gb267) (o := .cells #[.slice Ao10 y264.length co10, u268001] 31 (0, 0)) (Pk_ BK267.out) hg (Kd.S_ne HO_268001.out BK267.out (by decide)))
        have n4_ := Am_ (hb)
        have n5_ := Am_ (ho)
        clear HO_268000
        clear BK259
        clear BK260
        clear BK267
        clear HB
        clear HO_268001
        clear HO274
        have HO_268000 := n0_
        have BK259 := n1_
        have BK260 := n2_
        have BK267 := n3_
        have HB := n4_
        have HO277 := n5_
        clear n0_ n1_ n2_ n3_ n4_ n5_
        clear ho hb hg hat
        obtain ⟨Ao28, co28, eo28⟩ := Kd.S_slice HO277.out
        (first | subst eo28 | (injection eo28 with f1_ f2_ f3_; have f4_ := f1_.symm; have f5_ := f3_.symm; clear f1_ f2_ f3_; subst f4_; subst f5_))
        refine hK.out _ _ ⟨(Bc_ BK267.out 0).trans rfl, (Bc_ BK267.out 1).trans rfl, (Bc_ BK259.out 0).trans rfl, (Bc_ BK259.out 1).trans rfl, ((HB.out.cell (Bl_ w _ hw271_0)).trans hw271_0)⟩ (fun hHeld => ?_)
        clear hK K
        refine norm_ (a' := ?_) ?_ ?_
        rotate_left
        ·show Act.put _ (some 27) _ = _
         simp only [Act.put, La_, Lb_, Lc_, i64_w, i32_w]
         rfl
        refine pure_ (i := 11) (N := some 28) (v := ?_) (a' := ?_) #[t_,t_,t_,t_,t_,t_,t_,t_,t_,t_,t_,t_,f_] rfl rfl (any_of HT_.out (by kernel_rfl)) (fun _ _ _ h => h) (Or.inl ⟨by rfl, ?_⟩) ?_ ?_
        rotate_left
        ·intro w'
         go_simp
         with_reducible rfl
        rotate_left
        ·simp only [Act.put, La_, Lb_, Lc_, i64_w, i32_w]
         rfl
        refine last_ (i := 12) (N := none) #[t_,t_,t_,t_,t_,t_,t_,t_,t_,t_,t_,t_,t_] rfl rfl (one_of HT_.out (by kernel_rfl)) (by decide) (fun K hK => ?_)
        have hs29 : w26.cell? ⟨gb267, 1, none⟩ = some (u268001) := (Bc_ BK267.out 1).trans rfl
        have hfs29 := Bf_ BK267.out 1
        have hns29_0 := NB259_267.out
        have hns29_1 := NB260_267.out
        have hms29_0 := NB267_259.out
        have hms29_1 := NB267_260.out
        refine skip_ (w1 := ?_) (by rfl) rfl ?_ ?_
        rotate_left
        ·go_simp
         rfl
        refine hK.out _ _ ?_
        clear hK K
        refine done_ (done_of HT_.out (by kernel_rfl)) ?_
        try go_wp2
        go_roundg k1
        case measure => have := HK1.out; omega
        case rel => exact ⟨(wrap64 (x4_1 + 1)), (y275), (.slice Ao28 y275.length co28), (by first | rfl | (simp; done) | (simp [*]; done)), H', ⟨by have := HK1.out; omega⟩, ⟨by (with_reducible repeat (first | apply Ra_ | apply Rn_ | apply Rd_)); exact Kd.R_mono (Kd.R_far (p := ⟨gb267, 1, none⟩) (Kd.R_types HO_268000.out BK267.out (by decide)) (fun _ hk => hk.2) (.slice Ao28 y275.length co28)) (fun _ hk => trivial)⟩, ⟨by (with_reducible repeat (first | apply Kd.S_alloc | apply Kd.S_drewN | apply Kd.S_drew)); exact Kd.S_mono (Kd.S_far (p := ⟨gb267, 1, none⟩) (Kd.S_types HO277.out BK267.out (by decide)) (fun _ hk => hk.2) (.slice Ao28 y275.length co28)) (fun _ hk => trivial)⟩, ⟨by (with_reducible repeat (first | refine Bn_ ?_ _ | refine Bd_ ?_ | refine Ba_ ?_ _)); refine blk_far ?_ NB259_267.out _; (with_reducible repeat (first | refine Bn_ ?_ _ | refine Bd_ ?_ | refine Ba_ ?_ _)); exact BK259.out⟩, ⟨by (with_reducible repeat (first | refine Bn_ ?_ _ | refine Bd_ ?_ | refine Ba_ ?_ _)); refine blk_far ?_ NB260_267.out _; (with_reducible repeat (first | refine Bn_ ?_ _ | refine Bd_ ?_ | refine Ba_ ?_ _)); exact BK260.out⟩, ⟨by (with_reducible repeat (first | refine Bn_ ?_ _ | refine Bd_ ?_ | refine Ba_ ?_ _)); refine Bp_ (cs := #[.slice Ao10 y264.length co10, u268001]) ?_ 1 _ rfl; (with_reducible repeat (first | refine Bn_ ?_ _ | refine Bd_ ?_ | refine Ba_ ?_ _)); exact BK267.out⟩, ⟨by repeat (first | (with_reducible first | exact HB.out | apply Pa_ | apply Pn_ | apply Pd_ | refine Bs_ ?_ GE259.out | refine Bs_ ?_ GE260.out | refine Bs_ ?_ GE267.out) | exact HB.out)⟩⟩
       ·rw [if_neg c18] at H
        exact absurd H (by simp)
      ·rw [if_neg c17] at H
       exact absurd H (by simp)
     ·rw [if_neg c16] at H
      exact absurd H (by simp)
    ·rw [if_neg c15] at H
     have c15b0 : decide (x4_1 < (l0_1.length : Int)) = false := Df_ c15
     clear c15
     simp only [Option.some.injEq, Prod.mk.injEq] at H
     obtain ⟨rfl, rfl⟩ := H
     have hnb30 := NB259_260.out
     have hnc30 := NB260_259.out
     have hnb31 := NB259_267.out
     have hnc31 := NB267_259.out
     obtain ⟨hcz32_0, hcz32_1, hfz32_0, hfz32_1⟩ := Ce2_ BK259.out
     have hnb33 := NB267_260.out
     have hnc33 := NB260_267.out
     obtain ⟨hcz34_0, hcz34_1, hfz34_0, hfz34_1⟩ := Ce2_ BK267.out
     obtain ⟨hcz35_0, hcz35_1, hfz35_0, hfz35_1⟩ := Ce2_ BK260.out
     obtain ⟨Ao36, co36, eo36⟩ := Kd.S_slice HO_268001.out
     subst eo36
     go_wp2
     refine bodyPost_ret (results_cell_row rfl _ _ gb260 31 #[.slice Ao10 y264.length co10, .slice Ao36 x268001_1.length co36] (0, 0) _ rfl (by (with_reducible repeat (first | refine Bn_ ?_ _ | refine Bd_ ?_ | refine Ba_ ?_ _)); refine Bp_ (cs := #[.slice Ao10 y264.length co10, .slice none 0 0]) ?_ 1 _ rfl; (with_reducible repeat (first | refine Bn_ ?_ _ | refine Bd_ ?_ | refine Ba_ ?_ _)); refine Bp_ (cs := #[.slice none 0 0, .slice none 0 0]) ?_ 0 _ rfl; (with_reducible repeat (first | refine Bn_ ?_ _ | refine Bd_ ?_ | refine Ba_ ?_ _)); exact BK260.out) Try.underlying31 rfl (by kernel_rfl)) rfl ?_
     exact ⟨_, _, by first | rfl | (simp [errW_none, errW_some] <;> rfl) | (simp [*, errW_none, errW_some] <;> rfl), by (with_reducible repeat (first | apply Ra_ | apply Rn_ | apply Rd_)); exact Kd.R_mono (Kd.R_far (p := ⟨gb260, 1, none⟩) (Kd.R_far (p := ⟨gb260, 0, none⟩) (Kd.R_types HO_268000.out BK260.out (by decide)) (fun _ hk => hk.2) (.slice Ao10 y264.length co10)) (fun _ hk => hk.2) (.slice Ao36 x268001_1.length co36)) (fun _ hk => trivial), by (with_reducible repeat (first | apply Kd.S_alloc | apply Kd.S_drewN | apply Kd.S_drew)); exact Kd.S_mono (Kd.S_far (p := ⟨gb260, 1, none⟩) (Kd.S_far (p := ⟨gb260, 0, none⟩) (Kd.S_types HO_268001.out BK260.out (by decide)) (fun _ hk => hk.2) (.slice Ao10 y264.length co10)) (fun _ hk => hk.2) (.slice Ao36 x268001_1.length co36)) (fun _ hk => trivial), by repeat (first | (with_reducible first | exact HB.out | apply Pa_ | apply Pn_ | apply Pd_ | refine Bs_ ?_ GE259.out | refine Bs_ ?_ GE260.out | refine Bs_ ?_ GE267.out) | exact HB.out)⟩
 ·rw [if_neg c2] at H
  exact absurd H (by simp)

end Go.Proofs.Ytkecfdljodiifaa.P
