-- Printed by a program of this session (inject.py) over the kit's print, with functions that were proved by hand in their places.
import Derived.Test.YtkecfdljodiifaaPK
namespace Go.Proofs.Ytkecfdljodiifaa.P
open Go.RowKit Go.Proofs.YtkecfdljodiifaaW.PrintWords Go.Proofs.YtkecfdljodiifaaW.PrintLast Go.Proofs.YtkecfdljodiifaaW.PrintMore
attribute [local go_sem] max2_int min2_int max_two min_two max_three min_three max_four min_four   -- for this text's walks alone
set_option linter.unusedVariables false
set_option linter.unusedSimpArgs false

/-! ### flagstoneref10_New: function 17 -/
def flagstoneref10_New.l0 : Nat → Int → Int → List (List Int) → Option ((List (S54)) × (List (List Int)))
 | 0, _, _, _ => none
 | k + 1, x0, x4, x539001 => if x4 < x0 then (if x539001.length < 5864062014805 then (flagstoneref10_New.l0 k x0 (wrap64 (x4 + 1)) (x539001 ++ [(([(-1), (-1), (-1), (-1), (-1), (-1), (-1), (-1)] : List Int))])) else (none)) else (some (([] : List (S54)), x539001))
def flagstoneref10_New.f (k : Nat) (a0 : Int) : Option ((List (S54)) × (List (List Int))) := if a0 > 8 then (some (([] : List (S54)), ([] : List (List Int)))) else (flagstoneref10_New.l0 k a0 0 ([] : List (List Int)))
theorem flagstoneref10_New.mono_l : ∀ k, (∀ y0 y1 y2, LeO (flagstoneref10_New.l0 k y0 y1 y2) (flagstoneref10_New.l0 (k + 1) y0 y1 y2))
 | 0 => fun _ _ _ r h => by simp [flagstoneref10_New.l0] at h
 | k + 1 => by
  have ih0 := flagstoneref10_New.mono_l k
  ·intro y0 y1 y2
   unfold flagstoneref10_New.l0
   repeat' first
   | (with_reducible exact ih0 _ _ _)
   | (with_reducible exact LeO.refl _)
   | (with_reducible exact LeO.none _)
   | (with_reducible refine LeO.ite ?_ ?_)
   | (with_reducible refine LeO.bind ?_ (fun _ => ?_))
   | exact ih0 _ _ _
   | exact LeO.none _
   | refine LeO.ite ?_ ?_
   | refine LeO.bind ?_ (fun _ => ?_)
theorem flagstoneref10_New.mono : ∀ a0 k, LeO (flagstoneref10_New.f k a0) (flagstoneref10_New.f (k + 1) a0) := by
 intro a0 k
 have ih0 := flagstoneref10_New.mono_l k
 unfold flagstoneref10_New.f
 repeat' first
   | (with_reducible exact ih0 _ _ _)
   | (with_reducible exact LeO.refl _)
   | (with_reducible exact LeO.none _)
   | (with_reducible refine LeO.ite ?_ ?_)
   | (with_reducible refine LeO.bind ?_ (fun _ => ?_))
   | exact ih0 _ _ _
   | exact LeO.none _
   | refine LeO.ite ?_ ?_
   | refine LeO.bind ?_ (fun _ => ?_)
set_option maxHeartbeats 8000000 in
set_option maxRecDepth 100000 in
theorem flagstoneref10_New.calls (k : Nat) (a0 : Int) (r1 : List (S54)) (r2 : List (List Int)) (w : World) (h : flagstoneref10_New.f k a0 = some (r1, r2)) :
  Calls Try.prog 17 #[.int .i64 a0] w fun e w' => ∃ v0_ v1_ : Value, e = .returned (.agg #[v0_, v1_]) ∧ Kd.R k54 54 w' w.heap.size (fun _ => True) v0_ r1 ∧ Kd.S (Kd.slice 3 (Kd.int .i64)) 64 w' w.heap.size (fun _ => True) v1_ r2 ∧ Below w.heap.size w w' := by
 have hu31 := Try.underlying31
 have HB := Am_ (Below.refl w.heap.size w)
 have H : (if a0 > 8 then (some (([] : List (S54)), ([] : List (List Int)))) else (flagstoneref10_New.l0 k a0 0 ([] : List (List Int)))) = some (r1, r2) := h
 clear h
 by_cases c2 : a0 > 8
 ·rw [if_pos c2] at H
  have c2b0 : decide (8 < a0) = true := Dt_ c2
  clear c2
  simp only [Option.some.injEq, Prod.mk.injEq] at H
  obtain ⟨rfl, rfl⟩ := H
  go_enter Try.func17, Try.ntmps17
  go_wp2_with (first | ((with_reducible refine gate_dst (N := 2) rfl ?_); refine box_event ?hg (N := 2) ?hd (cs := #[.slice none 0 0, .slice none 0 0]) (t := 31) ?hr ?_; (case hd => rfl); (case hg => rfl); (case hr => go_simp; try rfl); intro gb537 hg w3 hbox hb; have n0_ := Am_ (Be_ (Pb0_ HB.out) hb); have n1_ := Am_ (hbox); have n2_ := Am_ ((by rw [hg]; exact (Bz_ (Pb0_ HB.out)) : w.heap.size ≤ gb537)); have n3_ := Am_ ((by rw [hg]; exact (Bz_ (Pb0_ HB.out)) : w.heap.size ≤ gb537)); clear HB; have HB := n0_; have BK537 := n1_; have GW537 := n2_; have GE537 := n3_; clear n0_ n1_ n2_ n3_; clear hb hbox hg) | ((with_reducible refine gate_dst (N := 3) rfl ?_); refine box_event ?hg (N := 3) ?hd (cs := #[.slice none 0 0, .slice none 0 0]) (t := 31) ?hr ?_; (case hd => rfl); (case hg => rfl); (case hr => go_simp; try rfl); intro gb538 hg w4 hbox hb; have n0_ := Am_ (Bb_ (g := gb537) (o := .cells #[.slice none 0 0, .slice none 0 0] 31 (0, 0)) (Pk_ BK537.out) hb); have n1_ := Am_ (Be_ (Pb1_ HB.out GE537.out) hb); have n2_ := Am_ (hbox); have n3_ := Am_ ((by rw [hg]; exact (Bz_ (Pb1_ HB.out GE537.out)) : w.heap.size ≤ gb538)); have n4_ := Am_ ((by rw [hg]; exact (Bz_ (Pb1_ HB.out GE537.out)) : w.heap.size ≤ gb538)); have n5_ := Am_ ((by rw [hg]; exact Nat.ne_of_lt (blk_lt (g := gb537) (o := .cells #[.slice none 0 0, .slice none 0 0] 31 (0, 0)) (Pk_ BK537.out)) : gb537 ≠ gb538)); have n6_ := Am_ ((by rw [hg]; exact Nat.ne_of_gt (blk_lt (g := gb537) (o := .cells #[.slice none 0 0, .slice none 0 0] 31 (0, 0)) (Pk_ BK537.out)) : gb538 ≠ gb537)); clear BK537; clear HB; have BK537 := n0_; have HB := n1_; have BK538 := n2_; have GW538 := n3_; have GE538 := n4_; have NB537_538 := n5_; have NB538_537 := n6_; clear n0_ n1_ n2_ n3_ n4_ n5_ n6_; clear hb hbox hg; have hnb5 := NB538_537.out; have hnc5 := NB537_538.out; obtain ⟨hcz6_0, hcz6_1, hfz6_0, hfz6_1⟩ := Ce2_ BK538.out; obtain ⟨hcz7_0, hcz7_1, hfz7_0, hfz7_1⟩ := Ce2_ BK537.out))
  refine bodyPost_ret (results_cell_row rfl _ _ gb537 31 #[.slice none 0 0, .slice none 0 0] (0, 0) _ rfl (by (with_reducible repeat (first | refine Bn_ ?_ _ | refine Bd_ ?_ | refine Ba_ ?_ _)); refine Bp_ (cs := #[.slice none 0 0, .slice none 0 0]) ?_ 1 _ rfl; (with_reducible repeat (first | refine Bn_ ?_ _ | refine Bd_ ?_ | refine Ba_ ?_ _)); refine Bp_ (cs := #[.slice none 0 0, .slice none 0 0]) ?_ 0 _ rfl; (with_reducible repeat (first | refine Bn_ ?_ _ | refine Bd_ ?_ | refine Ba_ ?_ _)); refine blk_far ?_ NB537_538.out _; (with_reducible repeat (first | refine Bn_ ?_ _ | refine Bd_ ?_ | refine Ba_ ?_ _)); refine blk_far ?_ NB537_538.out _; (with_reducible repeat (first | refine Bn_ ?_ _ | refine Bd_ ?_ | refine Ba_ ?_ _)); exact BK537.out) Try.underlying31 rfl (by kernel_rfl)) rfl ?_
  exact ⟨_, _, by first | rfl | (simp [errW_none, errW_some] <;> rfl) | (simp [*, errW_none, errW_some] <;> rfl), by first | exact Kd.R_nil _ _ _ _ _ | exact Kd.N_nil _ _ _ _ _ | exact Kd.V_nil _ _ _ _ _ | exact Kd.Q_nil _ _ _ _ _ | exact Kd.S_nil _ _ _ _ _, by first | exact Kd.S_nil _ _ _ _ _ | exact Kd.N_nil _ _ _ _ _ | exact Kd.V_nil _ _ _ _ _ | exact Kd.Q_nil _ _ _ _ _ | exact Kd.R_nil _ _ _ _ _, by repeat (first | (with_reducible first | exact HB.out | apply Pa_ | apply Pn_ | apply Pd_ | refine Bs_ ?_ GE537.out | refine Bs_ ?_ GE538.out) | exact HB.out)⟩
 ·rw [if_neg c2] at H
  have c2b0 : decide (8 < a0) = false := Df_ c2
  clear c2
  have H' := Am_ H
  clear H
  go_enter Try.func17, Try.ntmps17
  go_wp2_with (first | ((with_reducible refine gate_dst (N := 2) rfl ?_); refine box_event ?hg (N := 2) ?hd (cs := #[.slice none 0 0, .slice none 0 0]) (t := 31) ?hr ?_; (case hd => rfl); (case hg => rfl); (case hr => go_simp; try rfl); intro gb537 hg w8 hbox hb; have n0_ := Am_ (Be_ (Pb0_ HB.out) hb); have n1_ := Am_ (hbox); have n2_ := Am_ ((by rw [hg]; exact (Bz_ (Pb0_ HB.out)) : w.heap.size ≤ gb537)); have n3_ := Am_ ((by rw [hg]; exact (Bz_ (Pb0_ HB.out)) : w.heap.size ≤ gb537)); clear HB; have HB := n0_; have BK537 := n1_; have GW537 := n2_; have GE537 := n3_; clear n0_ n1_ n2_ n3_; clear hb hbox hg) | ((with_reducible refine gate_dst (N := 3) rfl ?_); refine box_event ?hg (N := 3) ?hd (cs := #[.slice none 0 0, .slice none 0 0]) (t := 31) ?hr ?_; (case hd => rfl); (case hg => rfl); (case hr => go_simp; try rfl); intro gb538 hg w9 hbox hb; have n0_ := Am_ (Bb_ (g := gb537) (o := .cells #[.slice none 0 0, .slice none 0 0] 31 (0, 0)) (Pk_ BK537.out) hb); have n1_ := Am_ (Be_ (Pb1_ HB.out GE537.out) hb); have n2_ := Am_ (hbox); have n3_ := Am_ ((by rw [hg]; exact (Bz_ (Pb1_ HB.out GE537.out)) : w.heap.size ≤ gb538)); have n4_ := Am_ ((by rw [hg]; exact (Bz_ (Pb1_ HB.out GE537.out)) : w.heap.size ≤ gb538)); have n5_ := Am_ ((by rw [hg]; exact Nat.ne_of_lt (blk_lt (g := gb537) (o := .cells #[.slice none 0 0, .slice none 0 0] 31 (0, 0)) (Pk_ BK537.out)) : gb537 ≠ gb538)); have n6_ := Am_ ((by rw [hg]; exact Nat.ne_of_gt (blk_lt (g := gb537) (o := .cells #[.slice none 0 0, .slice none 0 0] 31 (0, 0)) (Pk_ BK537.out)) : gb538 ≠ gb537)); clear BK537; clear HB; have BK537 := n0_; have HB := n1_; have BK538 := n2_; have GW538 := n3_; have GE538 := n4_; have NB537_538 := n5_; have NB538_537 := n6_; clear n0_ n1_ n2_ n3_ n4_ n5_ n6_; clear hb hbox hg; have hnb10 := NB538_537.out; have hnc10 := NB537_538.out; obtain ⟨hcz11_0, hcz11_1, hfz11_0, hfz11_1⟩ := Ce2_ BK538.out))
  go_loopg [4] k (fun kq v4 w' => ∃ (x4_1 : Int) (x539001_1 : List (List Int)) (u539001 : Value), v4 = .int .i64 x4_1 ∧ Aside0 (flagstoneref10_New.l0 kq a0 x4_1 x539001_1 = some (r1, r2)) ∧ Aside0 (kq ≤ k) ∧ Aside0 (Kd.S (Kd.slice 3 (Kd.int .i64)) 64 w' w.heap.size (fun _ => True) u539001 x539001_1) ∧ Aside0 (w'.heap[gb537]? = some (.cells #[(.slice none 0 0), (.slice none 0 0)] 31 (0, 0))) ∧ Aside0 (w'.heap[gb538]? = some (.cells #[(.slice none 0 0), u539001] 31 (0, 0))) ∧ Aside0 (Below w.heap.size w w'))
  case atStart => exact ⟨(0), (([] : List (List Int))), (.slice none 0 0), (by first | rfl | (simp; done) | (simp [*]; done)), H', ⟨Nat.le_refl _⟩, ⟨by first | exact Kd.S_nil _ _ _ _ _ | exact Kd.N_nil _ _ _ _ _ | exact Kd.V_nil _ _ _ _ _ | exact Kd.Q_nil _ _ _ _ _ | exact Kd.R_nil _ _ _ _ _⟩, ⟨by (with_reducible repeat (first | refine Bn_ ?_ _ | refine Bd_ ?_ | refine Ba_ ?_ _)); refine blk_far ?_ NB537_538.out _; (with_reducible repeat (first | refine Bn_ ?_ _ | refine Bd_ ?_ | refine Ba_ ?_ _)); refine blk_far ?_ NB537_538.out _; (with_reducible repeat (first | refine Bn_ ?_ _ | refine Bd_ ?_ | refine Ba_ ?_ _)); exact BK537.out⟩, ⟨by (with_reducible repeat (first | refine Bn_ ?_ _ | refine Bd_ ?_ | refine Ba_ ?_ _)); refine Bp_ (cs := #[.slice none 0 0, .slice none 0 0]) ?_ 1 _ rfl; (with_reducible repeat (first | refine Bn_ ?_ _ | refine Bd_ ?_ | refine Ba_ ?_ _)); refine Bp_ (cs := #[.slice none 0 0, .slice none 0 0]) ?_ 0 _ rfl; (with_reducible repeat (first | refine Bn_ ?_ _ | refine Bd_ ?_ | refine Ba_ ?_ _)); exact BK538.out⟩, ⟨by repeat (first | (with_reducible first | exact HB.out | apply Pa_ | apply Pn_ | apply Pd_ | refine Bs_ ?_ GE537.out | refine Bs_ ?_ GE538.out) | exact HB.out)⟩⟩
  case round =>
   clear H'
   try clear c1
   try clear c2
   try clear c2b0
   try clear p2
   try clear c5
   try clear c10
   try clear hcz11_0
   try clear hcz11_1
   try clear hcz6_0
   try clear hcz6_1
   try clear hcz7_0
   try clear hcz7_1
   try clear hfz11_0
   try clear hfz11_1
   try clear hfz6_0
   try clear hfz6_1
   try clear hfz7_0
   try clear hfz7_1
   obtain ⟨x4_1, x539001_1, u539001, rfl, HA, HK1, HO_539001, BK537, BK538, HB⟩ := hrel
   cases gk with
   | zero => exact absurd HA.out (by simp [flagstoneref10_New.l0])
   | succ k1 =>
    have H := HA.out
    clear HA
    simp only [flagstoneref10_New.l0] at H
    by_cases c12 : x4_1 < a0
    ·rw [if_pos c12] at H
     have c12b0 : decide (x4_1 < a0) = true := Dt_ c12
     clear c12
     obtain ⟨y539, hy539⟩ : ∃ y_ : List Int, y_ = (([(-1), (-1), (-1), (-1), (-1), (-1), (-1), (-1)] : List Int)) := ⟨_, rfl⟩
     replace H : (if x539001_1.length < 5864062014805 then (flagstoneref10_New.l0 k1 a0 (wrap64 (x4_1 + 1)) (x539001_1 ++ [y539])) else (none)) = some (r1, r2) := by first | (rw [hy539]; with_reducible exact H) | (have H2_ := (Option.bind_some _ _).symm.trans H; rw [hy539]; with_reducible exact H2_) | (have H2_ := (Option.bind_some _ _).symm.trans H; with_reducible exact H2_) | with_reducible exact H | (rw [hy539]; exact H) | exact H
     have Ny539 := Am_ hy539
     clear hy539
     by_cases c13 : x539001_1.length < 5864062014805
     ·rw [if_pos c13] at H
      have LMc13 := Am_ c13
      clear c13
      obtain ⟨y542, hy542⟩ : ∃ y_ : List (List Int), y_ = (x539001_1 ++ [y539]) := ⟨_, rfl⟩
      replace H : (flagstoneref10_New.l0 k1 a0 (wrap64 (x4_1 + 1)) y542) = some (r1, r2) := by first | (rw [hy542]; with_reducible exact H) | (have H2_ := (Option.bind_some _ _).symm.trans H; rw [hy542]; with_reducible exact H2_) | (have H2_ := (Option.bind_some _ _).symm.trans H; with_reducible exact H2_) | with_reducible exact H | (rw [hy542]; exact H) | exact H
      have Ny542 := Am_ hy542
      clear hy542
      have H' := Am_ H
      clear H
      have hnb14 := NB538_537.out
      have hnc14 := NB537_538.out
      obtain ⟨hcz15_0, hcz15_1, hfz15_0, hfz15_1⟩ := Ce2_ BK538.out
      go_wp2_with (first | ((with_reducible refine gate_dst (N := 16) rfl ?_); refine Kd.R_lit (Kd.int .i64) _ 3 ?hg (N := 16) ?hd (xs := ([(-1), (-1), (-1), (-1), (-1), (-1), (-1), (-1)] : List Int)) (inner := [.int .i64 (-1), .int .i64 (-1), .int .i64 (-1), .int .i64 (-1), .int .i64 (-1), .int .i64 (-1), .int .i64 (-1), .int .i64 (-1)]) (ok := fun _ => True) (okp := fun _ => True) ?hr ?hp (fun _ hk => hk) trivial (Below.refl _ _) (Nat.le_refl _) (by simp) ?_; (case hd => rfl); (case hg => rfl); (case hr => go_simp; try rfl); (case hp => exact (Reps.one (show Kd.M (Kd.int .i64) _ _ _ (-1) [.int .i64 (-1)] from rfl) (Reps.one (show Kd.M (Kd.int .i64) _ _ _ (-1) [.int .i64 (-1)] from rfl) (Reps.one (show Kd.M (Kd.int .i64) _ _ _ (-1) [.int .i64 (-1)] from rfl) (Reps.one (show Kd.M (Kd.int .i64) _ _ _ (-1) [.int .i64 (-1)] from rfl) (Reps.one (show Kd.M (Kd.int .i64) _ _ _ (-1) [.int .i64 (-1)] from rfl) (Reps.one (show Kd.M (Kd.int .i64) _ _ _ (-1) [.int .i64 (-1)] from rfl) (Reps.one (show Kd.M (Kd.int .i64) _ _ _ (-1) [.int .i64 (-1)] from rfl) (Reps.one (show Kd.M (Kd.int .i64) _ _ _ (-1) [.int .i64 (-1)] from rfl) (Reps.none _ _)))))))))); intro v540 w16 ho17 hb hg_ hnew_; clear hg_ hnew_; (first | rw [← Ny539.out] at ho17 | (simp only [Int.reduceToNat] at ho17; rw [← Ny539.out] at ho17)); have n0_ := Am_ (Kd.S_elder' (Py_ HO_539001.out) (Kd.R_base ho17) hb); have n1_ := Am_ (Kd.R_lower ho17 (Bz_ (Pb2_ HB.out GE537.out GE538.out))); have n2_ := Am_ (Bb_ (g := gb537) (o := .cells #[.slice none 0 0, .slice none 0 0] 31 (0, 0)) (Pk_ BK537.out) hb); have n3_ := Am_ (Bb_ (g := gb538) (o := .cells #[.slice none 0 0, u539001] 31 (0, 0)) (Pk_ BK538.out) hb); have n4_ := Am_ (Be_ (Pb2_ HB.out GE537.out GE538.out) hb); clear HO_539001; clear BK537; clear BK538; clear HB; have HO_539001 := n0_; have HO541 := n1_; have BK537 := n2_; have BK538 := n3_; have HB := n4_; clear n0_ n1_ n2_ n3_ n4_; clear hb ho17; obtain ⟨Ao19, co19, eo19⟩ := Kd.R_slice HO541.out; subst eo19) | ((with_reducible refine gate_builtin (b := .append) (xs := #[.tmp 15, .tmp 17]) rfl ?_); at_builtin; refine Kd.S_append (Kd.slice 3 (Kd.int .i64)) (w0 := w) w.heap.size rfl (.tmp 15) (.tmp 17) 23 64 (.slice none 0 0) 24 rfl Try.underlying23 info64 rfl (by decide) (by omega) u539001 x539001_1 y539 [.slice Ao19 y539.length co19] (fun _ => True) (fun k_ => some k_ = (.slice Ao19 y539.length co19 : Value).ownBlock) rfl rfl ?aP (fun k_ hk_ => ((Kd.R_mono (ok' := fun k_ => ((fun _ => True)) k_ ∧ some k_ ≠ (u539001 : Value).ownBlock) (Kd.R_apart' (HO541.out) (Kd.S_typed HO_539001.out) (by decide)) (fun k_ hk => ⟨trivial, hk.2⟩))).1 k_ hk_.symm) ?aF ?aO ?aB ?aS ?aL ?_; (case aP => exact Kd.M_row (Kd.R_mono (Kd.R_tight rfl (Kd.R_mono (ok' := fun k_ => ((fun _ => True)) k_ ∧ some k_ ≠ (u539001 : Value).ownBlock) (Kd.R_apart' (HO541.out) (Kd.S_typed HO_539001.out) (by decide)) (fun k_ hk => ⟨trivial, hk.2⟩))) (fun _ h_ => h_))); (case aB => exact (Pb2_ HB.out GE537.out GE538.out)); (case aF => exact (fun _ _ => trivial)); (case aO => exact (by (with_reducible repeat (first | apply Kd.S_alloc | apply Kd.S_drewN | apply Kd.S_drew)); exact Kd.S_mono HO_539001.out (fun k_ hk => ⟨trivial, fun e_ => hk.2 e_⟩))); (case aS => exact (Bz_ (Pb2_ HB.out GE537.out GE538.out))); (case aL => have := LMc13.out; omega); intro v543 w18 ho hb hg hat; rw [← Ny542.out] at ho; have n0_ := Am_ (Bg_ (g := gb537) (o := .cells #[.slice none 0 0, .slice none 0 0] 31 (0, 0)) (Pk_ BK537.out) hg (Kd.S_ne HO_539001.out BK537.out (by decide))); have n1_ := Am_ (Bg_ (g := gb538) (o := .cells #[.slice none 0 0, u539001] 31 (0, 0)) (Pk_ BK538.out) hg (Kd.S_ne HO_539001.out BK538.out (by decide))); have n2_ := Am_ (hb); have n3_ := Am_ (ho); clear BK537; clear BK538; clear HB; clear HO_539001; clear HO541; have BK537 := n0_; have BK538 := n1_; have HB := n2_; have HO544 := n3_; clear n0_ n1_ n2_ n3_; clear ho hb hg hat; obtain ⟨Ao20, co20, eo20⟩ := Kd.S_slice HO544.out; subst eo20; obtain ⟨hcz21_0, hcz21_1, hfz21_0, hfz21_1⟩ := Ce2_ BK538.out))
      go_roundg k1
      case measure => have := HK1.out; omega
      case rel => exact ⟨(wrap64 (x4_1 + 1)), (y542), (.slice Ao20 y542.length co20), (by first | rfl | (simp; done) | (simp [*]; done)), H', ⟨by have := HK1.out; omega⟩, ⟨by (with_reducible repeat (first | apply Kd.S_alloc | apply Kd.S_drewN | apply Kd.S_drew)); exact Kd.S_mono (Kd.S_far (p := ⟨gb538, 1, none⟩) (Kd.S_types HO544.out BK538.out (by decide)) (fun _ hk => hk.2) (.slice Ao20 y542.length co20)) (fun _ hk => trivial)⟩, ⟨by (with_reducible repeat (first | refine Bn_ ?_ _ | refine Bd_ ?_ | refine Ba_ ?_ _)); refine blk_far ?_ NB537_538.out _; (with_reducible repeat (first | refine Bn_ ?_ _ | refine Bd_ ?_ | refine Ba_ ?_ _)); exact BK537.out⟩, ⟨by (with_reducible repeat (first | refine Bn_ ?_ _ | refine Bd_ ?_ | refine Ba_ ?_ _)); refine Bp_ (cs := #[.slice none 0 0, u539001]) ?_ 1 _ rfl; (with_reducible repeat (first | refine Bn_ ?_ _ | refine Bd_ ?_ | refine Ba_ ?_ _)); exact BK538.out⟩, ⟨by repeat (first | (with_reducible first | exact HB.out | apply Pa_ | apply Pn_ | apply Pd_ | refine Bs_ ?_ GE537.out | refine Bs_ ?_ GE538.out) | exact HB.out)⟩⟩
     ·rw [if_neg c13] at H
      exact absurd H (by simp)
    ·rw [if_neg c12] at H
     have c12b0 : decide (x4_1 < a0) = false := Df_ c12
     clear c12
     simp only [Option.some.injEq, Prod.mk.injEq] at H
     obtain ⟨rfl, rfl⟩ := H
     have hnb22 := NB538_537.out
     have hnc22 := NB537_538.out
     obtain ⟨hcz23_0, hcz23_1, hfz23_0, hfz23_1⟩ := Ce2_ BK538.out
     obtain ⟨hcz24_0, hcz24_1, hfz24_0, hfz24_1⟩ := Ce2_ BK537.out
     obtain ⟨Ao25, co25, eo25⟩ := Kd.S_slice HO_539001.out
     subst eo25
     go_wp2
     refine bodyPost_ret (results_cell_row rfl _ _ gb537 31 #[.slice none 0 0, .slice Ao25 x539001_1.length co25] (0, 0) _ rfl (by (with_reducible repeat (first | refine Bn_ ?_ _ | refine Bd_ ?_ | refine Ba_ ?_ _)); refine Bp_ (cs := #[.slice none 0 0, .slice none 0 0]) ?_ 1 _ rfl; (with_reducible repeat (first | refine Bn_ ?_ _ | refine Bd_ ?_ | refine Ba_ ?_ _)); refine Bp_ (cs := #[.slice none 0 0, .slice none 0 0]) ?_ 0 _ rfl; (with_reducible repeat (first | refine Bn_ ?_ _ | refine Bd_ ?_ | refine Ba_ ?_ _)); exact BK537.out) Try.underlying31 rfl (by kernel_rfl)) rfl ?_
     exact ⟨_, _, by first | rfl | (simp [errW_none, errW_some] <;> rfl) | (simp [*, errW_none, errW_some] <;> rfl), by first | exact Kd.R_nil _ _ _ _ _ | exact Kd.N_nil _ _ _ _ _ | exact Kd.V_nil _ _ _ _ _ | exact Kd.Q_nil _ _ _ _ _ | exact Kd.S_nil _ _ _ _ _, by (with_reducible repeat (first | apply Kd.S_alloc | apply Kd.S_drewN | apply Kd.S_drew)); exact Kd.S_mono (Kd.S_far (p := ⟨gb537, 1, none⟩) (Kd.S_far (p := ⟨gb537, 0, none⟩) (Kd.S_types HO_539001.out BK537.out (by decide)) (fun _ hk => hk.2) (.slice none 0 0)) (fun _ hk => hk.2) (.slice Ao25 x539001_1.length co25)) (fun _ hk => trivial), by repeat (first | (with_reducible first | exact HB.out | apply Pa_ | apply Pn_ | apply Pd_ | refine Bs_ ?_ GE537.out | refine Bs_ ?_ GE538.out) | exact HB.out)⟩

end Go.Proofs.Ytkecfdljodiifaa.P
