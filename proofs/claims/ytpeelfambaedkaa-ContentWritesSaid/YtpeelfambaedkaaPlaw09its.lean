-- Printed by a program of this session (inject.py) over the kit's print, with functions that were proved by hand in their places.
import Derived.Test.YtpeelfambaedkaaPK
import Derived.Test.YtpeelfambaedkaaPlaw09node
namespace Go.Proofs.Ytpeelfambaedkaa.P
open Go.RowKit Go.Proofs.YtpeelfambaedkaaW.PrintWords Go.Proofs.YtpeelfambaedkaaW.PrintLast Go.Proofs.YtpeelfambaedkaaW.PrintMore
attribute [local go_sem] max2_int min2_int max_two min_two max_three min_three max_four min_four   -- for this text's walks alone
set_option linter.unusedVariables false
set_option linter.unusedSimpArgs false

/-! ### flagstonelaw09_its: function 13 -/
def flagstonelaw09_its.l0 : Nat → Int → List (S59) → Int → Int → List (S53) → Int → Int → Option ((List (S53)) × Int × Int)
 | 0, _, _, _, _, _, _, _ => none
 | k + 1, x4, x214000, x214001, x214002, x216000, x216001, x216002 => if x4 < (x214000.length : Int) then (if 0 ≤ x4 then ((flagstonelaw09_node.f k ((rd_T59 x214000 x4).f0) ((rd_T59 x214000 x4).f1) ((rd_T59 x214000 x4).f2) ((rd_T59 x214000 x4).f3) ((rd_T59 x214000 x4).f4) ((rd_T59 x214000 x4).f5) ((rd_T59 x214000 x4).f6) ((rd_T59 x214000 x4).f7)).bind fun bt217 => (if x216000.length < 1599289640401 then (flagstonelaw09_its.l0 k (wrap64 (x4 + 1)) x214000 x214001 x214002 (x216000 ++ [(⟨bt217.1, bt217.2.1, bt217.2.2.1, bt217.2.2.2.1, bt217.2.2.2.2.1, bt217.2.2.2.2.2.1, bt217.2.2.2.2.2.2.1, bt217.2.2.2.2.2.2.2⟩ : S53)]) x216001 x216002) else (none))) else (none)) else (some (x216000, x216001, x216002))
def flagstonelaw09_its.f (k : Nat) (l0_0 : List (S59)) (a0_1 : Int) (a0_2 : Int) : Option ((List (S53)) × Int × Int) := flagstonelaw09_its.l0 k 0 l0_0 a0_1 a0_2 ([] : List (S53)) a0_1 a0_2
theorem flagstonelaw09_its.mono_l : ∀ k, (∀ y0 y1 y2 y3 y4 y5 y6, LeO (flagstonelaw09_its.l0 k y0 y1 y2 y3 y4 y5 y6) (flagstonelaw09_its.l0 (k + 1) y0 y1 y2 y3 y4 y5 y6))
 | 0 => fun _ _ _ _ _ _ _ r h => by simp [flagstonelaw09_its.l0] at h
 | k + 1 => by
  have ih0 := flagstonelaw09_its.mono_l k
  ·intro y0 y1 y2 y3 y4 y5 y6
   unfold flagstonelaw09_its.l0
   repeat' first
   | (with_reducible exact ih0 _ _ _ _ _ _ _)
   | (with_reducible exact flagstonelaw09_node.mono _ _ _ _ _ _ _ _ _)
   | (with_reducible exact LeO.refl _)
   | (with_reducible exact LeO.none _)
   | (with_reducible refine LeO.ite ?_ ?_)
   | (with_reducible refine LeO.bind ?_ (fun _ => ?_))
   | exact ih0 _ _ _ _ _ _ _
   | exact flagstonelaw09_node.mono _ _ _ _ _ _ _ _ _
   | exact LeO.none _
   | refine LeO.ite ?_ ?_
   | refine LeO.bind ?_ (fun _ => ?_)
theorem flagstonelaw09_its.mono : ∀ a0 a1 a2 k, LeO (flagstonelaw09_its.f k a0 a1 a2) (flagstonelaw09_its.f (k + 1) a0 a1 a2) := by
 intro a0 a1 a2 k
 have ih0 := flagstonelaw09_its.mono_l k
 unfold flagstonelaw09_its.f
 repeat' first
   | (with_reducible exact ih0 _ _ _ _ _ _ _)
   | (with_reducible exact flagstonelaw09_node.mono _ _ _ _ _ _ _ _ _)
   | (with_reducible exact LeO.refl _)
   | (with_reducible exact LeO.none _)
   | (with_reducible refine LeO.ite ?_ ?_)
   | (with_reducible refine LeO.bind ?_ (fun _ => ?_))
   | exact ih0 _ _ _ _ _ _ _
   | exact flagstonelaw09_node.mono _ _ _ _ _ _ _ _ _
   | exact LeO.none _
   | refine LeO.ite ?_ ?_
   | refine LeO.bind ?_ (fun _ => ?_)
def flagstonelaw09_its.T5 : Bool × List (List Nat × List Nat) := (true, [([], []), ([0], [0]), ([], []), ([2], [2]), ([], []), ([3, 4], [3, 4]), ([5], [5]), ([6], [6]), ([7], [7]), ([1, 8, 7], [1, 8]), ([0, 1, 2, 3, 4, 5, 6, 7, 8, 9], []), ([10, 9, 9, 0, 1, 2, 3, 4, 5, 6, 7, 8, 9], [9, 10])])
def flagstonelaw09_its.B5 : List Nat := [0, 1, 0, 4, 0, 28, 60, 124, 252, 511, 1023, 2047]
theorem flagstonelaw09_its.tab5 : rtab .any (opsOf Try.f13 5) = flagstonelaw09_its.T5 := by kernel_rfl
theorem flagstonelaw09_its.bits5 : waitsOk flagstonelaw09_its.T5.2 flagstonelaw09_its.B5 = true := by kernel_rfl
set_option maxHeartbeats 8000000 in
set_option maxRecDepth 100000 in
theorem flagstonelaw09_its.calls (k : Nat) (A0_0 : Option Addr) (c0_0 : Nat) (l0_0 : List (S59)) (a0_1 : Int) (a0_2 : Int) (r1 : List (S53)) (r2 : Int) (r3 : Int) (w : World) (hr0_0 : Kd.C k59 w A0_0 l0_0.length l0_0) (hc0_0 : l0_0.length ≤ c0_0) (h : flagstonelaw09_its.f k l0_0 a0_1 a0_2 = some (r1, r2, r3)) :
  Calls Try.prog 13 #[.agg #[.slice A0_0 l0_0.length c0_0, .int .i64 a0_1, .int .i64 a0_2]] w fun e w' => ∃ v0_ : Value, e = .returned (.agg #[v0_, .int .i64 r2, .int .i64 r3]) ∧ Kd.S k53 53 w' w.heap.size (fun _ => True) v0_ r1 ∧ Below w.heap.size w w' := by
 have hu24 := Try.underlying24
 have hu33 := Try.underlying33
 have hu59 := Try.underlying59
 have HR0_0 := Am_ hr0_0
 have HC0_0 := Am_ hc0_0
 clear hr0_0 hc0_0
 have HB := Am_ (Below.refl w.heap.size w)
 have H : (flagstonelaw09_its.l0 k 0 l0_0 a0_1 a0_2 ([] : List (S53)) a0_1 a0_2) = some (r1, r2, r3) := h
 clear h
 have H' := Am_ H
 clear H
 go_enter Try.func13, Try.ntmps13
 go_wp2_with (first | ((with_reducible refine gate_dst (N := 1) rfl ?_); refine box_event ?hg (N := 1) ?hd (cs := #[.slice A0_0 l0_0.length c0_0, .int .i64 a0_1, .int .i64 a0_2]) (t := 24) ?hr ?_; (case hd => rfl); (case hg => rfl); (case hr => go_simp; try rfl); intro gb213 hg w2 hbox hb; have n0_ := Am_ (Be_ (Pb0_ HB.out) hb); have n1_ := Am_ (hbox); have n2_ := Am_ ((by rw [hg]; exact (Bz_ (Pb0_ HB.out)) : w.heap.size ≤ gb213)); have n3_ := Am_ ((by rw [hg]; exact (Bz_ (Pb0_ HB.out)) : w.heap.size ≤ gb213)); clear HB; have HB := n0_; have BK213 := n1_; have GW213 := n2_; have GE213 := n3_; clear n0_ n1_ n2_ n3_; clear hb hbox hg) | ((with_reducible refine gate_dst (N := 2) rfl ?_); refine box_event ?hg (N := 2) ?hd (cs := #[.slice none 0 0, .int .i64 0, .int .i64 0]) (t := 33) ?hr ?_; (case hd => rfl); (case hg => rfl); (case hr => go_simp; try rfl); intro gb214 hg w3 hbox hb; have n0_ := Am_ (Bb_ (g := gb213) (o := .cells #[.slice A0_0 l0_0.length c0_0, .int .i64 a0_1, .int .i64 a0_2] 24 (0, 0)) (Pk_ BK213.out) hb); have n1_ := Am_ (Be_ (Pb1_ HB.out GE213.out) hb); have n2_ := Am_ (hbox); have n3_ := Am_ ((by rw [hg]; exact (Bz_ (Pb1_ HB.out GE213.out)) : w.heap.size ≤ gb214)); have n4_ := Am_ ((by rw [hg]; exact (Bz_ (Pb1_ HB.out GE213.out)) : w.heap.size ≤ gb214)); have n5_ := Am_ ((by rw [hg]; exact Nat.ne_of_lt (blk_lt (g := gb213) (o := .cells #[.slice A0_0 l0_0.length c0_0, .int .i64 a0_1, .int .i64 a0_2] 24 (0, 0)) (Pk_ BK213.out)) : gb213 ≠ gb214)); have n6_ := Am_ ((by rw [hg]; exact Nat.ne_of_gt (blk_lt (g := gb213) (o := .cells #[.slice A0_0 l0_0.length c0_0, .int .i64 a0_1, .int .i64 a0_2] 24 (0, 0)) (Pk_ BK213.out)) : gb214 ≠ gb213)); clear BK213; clear HB; have BK213 := n0_; have HB := n1_; have BK214 := n2_; have GW214 := n3_; have GE214 := n4_; have NB213_214 := n5_; have NB214_213 := n6_; clear n0_ n1_ n2_ n3_ n4_ n5_ n6_; clear hb hbox hg; have hnb4 := NB213_214.out; have hnc4 := NB214_213.out; obtain ⟨hcz5_0, hcz5_1, hcz5_2, hfz5_0, hfz5_1, hfz5_2⟩ := Ce3_ BK213.out) | ((with_reducible refine gate_dst (N := 3) rfl ?_); refine box_event ?hg (N := 3) ?hd (cs := #[.slice none 0 0, .int .i64 0, .int .i64 0]) (t := 33) ?hr ?_; (case hd => rfl); (case hg => rfl); (case hr => go_simp; try rfl); intro gb215 hg w6 hbox hb; have n0_ := Am_ (Bb_ (g := gb213) (o := .cells #[.slice A0_0 l0_0.length c0_0, .int .i64 a0_1, .int .i64 a0_2] 24 (0, 0)) (Pk_ BK213.out) hb); have n1_ := Am_ (Bb_ (g := gb214) (o := .cells #[.slice none 0 0, .int .i64 0, .int .i64 0] 33 (0, 0)) (Pk_ BK214.out) hb); have n2_ := Am_ (Be_ (Pb2_ HB.out GE213.out GE214.out) hb); have n3_ := Am_ (hbox); have n4_ := Am_ ((by rw [hg]; exact (Bz_ (Pb2_ HB.out GE213.out GE214.out)) : w.heap.size ≤ gb215)); have n5_ := Am_ ((by rw [hg]; exact (Bz_ (Pb2_ HB.out GE213.out GE214.out)) : w.heap.size ≤ gb215)); have n6_ := Am_ ((by rw [hg]; exact Nat.ne_of_lt (blk_lt (g := gb213) (o := .cells #[.slice A0_0 l0_0.length c0_0, .int .i64 a0_1, .int .i64 a0_2] 24 (0, 0)) (Pk_ BK213.out)) : gb213 ≠ gb215)); have n7_ := Am_ ((by rw [hg]; exact Nat.ne_of_gt (blk_lt (g := gb213) (o := .cells #[.slice A0_0 l0_0.length c0_0, .int .i64 a0_1, .int .i64 a0_2] 24 (0, 0)) (Pk_ BK213.out)) : gb215 ≠ gb213)); have n8_ := Am_ ((by rw [hg]; exact Nat.ne_of_lt (blk_lt (g := gb214) (o := .cells #[.slice none 0 0, .int .i64 0, .int .i64 0] 33 (0, 0)) (Pk_ BK214.out)) : gb214 ≠ gb215)); have n9_ := Am_ ((by rw [hg]; exact Nat.ne_of_gt (blk_lt (g := gb214) (o := .cells #[.slice none 0 0, .int .i64 0, .int .i64 0] 33 (0, 0)) (Pk_ BK214.out)) : gb215 ≠ gb214)); clear BK213; clear BK214; clear HB; have BK213 := n0_; have BK214 := n1_; have HB := n2_; have BK215 := n3_; have GW215 := n4_; have GE215 := n5_; have NB213_215 := n6_; have NB215_213 := n7_; have NB214_215 := n8_; have NB215_214 := n9_; clear n0_ n1_ n2_ n3_ n4_ n5_ n6_ n7_ n8_ n9_; clear hb hbox hg; have hnb7 := NB215_213.out; have hnc7 := NB213_215.out; have hnb8 := NB215_214.out; have hnc8 := NB214_215.out; obtain ⟨hcz9_0, hcz9_1, hcz9_2, hfz9_0, hfz9_1, hfz9_2⟩ := Ce3_ BK215.out))
 go_loopg [4] k (fun kq v4 w' => ∃ (x4_1 : Int) (x216000_1 : List (S53)) (u216000 : Value), v4 = .int .i64 x4_1 ∧ Aside0 (flagstonelaw09_its.l0 kq x4_1 l0_0 a0_1 a0_2 x216000_1 a0_1 a0_2 = some (r1, r2, r3)) ∧ Aside0 (kq ≤ k) ∧ Aside0 (Kd.S k53 53 w' w.heap.size (fun _ => True) u216000 x216000_1) ∧ Aside0 (w'.heap[gb213]? = some (.cells #[(.slice A0_0 l0_0.length c0_0), .int .i64 a0_1, .int .i64 a0_2] 24 (0, 0))) ∧ Aside0 (w'.heap[gb214]? = some (.cells #[(.slice none 0 0), .int .i64 0, .int .i64 0] 33 (0, 0))) ∧ Aside0 (w'.heap[gb215]? = some (.cells #[u216000, .int .i64 a0_1, .int .i64 a0_2] 33 (0, 0))) ∧ Aside0 (Below w.heap.size w w'))
 case atStart => exact ⟨(0), (([] : List (S53))), (.slice none 0 0), (by first | rfl | (simp; done) | (simp [*]; done)), H', ⟨Nat.le_refl _⟩, ⟨by first | exact Kd.S_nil _ _ _ _ _ | exact Kd.N_nil _ _ _ _ _ | exact Kd.V_nil _ _ _ _ _ | exact Kd.Q_nil _ _ _ _ _ | exact Kd.R_nil _ _ _ _ _⟩, ⟨by (with_reducible repeat (first | refine Bn_ ?_ _ | refine Bd_ ?_ | refine Ba_ ?_ _)); refine blk_far ?_ NB213_215.out _; (with_reducible repeat (first | refine Bn_ ?_ _ | refine Bd_ ?_ | refine Ba_ ?_ _)); refine blk_far ?_ NB213_215.out _; (with_reducible repeat (first | refine Bn_ ?_ _ | refine Bd_ ?_ | refine Ba_ ?_ _)); refine blk_far ?_ NB213_215.out _; (with_reducible repeat (first | refine Bn_ ?_ _ | refine Bd_ ?_ | refine Ba_ ?_ _)); exact BK213.out⟩, ⟨by (with_reducible repeat (first | refine Bn_ ?_ _ | refine Bd_ ?_ | refine Ba_ ?_ _)); refine blk_far ?_ NB214_215.out _; (with_reducible repeat (first | refine Bn_ ?_ _ | refine Bd_ ?_ | refine Ba_ ?_ _)); refine blk_far ?_ NB214_215.out _; (with_reducible repeat (first | refine Bn_ ?_ _ | refine Bd_ ?_ | refine Ba_ ?_ _)); refine blk_far ?_ NB214_215.out _; (with_reducible repeat (first | refine Bn_ ?_ _ | refine Bd_ ?_ | refine Ba_ ?_ _)); exact BK214.out⟩, ⟨by (with_reducible repeat (first | refine Bn_ ?_ _ | refine Bd_ ?_ | refine Ba_ ?_ _)); refine Bp_ (cs := #[.slice none 0 0, .int .i64 a0_1, .int .i64 0]) ?_ 2 _ rfl; (with_reducible repeat (first | refine Bn_ ?_ _ | refine Bd_ ?_ | refine Ba_ ?_ _)); refine Bp_ (cs := #[.slice none 0 0, .int .i64 0, .int .i64 0]) ?_ 1 _ rfl; (with_reducible repeat (first | refine Bn_ ?_ _ | refine Bd_ ?_ | refine Ba_ ?_ _)); refine Bp_ (cs := #[.slice none 0 0, .int .i64 0, .int .i64 0]) ?_ 0 _ rfl; (with_reducible repeat (first | refine Bn_ ?_ _ | refine Bd_ ?_ | refine Ba_ ?_ _)); exact BK215.out⟩, ⟨by repeat (first | (with_reducible first | exact HB.out | apply Pa_ | apply Pn_ | apply Pd_ | refine Bs_ ?_ GE213.out | refine Bs_ ?_ GE214.out | refine Bs_ ?_ GE215.out) | exact HB.out)⟩⟩
 case round =>
  clear H'
  try clear c1
  try clear p2
  try clear c4
  try clear c7
  try clear c8
  try clear hcz5_0
  try clear hcz5_1
  try clear hcz5_2
  try clear hcz9_0
  try clear hcz9_1
  try clear hcz9_2
  try clear hfz5_0
  try clear hfz5_1
  try clear hfz5_2
  try clear hfz9_0
  try clear hfz9_1
  try clear hfz9_2
  obtain ⟨x4_1, x216000_1, u216000, rfl, HA, HK1, HO_216000, BK213, BK214, BK215, HB⟩ := hrel
  cases gk with
  | zero => exact absurd HA.out (by simp [flagstonelaw09_its.l0])
  | succ k1 =>
   have H := HA.out
   clear HA
   simp only [flagstonelaw09_its.l0] at H
   by_cases c10 : x4_1 < (l0_0.length : Int)
   ·rw [if_pos c10] at H
    have c10b0 : decide (x4_1 < (l0_0.length : Int)) = true := Dt_ c10
    clear c10
    by_cases c11 : 0 ≤ x4_1
    ·rw [if_pos c11] at H
     have c11b0 : decide (0 ≤ x4_1) = true := Dt_ c11
     clear c11
     replace H := Option.bind_eq_some_iff.mp H
     obtain ⟨⟨t217, t218, t219, t220, t221, t222, t223, t224⟩, A120, H⟩ := H
     replace H : (if x216000_1.length < 1599289640401 then (flagstonelaw09_its.l0 k1 (wrap64 (x4_1 + 1)) l0_0 a0_1 a0_2 (x216000_1 ++ [(⟨t217, t218, t219, t220, t221, t222, t223, t224⟩ : S53)]) a0_1 a0_2) else (none)) = some (r1, r2, r3) := H
     have A12 := Am_ A120
     clear A120
     by_cases c13 : x216000_1.length < 1599289640401
     ·rw [if_pos c13] at H
      have LMc13 := Am_ c13
      clear c13
      obtain ⟨y227, hy227⟩ : ∃ y_ : List (S53), y_ = (x216000_1 ++ [(⟨t217, t218, t219, t220, t221, t222, t223, t224⟩ : S53)]) := ⟨_, rfl⟩
      replace H : (flagstonelaw09_its.l0 k1 (wrap64 (x4_1 + 1)) l0_0 a0_1 a0_2 y227 a0_1 a0_2) = some (r1, r2, r3) := by first | (rw [hy227]; with_reducible exact H) | (have H2_ := (Option.bind_some _ _).symm.trans H; rw [hy227]; with_reducible exact H2_) | (have H2_ := (Option.bind_some _ _).symm.trans H; with_reducible exact H2_) | with_reducible exact H | (rw [hy227]; exact H) | exact H
      have Ny227 := Am_ hy227
      clear hy227
      have H' := Am_ H
      clear H
      have hnb14 := NB213_214.out
      have hnc14 := NB214_213.out
      have hnb15 := NB213_215.out
      have hnc15 := NB215_213.out
      obtain ⟨hcz16_0, hcz16_1, hcz16_2, hfz16_0, hfz16_1, hfz16_2⟩ := Ce3_ BK213.out
      try go_wp2
      have n0_ := Am_ (Kd.S_drew HO_216000.out)
      have n1_ := Am_ (Bd_ BK213.out)
      have n2_ := Am_ (Bd_ BK214.out)
      have n3_ := Am_ (Bd_ BK215.out)
      have n4_ := Am_ (Pd_ HB.out)
      clear HO_216000
      clear BK213
      clear BK214
      clear BK215
      clear HB
      have HO_216000 := n0_
      have BK213 := n1_
      have BK214 := n2_
      have BK215 := n3_
      have HB := n4_
      clear n0_ n1_ n2_ n3_ n4_
      have p216 : 0 ≤ (x4_1 : Int) := Ot_ (by first | (with_reducible assumption) | assumption)
      have q216 : x4_1 < (l0_0.length : Int) := Ot_ (by first | (with_reducible assumption) | assumption)
      obtain ⟨ad216, A216_7, c216_7, e216, hx216_0, hx216_1, hx216_2, hx216_3, hx216_4, hx216_5, hx216_6, hx216_7, hl216_7, hi216_7⟩ := at_T59 HR0_0.out x4_1 p216 q216
      have hw216_7 := hx216_7
      have hw216_6 := hx216_6
      have hw216_5 := hx216_5
      have hw216_4 := hx216_4
      have hw216_3 := hx216_3
      have hw216_2 := hx216_2
      have hw216_1 := hx216_1
      have hw216_0 := hx216_0
      cases e216
      replace hx216_0 := (HB.out.cell (Bl_ w _ hx216_0)).trans hx216_0
      replace hx216_1 := (HB.out.cell (Bl_ w _ hx216_1)).trans hx216_1
      replace hx216_2 := (HB.out.cell (Bl_ w _ hx216_2)).trans hx216_2
      replace hx216_3 := (HB.out.cell (Bl_ w _ hx216_3)).trans hx216_3
      replace hx216_4 := (HB.out.cell (Bl_ w _ hx216_4)).trans hx216_4
      replace hx216_5 := (HB.out.cell (Bl_ w _ hx216_5)).trans hx216_5
      replace hx216_6 := (HB.out.cell (Bl_ w _ hx216_6)).trans hx216_6
      replace hx216_7 := (HB.out.cell (Bl_ w _ hx216_7)).trans hx216_7
      have HR216_7 := Am_ hi216_7
      have HC216_7 := Am_ hl216_7
      clear hi216_7 hl216_7
      replace p216 := eq_true p216
      replace q216 := eq_true q216
      refine start_ (n := 12) (S := fun w' => w'.cell? ⟨gb215, 0, none⟩ = some (u216000) ∧ w'.cell? ⟨gb215, 1, none⟩ = some (.int .i64 a0_1) ∧ w'.cell? ⟨gb215, 2, none⟩ = some (.int .i64 a0_2) ∧ w'.cell? ⟨gb213, 0, none⟩ = some (.slice (some ad216) l0_0.length c0_0) ∧ w'.cell? ⟨gb213, 1, none⟩ = some (.int .i64 a0_1) ∧ w'.cell? ⟨gb213, 2, none⟩ = some (.int .i64 a0_2) ∧ w'.cell? (ad216.add ((x4_1).toNat * 8)) = some (.int .i64 ((rd_T59 l0_0 x4_1).f0)) ∧ w'.cell? ⟨(ad216.add ((x4_1).toNat * 8)).block, (ad216.add ((x4_1).toNat * 8)).off + 1, none⟩ = some (.int .i64 ((rd_T59 l0_0 x4_1).f1)) ∧ w'.cell? ⟨(ad216.add ((x4_1).toNat * 8)).block, (ad216.add ((x4_1).toNat * 8)).off + 2, none⟩ = some (.int .i64 ((rd_T59 l0_0 x4_1).f2)) ∧ w'.cell? ⟨(ad216.add ((x4_1).toNat * 8)).block, (ad216.add ((x4_1).toNat * 8)).off + 3, none⟩ = some (.int .i64 ((rd_T59 l0_0 x4_1).f3)) ∧ w'.cell? ⟨(ad216.add ((x4_1).toNat * 8)).block, (ad216.add ((x4_1).toNat * 8)).off + 4, none⟩ = some (.int .i64 ((rd_T59 l0_0 x4_1).f4)) ∧ w'.cell? ⟨(ad216.add ((x4_1).toNat * 8)).block, (ad216.add ((x4_1).toNat * 8)).off + 5, none⟩ = some (.int .i64 ((rd_T59 l0_0 x4_1).f5)) ∧ w'.cell? ⟨(ad216.add ((x4_1).toNat * 8)).block, (ad216.add ((x4_1).toNat * 8)).off + 6, none⟩ = some (.string ((rd_T59 l0_0 x4_1).f6)) ∧ w'.cell? ⟨(ad216.add ((x4_1).toNat * 8)).block, (ad216.add ((x4_1).toNat * 8)).off + 7, none⟩ = some (.slice A216_7 ((rd_T59 l0_0 x4_1).f7).length c216_7)) (ds := [11]) #[f_,f_,f_,f_,f_,f_,f_,f_,f_,f_,f_,f_] (by kernel_rfl) rfl rfl ⟨(Bc_ BK215.out 0).trans rfl, (Bc_ BK215.out 1).trans rfl, (Bc_ BK215.out 2).trans rfl, (Bc_ BK213.out 0).trans rfl, (Bc_ BK213.out 1).trans rfl, (Bc_ BK213.out 2).trans rfl, ((HB.out.cell (Bl_ w _ hw216_0)).trans hw216_0), ((HB.out.cell (Bl_ w _ hw216_1)).trans hw216_1), ((HB.out.cell (Bl_ w _ hw216_2)).trans hw216_2), ((HB.out.cell (Bl_ w _ hw216_3)).trans hw216_3), ((HB.out.cell (Bl_ w _ hw216_4)).trans hw216_4), ((HB.out.cell (Bl_ w _ hw216_5)).trans hw216_5), ((HB.out.cell (Bl_ w _ hw216_6)).trans hw216_6), ((HB.out.cell (Bl_ w _ hw216_7)).trans hw216_7)⟩ (fun hHeld => ?_); refine with_tabW flagstonelaw09_its.tab5 flagstonelaw09_its.bits5 (fun HT_ HW_ => ?_)
      generalize wr.drew = w17 at HO_216000 BK213 BK214 BK215 HB HR216_7 hx216_0 hx216_1 hx216_2 hx216_3 hx216_4 hx216_5 hx216_6 hx216_7 hHeld ⊢
      refine pure_ (i := 0) (N := some 17) (v := ?_) (a' := ?_) #[t_,f_,f_,f_,f_,f_,f_,f_,f_,f_,f_,f_] rfl rfl (any_of HT_.out (by kernel_rfl)) (fun _ _ _ h => h) (Or.inl ⟨by rfl, ?_⟩) ?_ ?_
      rotate_left
      ·intro w'
       go_simp
       with_reducible rfl
      rotate_left
      ·simp only [Act.put, La_, Lb_, Lc_, i64_w, i32_w]
       rfl
      refine pure_ (i := 2) (N := some 19) (v := ?_) (a' := ?_) #[t_,f_,t_,f_,f_,f_,f_,f_,f_,f_,f_,f_] rfl rfl (any_of HT_.out (by kernel_rfl)) (fun _ _ _ h => h) (Or.inl ⟨by rfl, ?_⟩) ?_ ?_
      rotate_left
      ·intro w'
       go_simp
       with_reducible rfl
      rotate_left
      ·simp only [Act.put, La_, Lb_, Lc_, i64_w, i32_w]
       rfl
      refine pure_ (i := 4) (N := some 21) (v := ?_) (a' := ?_) #[t_,f_,t_,f_,t_,f_,f_,f_,f_,f_,f_,f_] rfl rfl (any_of HT_.out (by kernel_rfl)) (fun _ _ _ h => h) (Or.inl ⟨by rfl, ?_⟩) ?_ ?_
      rotate_left
      ·intro w'
       go_simp
       with_reducible rfl
      rotate_left
      ·simp only [Act.put, La_, Lb_, Lc_, i64_w, i32_w]
       rfl
      refine take_ (i := 1) (N := some 18) (v := ?_) (a' := ?_) #[t_,t_,t_,f_,t_,f_,f_,f_,f_,f_,f_,f_] rfl rfl (take_ofW HT_.out HW_.out (by kernel_rfl)) (fun _ _ _ h => h) (Or.inl ⟨by rfl, ?_⟩) hHeld ?_ ?_
      rotate_left
      ·rintro w' ⟨s0, s1, s2, s3, s4, s5, s6, s7, s8, s9, s10, s11, s12, s13⟩
       go_simp
       with_reducible rfl
      rotate_left
      ·simp only [Act.put, La_, Lb_, Lc_, i64_w, i32_w]
       rfl
      refine take_ (i := 3) (N := some 20) (v := ?_) (a' := ?_) #[t_,t_,t_,t_,t_,f_,f_,f_,f_,f_,f_,f_] rfl rfl (take_ofW HT_.out HW_.out (by kernel_rfl)) (fun _ _ _ h => h) (Or.inl ⟨by rfl, ?_⟩) hHeld ?_ ?_
      rotate_left
      ·rintro w' ⟨s0, s1, s2, s3, s4, s5, s6, s7, s8, s9, s10, s11, s12, s13⟩
       go_simp
       with_reducible rfl
      rotate_left
      ·simp only [Act.put, La_, Lb_, Lc_, i64_w, i32_w]
       rfl
      refine pure_ (i := 5) (N := some 22) (v := ?_) (a' := ?_) #[t_,t_,t_,t_,t_,t_,f_,f_,f_,f_,f_,f_] rfl rfl (any_of HT_.out (by kernel_rfl)) (fun _ _ _ h => h) (Or.inl ⟨by rfl, ?_⟩) ?_ ?_
      rotate_left
      ·intro w'
       go_simp
       with_reducible rfl
      rotate_left
      ·simp only [Act.put, La_, Lb_, Lc_, i64_w, i32_w]
       rfl
      refine take_ (i := 6) (N := some 23) (v := ?_) (a' := ?_) #[t_,t_,t_,t_,t_,t_,t_,f_,f_,f_,f_,f_] rfl rfl (take_ofW HT_.out HW_.out (by kernel_rfl)) (fun _ _ _ h => h) (Or.inl ⟨by rfl, ?_⟩) hHeld ?_ ?_
      rotate_left
      ·rintro w' ⟨s0, s1, s2, s3, s4, s5, s6, s7, s8, s9, s10, s11, s12, s13⟩
       go_simp
       with_reducible rfl
      rotate_left
      ·simp only [Act.put, La_, Lb_, Lc_, i64_w, i32_w]
       rfl
      refine one_ (i := 7) (N := some 24) #[t_,t_,t_,t_,t_,t_,t_,t_,f_,f_,f_,f_] rfl rfl (one_of HT_.out (by kernel_rfl)) (by decide) (fun K hK => ?_)
      refine goes_ Try.func26 (by kernel_rfl) rfl #[.agg #[.int .i64 ((rd_T59 l0_0 x4_1).f0), .int .i64 ((rd_T59 l0_0 x4_1).f1), .int .i64 ((rd_T59 l0_0 x4_1).f2), .int .i64 ((rd_T59 l0_0 x4_1).f3), .int .i64 ((rd_T59 l0_0 x4_1).f4), .int .i64 ((rd_T59 l0_0 x4_1).f5), .string ((rd_T59 l0_0 x4_1).f6), .slice A216_7 ((rd_T59 l0_0 x4_1).f7).length c216_7]] (by rfl) rfl rfl (by (try simp only [List.map_toArray, List.map_cons, List.map_nil]); first | done | rfl | (simp only [List.length_drop, List.length_take]; rfl)) ?_
      with_reducible refine (flagstonelaw09_node.calls k1 ((rd_T59 l0_0 x4_1).f0) ((rd_T59 l0_0 x4_1).f1) ((rd_T59 l0_0 x4_1).f2) ((rd_T59 l0_0 x4_1).f3) ((rd_T59 l0_0 x4_1).f4) ((rd_T59 l0_0 x4_1).f5) ((rd_T59 l0_0 x4_1).f6) _ _ ((rd_T59 l0_0 x4_1).f7) t217 t218 t219 t220 t221 t222 t223 t224 _ ?side1 ?side2 A12.out).mono ?_
      (case side1 => repeat (first | exact (Kd.C_below HR216_7.out HB.out) | (with_reducible refine Kd.C_alloc ?_ _) | (with_reducible refine Kd.C_drewN ?_ _) | (with_reducible refine Kd.C_drew ?_)))
      (case side2 => exact HC216_7.out)
      rintro e w18 ⟨v225, rfl, ho0, hb⟩
      refine ⟨_, rfl, ?_⟩
      have n0_ := Am_ (Kd.S_elder' (Py_ HO_216000.out) (Kd.R_base ho0) hb)
      have n1_ := Am_ (Kd.R_lower ho0 (Bz_ (Pb3_ HB.out GE213.out GE214.out GE215.out)))
      have n2_ := Am_ (Bb_ (g := gb213) (o := .cells #[.slice (some ad216) l0_0.length c0_0, .int .i64 a0_1, .int .i64 a0_2] 24 (0, 0)) (Pk_ BK213.out) hb)
      have n3_ := Am_ (Bb_ (g := gb214) (o := .cells #[.slice none 0 0, .int .i64 0, .int .i64 0] 33 (0, 0)) (Pk_ BK214.out) hb)
      have n4_ := Am_ (Bb_ (g := gb215) (o := .cells #[u216000, .int .i64 a0_1, .int .i64 a0_2] 33 (0, 0)) (Pk_ BK215.out) hb)
      have n5_ := Am_ (Be_ (Pb3_ HB.out GE213.out GE214.out GE215.out) hb)
      clear HO_216000
      clear BK213
      clear BK214
      clear BK215
      clear HB
      have HO_216000 := n0_
      have HO226 := n1_
      have BK213 := n2_
      have BK214 := n3_
      have BK215 := n4_
      have HB := n5_
      clear n0_ n1_ n2_ n3_ n4_ n5_
      (try clear hb)
      (try clear hb2)
      (try clear hk)
      (try clear hi)
      (try clear ho0)
      obtain ⟨Ao20, co20, eo20⟩ := Kd.R_slice HO226.out
      (first | subst eo20 | (injection eo20 with f1_ f2_ f3_; have f4_ := f1_.symm; have f5_ := f3_.symm; clear f1_ f2_ f3_; subst f4_; subst f5_))
      refine hK.out _ _ ⟨(Bc_ BK215.out 0).trans rfl, (Bc_ BK215.out 1).trans rfl, (Bc_ BK215.out 2).trans rfl, (Bc_ BK213.out 0).trans rfl, (Bc_ BK213.out 1).trans rfl, (Bc_ BK213.out 2).trans rfl, ((HB.out.cell (Bl_ w _ hw216_0)).trans hw216_0), ((HB.out.cell (Bl_ w _ hw216_1)).trans hw216_1), ((HB.out.cell (Bl_ w _ hw216_2)).trans hw216_2), ((HB.out.cell (Bl_ w _ hw216_3)).trans hw216_3), ((HB.out.cell (Bl_ w _ hw216_4)).trans hw216_4), ((HB.out.cell (Bl_ w _ hw216_5)).trans hw216_5), ((HB.out.cell (Bl_ w _ hw216_6)).trans hw216_6), ((HB.out.cell (Bl_ w _ hw216_7)).trans hw216_7)⟩ (fun hHeld => ?_)
      clear hK K
      refine norm_ (a' := ?_) ?_ ?_
      rotate_left
      ·show Act.put _ (some 24) _ = _
       simp only [Act.put, La_, Lb_, Lc_, i64_w, i32_w]
       rfl
      refine one_ (i := 8) (N := some 25) #[t_,t_,t_,t_,t_,t_,t_,t_,t_,f_,f_,f_] rfl rfl (one_of HT_.out (by kernel_rfl)) (by decide) (fun K hK => ?_)
      refine value_ (w1 := ?_) (v := ?_) (by rfl) rfl ?_ ?_
      rotate_left 2
      ·go_simp
       constructor
       ·rfl
       ·rfl
      refine hK.out _ _ ⟨(Bc_ (Ba_ BK215.out _) 0).trans rfl, (Bc_ (Ba_ BK215.out _) 1).trans rfl, (Bc_ (Ba_ BK215.out _) 2).trans rfl, (Bc_ (Ba_ BK213.out _) 0).trans rfl, (Bc_ (Ba_ BK213.out _) 1).trans rfl, (Bc_ (Ba_ BK213.out _) 2).trans rfl, (World.cell?_alloc_lt _ _ _ (Bl_ _ _ (((HB.out.cell (Bl_ w _ hw216_0)).trans hw216_0)))).trans (((HB.out.cell (Bl_ w _ hw216_0)).trans hw216_0)), (World.cell?_alloc_lt _ _ _ (Bl_ _ _ (((HB.out.cell (Bl_ w _ hw216_1)).trans hw216_1)))).trans (((HB.out.cell (Bl_ w _ hw216_1)).trans hw216_1)), (World.cell?_alloc_lt _ _ _ (Bl_ _ _ (((HB.out.cell (Bl_ w _ hw216_2)).trans hw216_2)))).trans (((HB.out.cell (Bl_ w _ hw216_2)).trans hw216_2)), (World.cell?_alloc_lt _ _ _ (Bl_ _ _ (((HB.out.cell (Bl_ w _ hw216_3)).trans hw216_3)))).trans (((HB.out.cell (Bl_ w _ hw216_3)).trans hw216_3)), (World.cell?_alloc_lt _ _ _ (Bl_ _ _ (((HB.out.cell (Bl_ w _ hw216_4)).trans hw216_4)))).trans (((HB.out.cell (Bl_ w _ hw216_4)).trans hw216_4)), (World.cell?_alloc_lt _ _ _ (Bl_ _ _ (((HB.out.cell (Bl_ w _ hw216_5)).trans hw216_5)))).trans (((HB.out.cell (Bl_ w _ hw216_5)).trans hw216_5)), (World.cell?_alloc_lt _ _ _ (Bl_ _ _ (((HB.out.cell (Bl_ w _ hw216_6)).trans hw216_6)))).trans (((HB.out.cell (Bl_ w _ hw216_6)).trans hw216_6)), (World.cell?_alloc_lt _ _ _ (Bl_ _ _ (((HB.out.cell (Bl_ w _ hw216_7)).trans hw216_7)))).trans (((HB.out.cell (Bl_ w _ hw216_7)).trans hw216_7))⟩ (fun hHeld => ?_)
      clear hK K
      refine norm_ (a' := ?_) ?_ ?_
      rotate_left
      ·show Act.put _ (some 25) _ = _
       simp only [Act.put, La_, Lb_, Lc_, i64_w, i32_w]
       rfl
      refine one_ (i := 9) (N := some 26) #[t_,t_,t_,t_,t_,t_,t_,t_,t_,t_,f_,f_] rfl rfl (one_of HT_.out (by kernel_rfl)) (by decide) (fun K hK => ?_)
      refine Kd.S_append_step k53 (w0 := w) w.heap.size (by rfl) (.tmp 18) (.tmp 25) 31 53 (.agg #[(.int .i64 0), (.int .i64 0), (.int .i64 0), (.int .i64 0), (.int .i64 0), (.int .i64 0), (.string ⟨#[]⟩), (.slice none 0 0)]) 88 rfl Try.underlying31 info53 rfl (by decide) (by omega) u216000 x216000_1 (⟨t217, t218, t219, t220, t221, t222, t223, t224⟩ : S53) [.int .i64 t217, .int .i64 t218, .int .i64 t219, .int .i64 t220, .int .i64 t221, .int .i64 t222, .string t223, .slice Ao20 t224.length co20] (fun _ => True) (fun k_ => some k_ = (.slice Ao20 t224.length co20 : Value).ownBlock) rfl rfl ?aP (fun k_ hk_ => ((Kd.R_mono (ok' := fun k_ => ((fun _ => True)) k_ ∧ some k_ ≠ (u216000 : Value).ownBlock) (Kd.R_apart' (HO226.out) (Kd.S_typed HO_216000.out) (by decide)) (fun k_ hk => ⟨trivial, hk.2⟩))).1 k_ hk_.symm) ?aF ?aO ?aB ?aS ?aL ?_
      (case aP => exact k53_mkM _ _ _ (⟨t217, t218, t219, t220, t221, t222, t223, t224⟩ : S53) (Kd.R_mono (Kd.R_tight rfl (Kd.R_mono (ok' := fun k_ => ((fun _ => True)) k_ ∧ some k_ ≠ (u216000 : Value).ownBlock) (Kd.R_apart' (HO226.out) (Kd.S_typed HO_216000.out) (by decide)) (fun k_ hk => ⟨trivial, hk.2⟩))) (fun _ h_ => h_)))
      (case aB => exact (Pb3_ HB.out GE213.out GE214.out GE215.out))
      (case aF => exact (fun _ _ => trivial))
      (case aO => exact (by (with_reducible repeat (first | apply Kd.S_alloc | apply Kd.S_drewN | apply Kd.S_drew)); exact Kd.S_mono HO_216000.out (fun k_ hk => ⟨trivial, fun e_ => hk.2 e_⟩)))
      (case aS => exact (Bz_ (Pb3_ HB.out GE213.out GE214.out GE215.out)))
      (case aL => have := LMc13.out; omega)
      intro v228 w19 ho hb hg hat
      rw [← Ny227.out] at ho
      have n0_ := Am_ (Bg_ (g := gb213) (o := .cells #[.slice (some ad216) l0_0.length c0_0, .int .i64 a0_1, .int .i64 a0_2] 24 (0, 0)) (Pk_ BK213.out) hg (Kd.S_ne HO_216000.out BK213.out (by decide)))
      have n1_ := Am_ (Bg_ (g := gb214) (o := .cells #[.slice none 0 0, .int .i64 0, .int .i64 0] 33 (0, 0)) (Pk_ BK214.out) hg (Kd.S_ne HO_216000.out BK214.out (by decide)))
      have n2_ := Am_ (Bg_ (g := gb215) (o := .cells #[u216000, .int .i64 a0_1, .int .i64 a0_2] 33 (0, 0)) (Pk_ BK215.out) hg (Kd.S_ne HO_216000.out BK215.out (by decide)))
      have n3_ := Am_ (hb)
      have n4_ := Am_ (ho)
      clear BK213
      clear BK214
      clear BK215
      clear HB
      clear HO_216000
      clear HO226
      have BK213 := n0_
      have BK214 := n1_
      have BK215 := n2_
      have HB := n3_
      have HO229 := n4_
      clear n0_ n1_ n2_ n3_ n4_
      clear ho hb hg hat
      obtain ⟨Ao21, co21, eo21⟩ := Kd.S_slice HO229.out
      (first | subst eo21 | (injection eo21 with f1_ f2_ f3_; have f4_ := f1_.symm; have f5_ := f3_.symm; clear f1_ f2_ f3_; subst f4_; subst f5_))
      refine hK.out _ _ ⟨(Bc_ BK215.out 0).trans rfl, (Bc_ BK215.out 1).trans rfl, (Bc_ BK215.out 2).trans rfl, (Bc_ BK213.out 0).trans rfl, (Bc_ BK213.out 1).trans rfl, (Bc_ BK213.out 2).trans rfl, ((HB.out.cell (Bl_ w _ hw216_0)).trans hw216_0), ((HB.out.cell (Bl_ w _ hw216_1)).trans hw216_1), ((HB.out.cell (Bl_ w _ hw216_2)).trans hw216_2), ((HB.out.cell (Bl_ w _ hw216_3)).trans hw216_3), ((HB.out.cell (Bl_ w _ hw216_4)).trans hw216_4), ((HB.out.cell (Bl_ w _ hw216_5)).trans hw216_5), ((HB.out.cell (Bl_ w _ hw216_6)).trans hw216_6), ((HB.out.cell (Bl_ w _ hw216_7)).trans hw216_7)⟩ (fun hHeld => ?_)
      clear hK K
      refine norm_ (a' := ?_) ?_ ?_
      rotate_left
      ·show Act.put _ (some 26) _ = _
       simp only [Act.put, La_, Lb_, Lc_, i64_w, i32_w]
       rfl
      refine pure_ (i := 10) (N := some 27) (v := ?_) (a' := ?_) #[t_,t_,t_,t_,t_,t_,t_,t_,t_,t_,t_,f_] rfl rfl (any_of HT_.out (by kernel_rfl)) (fun _ _ _ h => h) (Or.inl ⟨by rfl, ?_⟩) ?_ ?_
      rotate_left
      ·intro w'
       go_simp
       with_reducible rfl
      rotate_left
      ·simp only [Act.put, La_, Lb_, Lc_, i64_w, i32_w]
       rfl
      refine last_ (i := 11) (N := none) #[t_,t_,t_,t_,t_,t_,t_,t_,t_,t_,t_,t_] rfl rfl (one_of HT_.out (by kernel_rfl)) (by decide) (fun K hK => ?_)
      have hs22 : w19.cell? ⟨gb215, 0, none⟩ = some (u216000) := (Bc_ BK215.out 0).trans rfl
      have hfs22 := Bf_ BK215.out 0
      have hns22_0 := NB213_215.out
      have hns22_1 := NB214_215.out
      have hms22_0 := NB215_213.out
      have hms22_1 := NB215_214.out
      refine skip_ (w1 := ?_) (by rfl) rfl ?_ ?_
      rotate_left
      ·go_simp
       rfl
      refine hK.out _ _ ?_
      clear hK K
      refine done_ (done_of HT_.out (by kernel_rfl)) ?_
      try go_wp2
      go_roundg k1
      case measure => have := HK1.out; omega
      case rel => exact ⟨(wrap64 (x4_1 + 1)), (y227), (.slice Ao21 y227.length co21), (by first | rfl | (simp; done) | (simp [*]; done)), H', ⟨by have := HK1.out; omega⟩, ⟨by (with_reducible repeat (first | apply Kd.S_alloc | apply Kd.S_drewN | apply Kd.S_drew)); exact Kd.S_mono (Kd.S_far (p := ⟨gb215, 0, none⟩) (Kd.S_types HO229.out BK215.out (by decide)) (fun _ hk => hk.2) (.slice Ao21 y227.length co21)) (fun _ hk => trivial)⟩, ⟨by (with_reducible repeat (first | refine Bn_ ?_ _ | refine Bd_ ?_ | refine Ba_ ?_ _)); refine blk_far ?_ NB213_215.out _; (with_reducible repeat (first | refine Bn_ ?_ _ | refine Bd_ ?_ | refine Ba_ ?_ _)); exact BK213.out⟩, ⟨by (with_reducible repeat (first | refine Bn_ ?_ _ | refine Bd_ ?_ | refine Ba_ ?_ _)); refine blk_far ?_ NB214_215.out _; (with_reducible repeat (first | refine Bn_ ?_ _ | refine Bd_ ?_ | refine Ba_ ?_ _)); exact BK214.out⟩, ⟨by (with_reducible repeat (first | refine Bn_ ?_ _ | refine Bd_ ?_ | refine Ba_ ?_ _)); refine Bp_ (cs := #[u216000, .int .i64 a0_1, .int .i64 a0_2]) ?_ 0 _ rfl; (with_reducible repeat (first | refine Bn_ ?_ _ | refine Bd_ ?_ | refine Ba_ ?_ _)); exact BK215.out⟩, ⟨by repeat (first | (with_reducible first | exact HB.out | apply Pa_ | apply Pn_ | apply Pd_ | refine Bs_ ?_ GE213.out | refine Bs_ ?_ GE214.out | refine Bs_ ?_ GE215.out) | exact HB.out)⟩⟩
     ·rw [if_neg c13] at H
      exact absurd H (by simp)
    ·rw [if_neg c11] at H
     exact absurd H (by simp)
   ·rw [if_neg c10] at H
    have c10b0 : decide (x4_1 < (l0_0.length : Int)) = false := Df_ c10
    clear c10
    simp only [Option.some.injEq, Prod.mk.injEq] at H
    obtain ⟨rfl, rfl, rfl⟩ := H
    have hnb23 := NB213_214.out
    have hnc23 := NB214_213.out
    have hnb24 := NB213_215.out
    have hnc24 := NB215_213.out
    obtain ⟨hcz25_0, hcz25_1, hcz25_2, hfz25_0, hfz25_1, hfz25_2⟩ := Ce3_ BK213.out
    have hnb26 := NB215_214.out
    have hnc26 := NB214_215.out
    obtain ⟨hcz27_0, hcz27_1, hcz27_2, hfz27_0, hfz27_1, hfz27_2⟩ := Ce3_ BK215.out
    obtain ⟨Ao28, co28, eo28⟩ := Kd.S_slice HO_216000.out
    subst eo28
    obtain ⟨hcz29_0, hcz29_1, hcz29_2, hfz29_0, hfz29_1, hfz29_2⟩ := Ce3_ BK214.out
    go_wp2
    refine bodyPost_ret (results_cell_row rfl _ _ gb214 33 #[.slice Ao28 x216000_1.length co28, .int .i64 a0_1, .int .i64 a0_2] (0, 0) _ rfl (by (with_reducible repeat (first | refine Bn_ ?_ _ | refine Bd_ ?_ | refine Ba_ ?_ _)); refine Bp_ (cs := #[.slice Ao28 x216000_1.length co28, .int .i64 a0_1, .int .i64 0]) ?_ 2 _ rfl; (with_reducible repeat (first | refine Bn_ ?_ _ | refine Bd_ ?_ | refine Ba_ ?_ _)); refine Bp_ (cs := #[.slice Ao28 x216000_1.length co28, .int .i64 0, .int .i64 0]) ?_ 1 _ rfl; (with_reducible repeat (first | refine Bn_ ?_ _ | refine Bd_ ?_ | refine Ba_ ?_ _)); refine Bp_ (cs := #[.slice none 0 0, .int .i64 0, .int .i64 0]) ?_ 0 _ rfl; (with_reducible repeat (first | refine Bn_ ?_ _ | refine Bd_ ?_ | refine Ba_ ?_ _)); exact BK214.out) Try.underlying33 rfl (by kernel_rfl)) rfl ?_
    exact ⟨_, by first | rfl | (simp [errW_none, errW_some] <;> rfl) | (simp [*, errW_none, errW_some] <;> rfl), by (with_reducible repeat (first | apply Kd.S_alloc | apply Kd.S_drewN | apply Kd.S_drew)); exact Kd.S_mono (Kd.S_far (p := ⟨gb214, 2, none⟩) (Kd.S_far (p := ⟨gb214, 1, none⟩) (Kd.S_far (p := ⟨gb214, 0, none⟩) (Kd.S_types HO_216000.out BK214.out (by decide)) (fun _ hk => hk.2) (.slice Ao28 x216000_1.length co28)) (fun _ hk => hk.2) (.int .i64 a0_1)) (fun _ hk => hk.2) (.int .i64 a0_2)) (fun _ hk => trivial), by repeat (first | (with_reducible first | exact HB.out | apply Pa_ | apply Pn_ | apply Pd_ | refine Bs_ ?_ GE213.out | refine Bs_ ?_ GE214.out | refine Bs_ ?_ GE215.out) | exact HB.out)⟩

end Go.Proofs.Ytpeelfambaedkaa.P
