-- Printed by a program of this session (inject.py) over the kit's print, with functions that were proved by hand in their places.
import Derived.Test.YtpeelfambaedkaaPK
namespace Go.Proofs.Ytpeelfambaedkaa.P
open Go.RowKit Go.Proofs.YtpeelfambaedkaaW.PrintWords Go.Proofs.YtpeelfambaedkaaW.PrintLast Go.Proofs.YtpeelfambaedkaaW.PrintMore
attribute [local go_sem] max2_int min2_int max_two min_two max_three min_three max_four min_four   -- for this text's walks alone
set_option linter.unusedVariables false
set_option linter.unusedSimpArgs false

/-! ### flagstonelaw09_node: function 26 -/
def flagstonelaw09_node.l0 : Nat → Int → Int → Int → Int → Int → Int → Int → ByteArray → List (S76) → Int → Int → Int → Int → Int → Int → ByteArray → List (S75) → Option (Int × Int × Int × Int × Int × Int × ByteArray × (List (S75)))
 | 0, _, _, _, _, _, _, _, _, _, _, _, _, _, _, _, _, _ => none
 | k + 1, x4, x207000, x207001, x207002, x207003, x207004, x207005, x207006, x207007, x209000, x209001, x209002, x209003, x209004, x209005, x209006, x209007 => if x4 < (x207007.length : Int) then (if 0 ≤ x4 then (if x209007.length < 5864062014805 then (flagstonelaw09_node.l0 k (wrap64 (x4 + 1)) x207000 x207001 x207002 x207003 x207004 x207005 x207006 x207007 x209000 x209001 x209002 x209003 x209004 x209005 x209006 (x209007 ++ [(⟨(rd_T76 x207007 x4).f0, (rd_T76 x207007 x4).f1⟩ : S75)])) else (none)) else (none)) else (some (x209000, x209001, x209002, x209003, x209004, x209005, x209006, x209007))
def flagstonelaw09_node.f (k : Nat) (a0_0 : Int) (a0_1 : Int) (a0_2 : Int) (a0_3 : Int) (a0_4 : Int) (a0_5 : Int) (a0_6 : ByteArray) (l0_7 : List (S76)) : Option (Int × Int × Int × Int × Int × Int × ByteArray × (List (S75))) := flagstonelaw09_node.l0 k 0 a0_0 a0_1 a0_2 a0_3 a0_4 a0_5 a0_6 l0_7 a0_0 a0_1 a0_2 a0_3 a0_4 a0_5 a0_6 ([] : List (S75))
theorem flagstonelaw09_node.mono_l : ∀ k, (∀ y0 y1 y2 y3 y4 y5 y6 y7 y8 y9 y10 y11 y12 y13 y14 y15 y16, LeO (flagstonelaw09_node.l0 k y0 y1 y2 y3 y4 y5 y6 y7 y8 y9 y10 y11 y12 y13 y14 y15 y16) (flagstonelaw09_node.l0 (k + 1) y0 y1 y2 y3 y4 y5 y6 y7 y8 y9 y10 y11 y12 y13 y14 y15 y16))
 | 0 => fun _ _ _ _ _ _ _ _ _ _ _ _ _ _ _ _ _ r h => by simp [flagstonelaw09_node.l0] at h
 | k + 1 => by
  have ih0 := flagstonelaw09_node.mono_l k
  ·intro y0 y1 y2 y3 y4 y5 y6 y7 y8 y9 y10 y11 y12 y13 y14 y15 y16
   unfold flagstonelaw09_node.l0
   repeat' first
   | (with_reducible exact ih0 _ _ _ _ _ _ _ _ _ _ _ _ _ _ _ _ _)
   | (with_reducible exact LeO.refl _)
   | (with_reducible exact LeO.none _)
   | (with_reducible refine LeO.ite ?_ ?_)
   | (with_reducible refine LeO.bind ?_ (fun _ => ?_))
   | exact ih0 _ _ _ _ _ _ _ _ _ _ _ _ _ _ _ _ _
   | exact LeO.none _
   | refine LeO.ite ?_ ?_
   | refine LeO.bind ?_ (fun _ => ?_)
theorem flagstonelaw09_node.mono : ∀ a0 a1 a2 a3 a4 a5 a6 a7 k, LeO (flagstonelaw09_node.f k a0 a1 a2 a3 a4 a5 a6 a7) (flagstonelaw09_node.f (k + 1) a0 a1 a2 a3 a4 a5 a6 a7) := by
 intro a0 a1 a2 a3 a4 a5 a6 a7 k
 have ih0 := flagstonelaw09_node.mono_l k
 unfold flagstonelaw09_node.f
 repeat' first
   | (with_reducible exact ih0 _ _ _ _ _ _ _ _ _ _ _ _ _ _ _ _ _)
   | (with_reducible exact LeO.refl _)
   | (with_reducible exact LeO.none _)
   | (with_reducible refine LeO.ite ?_ ?_)
   | (with_reducible refine LeO.bind ?_ (fun _ => ?_))
   | exact ih0 _ _ _ _ _ _ _ _ _ _ _ _ _ _ _ _ _
   | exact LeO.none _
   | refine LeO.ite ?_ ?_
   | refine LeO.bind ?_ (fun _ => ?_)
def flagstonelaw09_node.T5 : Bool × List (List Nat × List Nat) := (true, [([], []), ([0], [0]), ([], []), ([2], [2]), ([], []), ([3, 4], [3, 4]), ([5], [5]), ([6], [6]), ([1, 7], [1, 7]), ([0, 1, 2, 3, 4, 5, 6, 7, 8], []), ([9, 8, 8, 0, 1, 2, 3, 4, 5, 6, 7, 8], [8, 9])])
def flagstonelaw09_node.B5 : List Nat := [0, 1, 0, 4, 0, 28, 60, 124, 255, 511, 1023]
theorem flagstonelaw09_node.tab5 : rtab .any (opsOf Try.f26 5) = flagstonelaw09_node.T5 := by kernel_rfl
theorem flagstonelaw09_node.bits5 : waitsOk flagstonelaw09_node.T5.2 flagstonelaw09_node.B5 = true := by kernel_rfl
set_option maxHeartbeats 8000000 in
set_option maxRecDepth 100000 in
theorem flagstonelaw09_node.calls (k : Nat) (a0_0 : Int) (a0_1 : Int) (a0_2 : Int) (a0_3 : Int) (a0_4 : Int) (a0_5 : Int) (a0_6 : ByteArray) (A0_7 : Option Addr) (c0_7 : Nat) (l0_7 : List (S76)) (r1 : Int) (r2 : Int) (r3 : Int) (r4 : Int) (r5 : Int) (r6 : Int) (r7 : ByteArray) (r8 : List (S75)) (w : World) (hr0_7 : Kd.C k76 w A0_7 l0_7.length l0_7) (hc0_7 : l0_7.length ≤ c0_7) (h : flagstonelaw09_node.f k a0_0 a0_1 a0_2 a0_3 a0_4 a0_5 a0_6 l0_7 = some (r1, r2, r3, r4, r5, r6, r7, r8)) :
  Calls Try.prog 26 #[.agg #[.int .i64 a0_0, .int .i64 a0_1, .int .i64 a0_2, .int .i64 a0_3, .int .i64 a0_4, .int .i64 a0_5, .string a0_6, .slice A0_7 l0_7.length c0_7]] w fun e w' => ∃ v7_ : Value, e = .returned (.agg #[.int .i64 r1, .int .i64 r2, .int .i64 r3, .int .i64 r4, .int .i64 r5, .int .i64 r6, .string r7, v7_]) ∧ Kd.R k75 75 w' w.heap.size (fun _ => True) v7_ r8 ∧ Below w.heap.size w w' := by
 have hu59 := Try.underlying59
 have hu53 := Try.underlying53
 have hu76 := Try.underlying76
 have HR0_7 := Am_ hr0_7
 have HC0_7 := Am_ hc0_7
 clear hr0_7 hc0_7
 have HB := Am_ (Below.refl w.heap.size w)
 have H : (flagstonelaw09_node.l0 k 0 a0_0 a0_1 a0_2 a0_3 a0_4 a0_5 a0_6 l0_7 a0_0 a0_1 a0_2 a0_3 a0_4 a0_5 a0_6 ([] : List (S75))) = some (r1, r2, r3, r4, r5, r6, r7, r8) := h
 clear h
 have H' := Am_ H
 clear H
 go_enter Try.func26, Try.ntmps26
 go_wp2_with (first | ((with_reducible refine gate_dst (N := 1) rfl ?_); refine box_event ?hg (N := 1) ?hd (cs := #[.int .i64 a0_0, .int .i64 a0_1, .int .i64 a0_2, .int .i64 a0_3, .int .i64 a0_4, .int .i64 a0_5, .string a0_6, .slice A0_7 l0_7.length c0_7]) (t := 59) ?hr ?_; (case hd => rfl); (case hg => rfl); (case hr => go_simp; try rfl); intro gb206 hg w2 hbox hb; have n0_ := Am_ (Be_ (Pb0_ HB.out) hb); have n1_ := Am_ (hbox); have n2_ := Am_ ((by rw [hg]; exact (Bz_ (Pb0_ HB.out)) : w.heap.size ≤ gb206)); have n3_ := Am_ ((by rw [hg]; exact (Bz_ (Pb0_ HB.out)) : w.heap.size ≤ gb206)); clear HB; have HB := n0_; have BK206 := n1_; have GW206 := n2_; have GE206 := n3_; clear n0_ n1_ n2_ n3_; clear hb hbox hg) | ((with_reducible refine gate_dst (N := 2) rfl ?_); refine box_event ?hg (N := 2) ?hd (cs := #[.int .i64 0, .int .i64 0, .int .i64 0, .int .i64 0, .int .i64 0, .int .i64 0, .string (⟨#[]⟩ : ByteArray), .slice none 0 0]) (t := 53) ?hr ?_; (case hd => rfl); (case hg => rfl); (case hr => go_simp; try rfl); intro gb207 hg w3 hbox hb; have n0_ := Am_ (Bb_ (g := gb206) (o := .cells #[.int .i64 a0_0, .int .i64 a0_1, .int .i64 a0_2, .int .i64 a0_3, .int .i64 a0_4, .int .i64 a0_5, .string a0_6, .slice A0_7 l0_7.length c0_7] 59 (0, 0)) (Pk_ BK206.out) hb); have n1_ := Am_ (Be_ (Pb1_ HB.out GE206.out) hb); have n2_ := Am_ (hbox); have n3_ := Am_ ((by rw [hg]; exact (Bz_ (Pb1_ HB.out GE206.out)) : w.heap.size ≤ gb207)); have n4_ := Am_ ((by rw [hg]; exact (Bz_ (Pb1_ HB.out GE206.out)) : w.heap.size ≤ gb207)); have n5_ := Am_ ((by rw [hg]; exact Nat.ne_of_lt (blk_lt (g := gb206) (o := .cells #[.int .i64 a0_0, .int .i64 a0_1, .int .i64 a0_2, .int .i64 a0_3, .int .i64 a0_4, .int .i64 a0_5, .string a0_6, .slice A0_7 l0_7.length c0_7] 59 (0, 0)) (Pk_ BK206.out)) : gb206 ≠ gb207)); have n6_ := Am_ ((by rw [hg]; exact Nat.ne_of_gt (blk_lt (g := gb206) (o := .cells #[.int .i64 a0_0, .int .i64 a0_1, .int .i64 a0_2, .int .i64 a0_3, .int .i64 a0_4, .int .i64 a0_5, .string a0_6, .slice A0_7 l0_7.length c0_7] 59 (0, 0)) (Pk_ BK206.out)) : gb207 ≠ gb206)); clear BK206; clear HB; have BK206 := n0_; have HB := n1_; have BK207 := n2_; have GW207 := n3_; have GE207 := n4_; have NB206_207 := n5_; have NB207_206 := n6_; clear n0_ n1_ n2_ n3_ n4_ n5_ n6_; clear hb hbox hg; have hnb4 := NB206_207.out; have hnc4 := NB207_206.out; obtain ⟨hcz5_0, hcz5_1, hcz5_2, hcz5_3, hcz5_4, hcz5_5, hcz5_6, hcz5_7, hfz5_0, hfz5_1, hfz5_2, hfz5_3, hfz5_4, hfz5_5, hfz5_6, hfz5_7⟩ := Ce8_ BK206.out) | ((with_reducible refine gate_dst (N := 3) rfl ?_); refine box_event ?hg (N := 3) ?hd (cs := #[.int .i64 0, .int .i64 0, .int .i64 0, .int .i64 0, .int .i64 0, .int .i64 0, .string (⟨#[]⟩ : ByteArray), .slice none 0 0]) (t := 53) ?hr ?_; (case hd => rfl); (case hg => rfl); (case hr => go_simp; try rfl); intro gb208 hg w6 hbox hb; have n0_ := Am_ (Bb_ (g := gb206) (o := .cells #[.int .i64 a0_0, .int .i64 a0_1, .int .i64 a0_2, .int .i64 a0_3, .int .i64 a0_4, .int .i64 a0_5, .string a0_6, .slice A0_7 l0_7.length c0_7] 59 (0, 0)) (Pk_ BK206.out) hb); have n1_ := Am_ (Bb_ (g := gb207) (o := .cells #[.int .i64 0, .int .i64 0, .int .i64 0, .int .i64 0, .int .i64 0, .int .i64 0, .string (⟨#[]⟩ : ByteArray), .slice none 0 0] 53 (0, 0)) (Pk_ BK207.out) hb); have n2_ := Am_ (Be_ (Pb2_ HB.out GE206.out GE207.out) hb); have n3_ := Am_ (hbox); have n4_ := Am_ ((by rw [hg]; exact (Bz_ (Pb2_ HB.out GE206.out GE207.out)) : w.heap.size ≤ gb208)); have n5_ := Am_ ((by rw [hg]; exact (Bz_ (Pb2_ HB.out GE206.out GE207.out)) : w.heap.size ≤ gb208)); have n6_ := Am_ ((by rw [hg]; exact Nat.ne_of_lt (blk_lt (g := gb206) (o := .cells #[.int .i64 a0_0, .int .i64 a0_1, .int .i64 a0_2, .int .i64 a0_3, .int .i64 a0_4, .int .i64 a0_5, .string a0_6, .slice A0_7 l0_7.length c0_7] 59 (0, 0)) (Pk_ BK206.out)) : gb206 ≠ gb208)); have n7_ := Am_ ((by rw [hg]; exact Nat.ne_of_gt (blk_lt (g := gb206) (o := .cells #[.int .i64 a0_0, .int .i64 a0_1, .int .i64 a0_2, .int .i64 a0_3, .int .i64 a0_4, .int .i64 a0_5, .string a0_6, .slice A0_7 l0_7.length c0_7] 59 (0, 0)) (Pk_ BK206.out)) : gb208 ≠ gb206)); have n8_ := Am_ ((by rw [hg]; exact Nat.ne_of_lt (blk_lt (g := gb207) (o := .cells #[.int .i64 0, .int .i64 0, .int .i64 0, .int .i64 0, .int .i64 0, .int .i64 0, .string (⟨#[]⟩ : ByteArray), .slice none 0 0] 53 (0, 0)) (Pk_ BK207.out)) : gb207 ≠ gb208)); have n9_ := Am_ ((by rw [hg]; exact Nat.ne_of_gt (blk_lt (g := gb207) (o := .cells #[.int .i64 0, .int .i64 0, .int .i64 0, .int .i64 0, .int .i64 0, .int .i64 0, .string (⟨#[]⟩ : ByteArray), .slice none 0 0] 53 (0, 0)) (Pk_ BK207.out)) : gb208 ≠ gb207)); clear BK206; clear BK207; clear HB; have BK206 := n0_; have BK207 := n1_; have HB := n2_; have BK208 := n3_; have GW208 := n4_; have GE208 := n5_; have NB206_208 := n6_; have NB208_206 := n7_; have NB207_208 := n8_; have NB208_207 := n9_; clear n0_ n1_ n2_ n3_ n4_ n5_ n6_ n7_ n8_ n9_; clear hb hbox hg; have hnb7 := NB208_206.out; have hnc7 := NB206_208.out; have hnb8 := NB208_207.out; have hnc8 := NB207_208.out; obtain ⟨hcz9_0, hcz9_1, hcz9_2, hcz9_3, hcz9_4, hcz9_5, hcz9_6, hcz9_7, hfz9_0, hfz9_1, hfz9_2, hfz9_3, hfz9_4, hfz9_5, hfz9_6, hfz9_7⟩ := Ce8_ BK208.out))
 go_loopg [4] k (fun kq v4 w' => ∃ (x4_1 : Int) (x209007_1 : List (S75)) (u209007 : Value), v4 = .int .i64 x4_1 ∧ Aside0 (flagstonelaw09_node.l0 kq x4_1 a0_0 a0_1 a0_2 a0_3 a0_4 a0_5 a0_6 l0_7 a0_0 a0_1 a0_2 a0_3 a0_4 a0_5 a0_6 x209007_1 = some (r1, r2, r3, r4, r5, r6, r7, r8)) ∧ Aside0 (kq ≤ k) ∧ Aside0 (Kd.R k75 75 w' w.heap.size (fun _ => True) u209007 x209007_1) ∧ Aside0 (w'.heap[gb206]? = some (.cells #[.int .i64 a0_0, .int .i64 a0_1, .int .i64 a0_2, .int .i64 a0_3, .int .i64 a0_4, .int .i64 a0_5, .string a0_6, (.slice A0_7 l0_7.length c0_7)] 59 (0, 0))) ∧ Aside0 (w'.heap[gb207]? = some (.cells #[.int .i64 0, .int .i64 0, .int .i64 0, .int .i64 0, .int .i64 0, .int .i64 0, .string (⟨#[]⟩ : ByteArray), (.slice none 0 0)] 53 (0, 0))) ∧ Aside0 (w'.heap[gb208]? = some (.cells #[.int .i64 a0_0, .int .i64 a0_1, .int .i64 a0_2, .int .i64 a0_3, .int .i64 a0_4, .int .i64 a0_5, .string a0_6, u209007] 53 (0, 0))) ∧ Aside0 (Below w.heap.size w w'))
 case atStart => exact ⟨(0), (([] : List (S75))), (.slice none 0 0), (by first | rfl | (simp; done) | (simp [*]; done)), H', ⟨Nat.le_refl _⟩, ⟨by first | exact Kd.R_nil _ _ _ _ _ | exact Kd.N_nil _ _ _ _ _ | exact Kd.V_nil _ _ _ _ _ | exact Kd.Q_nil _ _ _ _ _ | exact Kd.S_nil _ _ _ _ _⟩, ⟨by (with_reducible repeat (first | refine Bn_ ?_ _ | refine Bd_ ?_ | refine Ba_ ?_ _)); refine blk_far ?_ NB206_208.out _; (with_reducible repeat (first | refine Bn_ ?_ _ | refine Bd_ ?_ | refine Ba_ ?_ _)); refine blk_far ?_ NB206_208.out _; (with_reducible repeat (first | refine Bn_ ?_ _ | refine Bd_ ?_ | refine Ba_ ?_ _)); refine blk_far ?_ NB206_208.out _; (with_reducible repeat (first | refine Bn_ ?_ _ | refine Bd_ ?_ | refine Ba_ ?_ _)); refine blk_far ?_ NB206_208.out _; (with_reducible repeat (first | refine Bn_ ?_ _ | refine Bd_ ?_ | refine Ba_ ?_ _)); refine blk_far ?_ NB206_208.out _; (with_reducible repeat (first | refine Bn_ ?_ _ | refine Bd_ ?_ | refine Ba_ ?_ _)); refine blk_far ?_ NB206_208.out _; (with_reducible repeat (first | refine Bn_ ?_ _ | refine Bd_ ?_ | refine Ba_ ?_ _)); refine blk_far ?_ NB206_208.out _; (with_reducible repeat (first | refine Bn_ ?_ _ | refine Bd_ ?_ | refine Ba_ ?_ _)); refine blk_far ?_ NB206_208.out _; (with_reducible repeat (first | refine Bn_ ?_ _ | refine Bd_ ?_ | refine Ba_ ?_ _)); exact BK206.out⟩, ⟨by (with_reducible repeat (first | refine Bn_ ?_ _ | refine Bd_ ?_ | refine Ba_ ?_ _)); refine blk_far ?_ NB207_208.out _; (with_reducible repeat (first | refine Bn_ ?_ _ | refine Bd_ ?_ | refine Ba_ ?_ _)); refine blk_far ?_ NB207_208.out _; (with_reducible repeat (first | refine Bn_ ?_ _ | refine Bd_ ?_ | refine Ba_ ?_ _)); refine blk_far ?_ NB207_208.out _; (with_reducible repeat (first | refine Bn_ ?_ _ | refine Bd_ ?_ | refine Ba_ ?_ _)); refine blk_far ?_ NB207_208.out _; (with_reducible repeat (first | refine Bn_ ?_ _ | refine Bd_ ?_ | refine Ba_ ?_ _)); refine blk_far ?_ NB207_208.out _; (with_reducible repeat (first | refine Bn_ ?_ _ | refine Bd_ ?_ | refine Ba_ ?_ _)); refine blk_far ?_ NB207_208.out _; (with_reducible repeat (first | refine Bn_ ?_ _ | refine Bd_ ?_ | refine Ba_ ?_ _)); refine blk_far ?_ NB207_208.out _; (with_reducible repeat (first | refine Bn_ ?_ _ | refine Bd_ ?_ | refine Ba_ ?_ _)); refine blk_far ?_ NB207_208.out _; (with_reducible repeat (first | refine Bn_ ?_ _ | refine Bd_ ?_ | refine Ba_ ?_ _)); exact BK207.out⟩, ⟨by (with_reducible repeat (first | refine Bn_ ?_ _ | refine Bd_ ?_ | refine Ba_ ?_ _)); refine Bp_ (cs := #[.int .i64 a0_0, .int .i64 a0_1, .int .i64 a0_2, .int .i64 a0_3, .int .i64 a0_4, .int .i64 a0_5, .string a0_6, .slice none 0 0]) ?_ 7 _ rfl; (with_reducible repeat (first | refine Bn_ ?_ _ | refine Bd_ ?_ | refine Ba_ ?_ _)); refine Bp_ (cs := #[.int .i64 a0_0, .int .i64 a0_1, .int .i64 a0_2, .int .i64 a0_3, .int .i64 a0_4, .int .i64 a0_5, .string (⟨#[]⟩ : ByteArray), .slice none 0 0]) ?_ 6 _ rfl; (with_reducible repeat (first | refine Bn_ ?_ _ | refine Bd_ ?_ | refine Ba_ ?_ _)); refine Bp_ (cs := #[.int .i64 a0_0, .int .i64 a0_1, .int .i64 a0_2, .int .i64 a0_3, .int .i64 a0_4, .int .i64 0, .string (⟨#[]⟩ : ByteArray), .slice none 0 0]) ?_ 5 _ rfl; (with_reducible repeat (first | refine Bn_ ?_ _ | refine Bd_ ?_ | refine Ba_ ?_ _)); refine Bp_ (cs := #[.int .i64 a0_0, .int .i64 a0_1, .int .i64 a0_2, .int .i64 a0_3, .int .i64 0, .int .i64 0, .string (⟨#[]⟩ : ByteArray), .slice none 0 0]) ?_ 4 _ rfl; (with_reducible repeat (first | refine Bn_ ?_ _ | refine Bd_ ?_ | refine Ba_ ?_ _)); refine Bp_ (cs := #[.int .i64 a0_0, .int .i64 a0_1, .int .i64 a0_2, .int .i64 0, .int .i64 0, .int .i64 0, .string (⟨#[]⟩ : ByteArray), .slice none 0 0]) ?_ 3 _ rfl; (with_reducible repeat (first | refine Bn_ ?_ _ | refine Bd_ ?_ | refine Ba_ ?_ _)); refine Bp_ (cs := #[.int .i64 a0_0, .int .i64 a0_1, .int .i64 0, .int .i64 0, .int .i64 0, .int .i64 0, .string (⟨#[]⟩ : ByteArray), .slice none 0 0]) ?_ 2 _ rfl; (with_reducible repeat (first | refine Bn_ ?_ _ | refine Bd_ ?_ | refine Ba_ ?_ _)); refine Bp_ (cs := #[.int .i64 a0_0, .int .i64 0, .int .i64 0, .int .i64 0, .int .i64 0, .int .i64 0, .string (⟨#[]⟩ : ByteArray), .slice none 0 0]) ?_ 1 _ rfl; (with_reducible repeat (first | refine Bn_ ?_ _ | refine Bd_ ?_ | refine Ba_ ?_ _)); refine Bp_ (cs := #[.int .i64 0, .int .i64 0, .int .i64 0, .int .i64 0, .int .i64 0, .int .i64 0, .string (⟨#[]⟩ : ByteArray), .slice none 0 0]) ?_ 0 _ rfl; (with_reducible repeat (first | refine Bn_ ?_ _ | refine Bd_ ?_ | refine Ba_ ?_ _)); exact BK208.out⟩, ⟨by repeat (first | (with_reducible first | exact HB.out | apply Pa_ | apply Pn_ | apply Pd_ | refine Bs_ ?_ GE206.out | refine Bs_ ?_ GE207.out | refine Bs_ ?_ GE208.out) | exact HB.out)⟩⟩
 case round =>
  clear H'
  try clear c2
  try clear p2
  try clear c4
  try clear c7
  try clear c8
  try clear hcz5_0
  try clear hcz5_1
  try clear hcz5_2
  try clear hcz5_3
  try clear hcz5_4
  try clear hcz5_5
  try clear hcz5_6
  try clear hcz5_7
  try clear hcz9_0
  try clear hcz9_1
  try clear hcz9_2
  try clear hcz9_3
  try clear hcz9_4
  try clear hcz9_5
  try clear hcz9_6
  try clear hcz9_7
  try clear hfz5_0
  try clear hfz5_1
  try clear hfz5_2
  try clear hfz5_3
  try clear hfz5_4
  try clear hfz5_5
  try clear hfz5_6
  try clear hfz5_7
  try clear hfz9_0
  try clear hfz9_1
  try clear hfz9_2
  try clear hfz9_3
  try clear hfz9_4
  try clear hfz9_5
  try clear hfz9_6
  try clear hfz9_7
  obtain ⟨x4_1, x209007_1, u209007, rfl, HA, HK1, HO_209007, BK206, BK207, BK208, HB⟩ := hrel
  cases gk with
  | zero => exact absurd HA.out (by simp [flagstonelaw09_node.l0])
  | succ k1 =>
   have H := HA.out
   clear HA
   simp only [flagstonelaw09_node.l0] at H
   by_cases c10 : x4_1 < (l0_7.length : Int)
   ·rw [if_pos c10] at H
    have c10b0 : decide (x4_1 < (l0_7.length : Int)) = true := Dt_ c10
    clear c10
    by_cases c11 : 0 ≤ x4_1
    ·rw [if_pos c11] at H
     have c11b0 : decide (0 ≤ x4_1) = true := Dt_ c11
     clear c11
     by_cases c12 : x209007_1.length < 5864062014805
     ·rw [if_pos c12] at H
      have LMc12 := Am_ c12
      clear c12
      obtain ⟨y210, hy210⟩ : ∃ y_ : List (S75), y_ = (x209007_1 ++ [(⟨(rd_T76 l0_7 x4_1).f0, (rd_T76 l0_7 x4_1).f1⟩ : S75)]) := ⟨_, rfl⟩
      replace H : (flagstonelaw09_node.l0 k1 (wrap64 (x4_1 + 1)) a0_0 a0_1 a0_2 a0_3 a0_4 a0_5 a0_6 l0_7 a0_0 a0_1 a0_2 a0_3 a0_4 a0_5 a0_6 y210) = some (r1, r2, r3, r4, r5, r6, r7, r8) := by first | (rw [hy210]; with_reducible exact H) | (have H2_ := (Option.bind_some _ _).symm.trans H; rw [hy210]; with_reducible exact H2_) | (have H2_ := (Option.bind_some _ _).symm.trans H; with_reducible exact H2_) | with_reducible exact H | (rw [hy210]; exact H) | exact H
      have Ny210 := Am_ hy210
      clear hy210
      have H' := Am_ H
      clear H
      have hnb13 := NB206_207.out
      have hnc13 := NB207_206.out
      have hnb14 := NB206_208.out
      have hnc14 := NB208_206.out
      obtain ⟨hcz15_0, hcz15_1, hcz15_2, hcz15_3, hcz15_4, hcz15_5, hcz15_6, hcz15_7, hfz15_0, hfz15_1, hfz15_2, hfz15_3, hfz15_4, hfz15_5, hfz15_6, hfz15_7⟩ := Ce8_ BK206.out
      try go_wp2
      have n0_ := Am_ (Rd_ HO_209007.out)
      have n1_ := Am_ (Bd_ BK206.out)
      have n2_ := Am_ (Bd_ BK207.out)
      have n3_ := Am_ (Bd_ BK208.out)
      have n4_ := Am_ (Pd_ HB.out)
      clear HO_209007
      clear BK206
      clear BK207
      clear BK208
      clear HB
      have HO_209007 := n0_
      have BK206 := n1_
      have BK207 := n2_
      have BK208 := n3_
      have HB := n4_
      clear n0_ n1_ n2_ n3_ n4_
      have p209 : 0 ≤ (x4_1 : Int) := Ot_ (by first | (with_reducible assumption) | assumption)
      have q209 : x4_1 < (l0_7.length : Int) := Ot_ (by first | (with_reducible assumption) | assumption)
      obtain ⟨ad209, e209, hx209_0, hx209_1⟩ := at_T76 HR0_7.out x4_1 p209 q209
      have hw209_1 := hx209_1
      have hw209_0 := hx209_0
      cases e209
      replace hx209_0 := (HB.out.cell (Bl_ w _ hx209_0)).trans hx209_0
      replace hx209_1 := (HB.out.cell (Bl_ w _ hx209_1)).trans hx209_1
      replace p209 := eq_true p209
      replace q209 := eq_true q209
      refine start_ (n := 11) (S := fun w' => w'.cell? ⟨gb208, 0, none⟩ = some (.int .i64 a0_0) ∧ w'.cell? ⟨gb208, 1, none⟩ = some (.int .i64 a0_1) ∧ w'.cell? ⟨gb208, 2, none⟩ = some (.int .i64 a0_2) ∧ w'.cell? ⟨gb208, 3, none⟩ = some (.int .i64 a0_3) ∧ w'.cell? ⟨gb208, 4, none⟩ = some (.int .i64 a0_4) ∧ w'.cell? ⟨gb208, 5, none⟩ = some (.int .i64 a0_5) ∧ w'.cell? ⟨gb208, 6, none⟩ = some (.string a0_6) ∧ w'.cell? ⟨gb208, 7, none⟩ = some (u209007) ∧ w'.cell? ⟨gb206, 0, none⟩ = some (.int .i64 a0_0) ∧ w'.cell? ⟨gb206, 1, none⟩ = some (.int .i64 a0_1) ∧ w'.cell? ⟨gb206, 2, none⟩ = some (.int .i64 a0_2) ∧ w'.cell? ⟨gb206, 3, none⟩ = some (.int .i64 a0_3) ∧ w'.cell? ⟨gb206, 4, none⟩ = some (.int .i64 a0_4) ∧ w'.cell? ⟨gb206, 5, none⟩ = some (.int .i64 a0_5) ∧ w'.cell? ⟨gb206, 6, none⟩ = some (.string a0_6) ∧ w'.cell? ⟨gb206, 7, none⟩ = some (.slice (some ad209) l0_7.length c0_7) ∧ w'.cell? (ad209.add ((x4_1).toNat * 2)) = some (.string ((rd_T76 l0_7 x4_1).f0)) ∧ w'.cell? ⟨(ad209.add ((x4_1).toNat * 2)).block, (ad209.add ((x4_1).toNat * 2)).off + 1, none⟩ = some (.int .i64 ((rd_T76 l0_7 x4_1).f1))) (ds := [10]) #[f_,f_,f_,f_,f_,f_,f_,f_,f_,f_,f_] (by kernel_rfl) rfl rfl ⟨(Bc_ BK208.out 0).trans rfl, (Bc_ BK208.out 1).trans rfl, (Bc_ BK208.out 2).trans rfl, (Bc_ BK208.out 3).trans rfl, (Bc_ BK208.out 4).trans rfl, (Bc_ BK208.out 5).trans rfl, (Bc_ BK208.out 6).trans rfl, (Bc_ BK208.out 7).trans rfl, (Bc_ BK206.out 0).trans rfl, (Bc_ BK206.out 1).trans rfl, (Bc_ BK206.out 2).trans rfl, (Bc_ BK206.out 3).trans rfl, (Bc_ BK206.out 4).trans rfl, (Bc_ BK206.out 5).trans rfl, (Bc_ BK206.out 6).trans rfl, (Bc_ BK206.out 7).trans rfl, ((HB.out.cell (Bl_ w _ hw209_0)).trans hw209_0), ((HB.out.cell (Bl_ w _ hw209_1)).trans hw209_1)⟩ (fun hHeld => ?_); refine with_tabW flagstonelaw09_node.tab5 flagstonelaw09_node.bits5 (fun HT_ HW_ => ?_)
      generalize wr.drew = w16 at HO_209007 BK206 BK207 BK208 HB hx209_0 hx209_1 hHeld ⊢
      refine pure_ (i := 0) (N := some 27) (v := ?_) (a' := ?_) #[t_,f_,f_,f_,f_,f_,f_,f_,f_,f_,f_] rfl rfl (any_of HT_.out (by kernel_rfl)) (fun _ _ _ h => h) (Or.inl ⟨by rfl, ?_⟩) ?_ ?_
      rotate_left
      ·intro w'
       go_simp
       with_reducible rfl
      rotate_left
      ·simp only [Act.put, La_, Lb_, Lc_, i64_w, i32_w]
       rfl
      refine pure_ (i := 2) (N := some 29) (v := ?_) (a' := ?_) #[t_,f_,t_,f_,f_,f_,f_,f_,f_,f_,f_] rfl rfl (any_of HT_.out (by kernel_rfl)) (fun _ _ _ h => h) (Or.inl ⟨by rfl, ?_⟩) ?_ ?_
      rotate_left
      ·intro w'
       go_simp
       with_reducible rfl
      rotate_left
      ·simp only [Act.put, La_, Lb_, Lc_, i64_w, i32_w]
       rfl
      refine pure_ (i := 4) (N := some 31) (v := ?_) (a' := ?_) #[t_,f_,t_,f_,t_,f_,f_,f_,f_,f_,f_] rfl rfl (any_of HT_.out (by kernel_rfl)) (fun _ _ _ h => h) (Or.inl ⟨by rfl, ?_⟩) ?_ ?_
      rotate_left
      ·intro w'
       go_simp
       with_reducible rfl
      rotate_left
      ·simp only [Act.put, La_, Lb_, Lc_, i64_w, i32_w]
       rfl
      refine take_ (i := 1) (N := some 28) (v := ?_) (a' := ?_) #[t_,t_,t_,f_,t_,f_,f_,f_,f_,f_,f_] rfl rfl (take_ofW HT_.out HW_.out (by kernel_rfl)) (fun _ _ _ h => h) (Or.inl ⟨by rfl, ?_⟩) hHeld ?_ ?_
      rotate_left
      ·rintro w' ⟨s0, s1, s2, s3, s4, s5, s6, s7, s8, s9, s10, s11, s12, s13, s14, s15, s16, s17⟩
       go_simp
       with_reducible rfl
      rotate_left
      ·simp only [Act.put, La_, Lb_, Lc_, i64_w, i32_w]
       rfl
      refine take_ (i := 3) (N := some 30) (v := ?_) (a' := ?_) #[t_,t_,t_,t_,t_,f_,f_,f_,f_,f_,f_] rfl rfl (take_ofW HT_.out HW_.out (by kernel_rfl)) (fun _ _ _ h => h) (Or.inl ⟨by rfl, ?_⟩) hHeld ?_ ?_
      rotate_left
      ·rintro w' ⟨s0, s1, s2, s3, s4, s5, s6, s7, s8, s9, s10, s11, s12, s13, s14, s15, s16, s17⟩
       go_simp
       with_reducible rfl
      rotate_left
      ·simp only [Act.put, La_, Lb_, Lc_, i64_w, i32_w]
       rfl
      refine pure_ (i := 5) (N := some 32) (v := ?_) (a' := ?_) #[t_,t_,t_,t_,t_,t_,f_,f_,f_,f_,f_] rfl rfl (any_of HT_.out (by kernel_rfl)) (fun _ _ _ h => h) (Or.inl ⟨by rfl, ?_⟩) ?_ ?_
      rotate_left
      ·intro w'
       go_simp
       with_reducible rfl
      rotate_left
      ·simp only [Act.put, La_, Lb_, Lc_, i64_w, i32_w]
       rfl
      refine take_ (i := 6) (N := some 33) (v := ?_) (a' := ?_) #[t_,t_,t_,t_,t_,t_,t_,f_,f_,f_,f_] rfl rfl (take_ofW HT_.out HW_.out (by kernel_rfl)) (fun _ _ _ h => h) (Or.inl ⟨by rfl, ?_⟩) hHeld ?_ ?_
      rotate_left
      ·rintro w' ⟨s0, s1, s2, s3, s4, s5, s6, s7, s8, s9, s10, s11, s12, s13, s14, s15, s16, s17⟩
       go_simp
       with_reducible rfl
      rotate_left
      ·simp only [Act.put, La_, Lb_, Lc_, i64_w, i32_w]
       rfl
      refine one_ (i := 7) (N := some 34) #[t_,t_,t_,t_,t_,t_,t_,t_,f_,f_,f_] rfl rfl (one_of HT_.out (by kernel_rfl)) (by decide) (fun K hK => ?_)
      refine value_ (w1 := ?_) (v := ?_) (by rfl) rfl ?_ ?_
      rotate_left 2
      ·go_simp
       constructor
       ·rfl
       ·rfl
      refine hK.out _ _ ⟨(Bc_ (Ba_ BK208.out _) 0).trans rfl, (Bc_ (Ba_ BK208.out _) 1).trans rfl, (Bc_ (Ba_ BK208.out _) 2).trans rfl, (Bc_ (Ba_ BK208.out _) 3).trans rfl, (Bc_ (Ba_ BK208.out _) 4).trans rfl, (Bc_ (Ba_ BK208.out _) 5).trans rfl, (Bc_ (Ba_ BK208.out _) 6).trans rfl, (Bc_ (Ba_ BK208.out _) 7).trans rfl, (Bc_ (Ba_ BK206.out _) 0).trans rfl, (Bc_ (Ba_ BK206.out _) 1).trans rfl, (Bc_ (Ba_ BK206.out _) 2).trans rfl, (Bc_ (Ba_ BK206.out _) 3).trans rfl, (Bc_ (Ba_ BK206.out _) 4).trans rfl, (Bc_ (Ba_ BK206.out _) 5).trans rfl, (Bc_ (Ba_ BK206.out _) 6).trans rfl, (Bc_ (Ba_ BK206.out _) 7).trans rfl, (World.cell?_alloc_lt _ _ _ (Bl_ _ _ (((HB.out.cell (Bl_ w _ hw209_0)).trans hw209_0)))).trans (((HB.out.cell (Bl_ w _ hw209_0)).trans hw209_0)), (World.cell?_alloc_lt _ _ _ (Bl_ _ _ (((HB.out.cell (Bl_ w _ hw209_1)).trans hw209_1)))).trans (((HB.out.cell (Bl_ w _ hw209_1)).trans hw209_1))⟩ (fun hHeld => ?_)
      clear hK K
      refine norm_ (a' := ?_) ?_ ?_
      rotate_left
      ·show Act.put _ (some 34) _ = _
       simp only [Act.put, La_, Lb_, Lc_, i64_w, i32_w]
       rfl
      refine one_ (i := 8) (N := some 35) #[t_,t_,t_,t_,t_,t_,t_,t_,t_,f_,f_] rfl rfl (one_of HT_.out (by kernel_rfl)) (by decide) (fun K hK => ?_)
      refine Kd.R_append_step k75 (w0 := w) w.heap.size (by rfl) (.tmp 28) (.tmp 34) 51 75 (.agg #[(.string ⟨#[]⟩), (.int .i64 0)]) 24 rfl Try.underlying51 info75 rfl (by decide) (by omega) u209007 x209007_1 (⟨(rd_T76 l0_7 x4_1).f0, (rd_T76 l0_7 x4_1).f1⟩ : S75) [.string ((rd_T76 l0_7 x4_1).f0), .int .i64 ((rd_T76 l0_7 x4_1).f1)] (fun _ => True) (fun _ => False) rfl rfl ?aP (fun _ hk => hk.elim) ?aF ?aO ?aB ?aS ?aL ?_
      (case aP => exact k75_mkM _ _ _ (⟨(rd_T76 l0_7 x4_1).f0, (rd_T76 l0_7 x4_1).f1⟩ : S75))
      (case aB => exact (Pb3_ HB.out GE206.out GE207.out GE208.out))
      (case aF => exact (fun _ _ => trivial))
      (case aO => exact (Px_ HO_209007.out))
      (case aS => exact (Bz_ (Pb3_ HB.out GE206.out GE207.out GE208.out)))
      (case aL => have := LMc12.out; omega)
      intro v211 w17 ho hb hg hat
      rw [← Ny210.out] at ho
      have n0_ := Am_ (Bg_ (g := gb206) (o := .cells #[.int .i64 a0_0, .int .i64 a0_1, .int .i64 a0_2, .int .i64 a0_3, .int .i64 a0_4, .int .i64 a0_5, .string a0_6, .slice (some ad209) l0_7.length c0_7] 59 (0, 0)) (Pk_ BK206.out) hg (Kd.R_ne HO_209007.out BK206.out (by decide)))
      have n1_ := Am_ (Bg_ (g := gb207) (o := .cells #[.int .i64 0, .int .i64 0, .int .i64 0, .int .i64 0, .int .i64 0, .int .i64 0, .string (⟨#[]⟩ : ByteArray), .slice none 0 0] 53 (0, 0)) (Pk_ BK207.out) hg (Kd.R_ne HO_209007.out BK207.out (by decide)))
      have n2_ := Am_ (Bg_ (g := gb208) (o := .cells #[.int .i64 a0_0, .int .i64 a0_1, .int .i64 a0_2, .int .i64 a0_3, .int .i64 a0_4, .int .i64 a0_5, .string a0_6, u209007] 53 (0, 0)) (Pk_ BK208.out) hg (Kd.R_ne HO_209007.out BK208.out (by decide)))
      have n3_ := Am_ (hb)
      have n4_ := Am_ (ho)
      clear BK206
      clear BK207
      clear BK208
      clear HB
      clear HO_209007
      have BK206 := n0_
      have BK207 := n1_
      have BK208 := n2_
      have HB := n3_
      have HO212 := n4_
      clear n0_ n1_ n2_ n3_ n4_
      clear ho hb hg hat
      obtain ⟨Ao18, co18, eo18⟩ := Kd.R_slice HO212.out
      (first | subst eo18 | (injection eo18 with f1_ f2_ f3_; have f4_ := f1_.symm; have f5_ := f3_.symm; clear f1_ f2_ f3_; subst f4_; subst f5_))
      refine hK.out _ _ ⟨(Bc_ BK208.out 0).trans rfl, (Bc_ BK208.out 1).trans rfl, (Bc_ BK208.out 2).trans rfl, (Bc_ BK208.out 3).trans rfl, (Bc_ BK208.out 4).trans rfl, (Bc_ BK208.out 5).trans rfl, (Bc_ BK208.out 6).trans rfl, (Bc_ BK208.out 7).trans rfl, (Bc_ BK206.out 0).trans rfl, (Bc_ BK206.out 1).trans rfl, (Bc_ BK206.out 2).trans rfl, (Bc_ BK206.out 3).trans rfl, (Bc_ BK206.out 4).trans rfl, (Bc_ BK206.out 5).trans rfl, (Bc_ BK206.out 6).trans rfl, (Bc_ BK206.out 7).trans rfl, ((HB.out.cell (Bl_ w _ hw209_0)).trans hw209_0), ((HB.out.cell (Bl_ w _ hw209_1)).trans hw209_1)⟩ (fun hHeld => ?_)
      clear hK K
      refine norm_ (a' := ?_) ?_ ?_
      rotate_left
      ·show Act.put _ (some 35) _ = _
       simp only [Act.put, La_, Lb_, Lc_, i64_w, i32_w]
       rfl
      refine pure_ (i := 9) (N := some 36) (v := ?_) (a' := ?_) #[t_,t_,t_,t_,t_,t_,t_,t_,t_,t_,f_] rfl rfl (any_of HT_.out (by kernel_rfl)) (fun _ _ _ h => h) (Or.inl ⟨by rfl, ?_⟩) ?_ ?_
      rotate_left
      ·intro w'
       go_simp
       with_reducible rfl
      rotate_left
      ·simp only [Act.put, La_, Lb_, Lc_, i64_w, i32_w]
       rfl
      refine last_ (i := 10) (N := none) #[t_,t_,t_,t_,t_,t_,t_,t_,t_,t_,t_] rfl rfl (one_of HT_.out (by kernel_rfl)) (by decide) (fun K hK => ?_)
      have hs19 : w17.cell? ⟨gb208, 7, none⟩ = some (u209007) := (Bc_ BK208.out 7).trans rfl
      have hfs19 := Bf_ BK208.out 7
      have hns19_0 := NB206_208.out
      have hns19_1 := NB207_208.out
      have hms19_0 := NB208_206.out
      have hms19_1 := NB208_207.out
      refine skip_ (w1 := ?_) (by rfl) rfl ?_ ?_
      rotate_left
      ·go_simp
       rfl
      refine hK.out _ _ ?_
      clear hK K
      refine done_ (done_of HT_.out (by kernel_rfl)) ?_
      try go_wp2
      go_roundg k1
      case measure => have := HK1.out; omega
      case rel => exact ⟨(wrap64 (x4_1 + 1)), (y210), (.slice Ao18 y210.length co18), (by first | rfl | (simp; done) | (simp [*]; done)), H', ⟨by have := HK1.out; omega⟩, ⟨by (with_reducible repeat (first | apply Ra_ | apply Rn_ | apply Rd_)); exact Kd.R_mono (Kd.R_far (p := ⟨gb208, 7, none⟩) (Kd.R_types HO212.out BK208.out (by decide)) (fun _ hk => hk.2) (.slice Ao18 y210.length co18)) (fun _ hk => trivial)⟩, ⟨by (with_reducible repeat (first | refine Bn_ ?_ _ | refine Bd_ ?_ | refine Ba_ ?_ _)); refine blk_far ?_ NB206_208.out _; (with_reducible repeat (first | refine Bn_ ?_ _ | refine Bd_ ?_ | refine Ba_ ?_ _)); exact BK206.out⟩, ⟨by (with_reducible repeat (first | refine Bn_ ?_ _ | refine Bd_ ?_ | refine Ba_ ?_ _)); refine blk_far ?_ NB207_208.out _; (with_reducible repeat (first | refine Bn_ ?_ _ | refine Bd_ ?_ | refine Ba_ ?_ _)); exact BK207.out⟩, ⟨by (with_reducible repeat (first | refine Bn_ ?_ _ | refine Bd_ ?_ | refine Ba_ ?_ _)); refine Bp_ (cs := #[.int .i64 a0_0, .int .i64 a0_1, .int .i64 a0_2, .int .i64 a0_3, .int .i64 a0_4, .int .i64 a0_5, .string a0_6, u209007]) ?_ 7 _ rfl; (with_reducible repeat (first | refine Bn_ ?_ _ | refine Bd_ ?_ | refine Ba_ ?_ _)); exact BK208.out⟩, ⟨by repeat (first | (with_reducible first | exact HB.out | apply Pa_ | apply Pn_ | apply Pd_ | refine Bs_ ?_ GE206.out | refine Bs_ ?_ GE207.out | refine Bs_ ?_ GE208.out) | exact HB.out)⟩⟩
     ·rw [if_neg c12] at H
      exact absurd H (by simp)
    ·rw [if_neg c11] at H
     exact absurd H (by simp)
   ·rw [if_neg c10] at H
    have c10b0 : decide (x4_1 < (l0_7.length : Int)) = false := Df_ c10
    clear c10
    simp only [Option.some.injEq, Prod.mk.injEq] at H
    obtain ⟨rfl, rfl, rfl, rfl, rfl, rfl, rfl, rfl⟩ := H
    have hnb20 := NB206_207.out
    have hnc20 := NB207_206.out
    have hnb21 := NB206_208.out
    have hnc21 := NB208_206.out
    obtain ⟨hcz22_0, hcz22_1, hcz22_2, hcz22_3, hcz22_4, hcz22_5, hcz22_6, hcz22_7, hfz22_0, hfz22_1, hfz22_2, hfz22_3, hfz22_4, hfz22_5, hfz22_6, hfz22_7⟩ := Ce8_ BK206.out
    have hnb23 := NB208_207.out
    have hnc23 := NB207_208.out
    obtain ⟨hcz24_0, hcz24_1, hcz24_2, hcz24_3, hcz24_4, hcz24_5, hcz24_6, hcz24_7, hfz24_0, hfz24_1, hfz24_2, hfz24_3, hfz24_4, hfz24_5, hfz24_6, hfz24_7⟩ := Ce8_ BK208.out
    obtain ⟨hcz25_0, hcz25_1, hcz25_2, hcz25_3, hcz25_4, hcz25_5, hcz25_6, hcz25_7, hfz25_0, hfz25_1, hfz25_2, hfz25_3, hfz25_4, hfz25_5, hfz25_6, hfz25_7⟩ := Ce8_ BK207.out
    obtain ⟨Ao26, co26, eo26⟩ := Kd.R_slice HO_209007.out
    subst eo26
    go_wp2
    refine bodyPost_ret (results_cell_row rfl _ _ gb207 53 #[.int .i64 a0_0, .int .i64 a0_1, .int .i64 a0_2, .int .i64 a0_3, .int .i64 a0_4, .int .i64 a0_5, .string a0_6, .slice Ao26 x209007_1.length co26] (0, 0) _ rfl (by (with_reducible repeat (first | refine Bn_ ?_ _ | refine Bd_ ?_ | refine Ba_ ?_ _)); refine Bp_ (cs := #[.int .i64 a0_0, .int .i64 a0_1, .int .i64 a0_2, .int .i64 a0_3, .int .i64 a0_4, .int .i64 a0_5, .string a0_6, .slice none 0 0]) ?_ 7 _ rfl; (with_reducible repeat (first | refine Bn_ ?_ _ | refine Bd_ ?_ | refine Ba_ ?_ _)); refine Bp_ (cs := #[.int .i64 a0_0, .int .i64 a0_1, .int .i64 a0_2, .int .i64 a0_3, .int .i64 a0_4, .int .i64 a0_5, .string (⟨#[]⟩ : ByteArray), .slice none 0 0]) ?_ 6 _ rfl; (with_reducible repeat (first | refine Bn_ ?_ _ | refine Bd_ ?_ | refine Ba_ ?_ _)); refine Bp_ (cs := #[.int .i64 a0_0, .int .i64 a0_1, .int .i64 a0_2, .int .i64 a0_3, .int .i64 a0_4, .int .i64 0, .string (⟨#[]⟩ : ByteArray), .slice none 0 0]) ?_ 5 _ rfl; (with_reducible repeat (first | refine Bn_ ?_ _ | refine Bd_ ?_ | refine Ba_ ?_ _)); refine Bp_ (cs := #[.int .i64 a0_0, .int .i64 a0_1, .int .i64 a0_2, .int .i64 a0_3, .int .i64 0, .int .i64 0, .string (⟨#[]⟩ : ByteArray), .slice none 0 0]) ?_ 4 _ rfl; (with_reducible repeat (first | refine Bn_ ?_ _ | refine Bd_ ?_ | refine Ba_ ?_ _)); refine Bp_ (cs := #[.int .i64 a0_0, .int .i64 a0_1, .int .i64 a0_2, .int .i64 0, .int .i64 0, .int .i64 0, .string (⟨#[]⟩ : ByteArray), .slice none 0 0]) ?_ 3 _ rfl; (with_reducible repeat (first | refine Bn_ ?_ _ | refine Bd_ ?_ | refine Ba_ ?_ _)); refine Bp_ (cs := #[.int .i64 a0_0, .int .i64 a0_1, .int .i64 0, .int .i64 0, .int .i64 0, .int .i64 0, .string (⟨#[]⟩ : ByteArray), .slice none 0 0]) ?_ 2 _ rfl; (with_reducible repeat (first | refine Bn_ ?_ _ | refine Bd_ ?_ | refine Ba_ ?_ _)); refine Bp_ (cs := #[.int .i64 a0_0, .int .i64 0, .int .i64 0, .int .i64 0, .int .i64 0, .int .i64 0, .string (⟨#[]⟩ : ByteArray), .slice none 0 0]) ?_ 1 _ rfl; (with_reducible repeat (first | refine Bn_ ?_ _ | refine Bd_ ?_ | refine Ba_ ?_ _)); refine Bp_ (cs := #[.int .i64 0, .int .i64 0, .int .i64 0, .int .i64 0, .int .i64 0, .int .i64 0, .string (⟨#[]⟩ : ByteArray), .slice none 0 0]) ?_ 0 _ rfl; (with_reducible repeat (first | refine Bn_ ?_ _ | refine Bd_ ?_ | refine Ba_ ?_ _)); exact BK207.out) Try.underlying53 rfl (by kernel_rfl)) rfl ?_
    exact ⟨_, by first | rfl | (simp [errW_none, errW_some] <;> rfl) | (simp [*, errW_none, errW_some] <;> rfl), by (with_reducible repeat (first | apply Ra_ | apply Rn_ | apply Rd_)); exact Kd.R_mono (Kd.R_far (p := ⟨gb207, 7, none⟩) (Kd.R_far (p := ⟨gb207, 6, none⟩) (Kd.R_far (p := ⟨gb207, 5, none⟩) (Kd.R_far (p := ⟨gb207, 4, none⟩) (Kd.R_far (p := ⟨gb207, 3, none⟩) (Kd.R_far (p := ⟨gb207, 2, none⟩) (Kd.R_far (p := ⟨gb207, 1, none⟩) (Kd.R_far (p := ⟨gb207, 0, none⟩) (Kd.R_types HO_209007.out BK207.out (by decide)) (fun _ hk => hk.2) (.int .i64 a0_0)) (fun _ hk => hk.2) (.int .i64 a0_1)) (fun _ hk => hk.2) (.int .i64 a0_2)) (fun _ hk => hk.2) (.int .i64 a0_3)) (fun _ hk => hk.2) (.int .i64 a0_4)) (fun _ hk => hk.2) (.int .i64 a0_5)) (fun _ hk => hk.2) (.string a0_6)) (fun _ hk => hk.2) (.slice Ao26 x209007_1.length co26)) (fun _ hk => trivial), by repeat (first | (with_reducible first | exact HB.out | apply Pa_ | apply Pn_ | apply Pd_ | refine Bs_ ?_ GE206.out | refine Bs_ ?_ GE207.out | refine Bs_ ?_ GE208.out) | exact HB.out)⟩

end Go.Proofs.Ytpeelfambaedkaa.P
