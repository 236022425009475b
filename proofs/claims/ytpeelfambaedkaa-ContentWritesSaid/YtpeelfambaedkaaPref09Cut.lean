-- Printed by a program of this session (inject.py) over the kit's print, with functions that were proved by hand in their places.
import Derived.Test.YtpeelfambaedkaaPK
import Derived.Test.YtpeelfambaedkaaPref09file
import Derived.Test.YtpeelfambaedkaaPref09noughts
import Derived.Test.YtpeelfambaedkaaPref09kept
namespace Go.Proofs.Ytpeelfambaedkaa.P
open Go.RowKit Go.Proofs.YtpeelfambaedkaaW.PrintWords Go.Proofs.YtpeelfambaedkaaW.PrintLast Go.Proofs.YtpeelfambaedkaaW.PrintMore
attribute [local go_sem] max2_int min2_int max_two min_two max_three min_three max_four min_four   -- for this text's walks alone
set_option linter.unusedVariables false
set_option linter.unusedSimpArgs false

/-! ### flagstoneref09_Cut: function 19 -/
def flagstoneref09_Cut.f (k : Nat) (l0_0 : List (S53)) (a0_1 : Int) (a0_2 : Int) (a1 : Int) (a2 : Int) : Option ((List (S53)) × Int × Int × Int) := (flagstoneref09_file.f l0_0 a0_1 a0_2 a1).bind fun bt393 => (if bt393.2.2.2.2.2.2.2.2 = 0 then (if a2 < 0 then (some (l0_0, a0_1, a0_2, 1)) else (if a2 ≤ (bt393.2.2.2.2.2.2.1.size : Int) then (if 0 ≤ a2 then ((flagstoneref09_kept.f k l0_0 a0_1 a0_2 a1 bt393.1 bt393.2.1 bt393.2.2.1 bt393.2.2.2.1 bt393.2.2.2.2.1 bt393.2.2.2.2.2.1 bt393.2.2.2.2.2.2.1 bt393.2.2.2.2.2.2.2.1 (bt393.2.2.2.2.2.2.1.extract 0 (a2 : Int).toNat)).bind fun bt405 => (some (bt405.1, bt405.2.1, bt405.2.2.1, bt405.2.2.2))) else (none)) else (if a2 > 1000 then (some (l0_0, a0_1, a0_2, 10)) else ((flagstoneref09_noughts.f k (wrap64 (a2 - (bt393.2.2.2.2.2.2.1.size : Int)))).bind fun t411 => (if bt393.2.2.2.2.2.2.1.size + t411.size ≤ 9223372036854775807 then ((flagstoneref09_kept.f k l0_0 a0_1 a0_2 a1 bt393.1 bt393.2.1 bt393.2.2.1 bt393.2.2.2.1 bt393.2.2.2.2.1 bt393.2.2.2.2.2.1 bt393.2.2.2.2.2.2.1 bt393.2.2.2.2.2.2.2.1 (bt393.2.2.2.2.2.2.1 ++ t411)).bind fun bt412 => (some (bt412.1, bt412.2.1, bt412.2.2.1, bt412.2.2.2))) else (none)))))) else (some (l0_0, a0_1, a0_2, bt393.2.2.2.2.2.2.2.2)))
theorem flagstoneref09_Cut.mono : ∀ a0 a1 a2 a3 a4 k, LeO (flagstoneref09_Cut.f k a0 a1 a2 a3 a4) (flagstoneref09_Cut.f (k + 1) a0 a1 a2 a3 a4) := by
 intro a0 a1 a2 a3 a4 k
 unfold flagstoneref09_Cut.f
 repeat' first
   | (with_reducible exact flagstoneref09_kept.mono _ _ _ _ _ _ _ _ _ _ _ _ _ _)
   | (with_reducible exact flagstoneref09_noughts.mono _ _)
   | (with_reducible exact LeO.refl _)
   | (with_reducible exact LeO.none _)
   | (with_reducible refine LeO.ite ?_ ?_)
   | (with_reducible refine LeO.bind ?_ (fun _ => ?_))
   | exact flagstoneref09_kept.mono _ _ _ _ _ _ _ _ _ _ _ _ _ _
   | exact flagstoneref09_noughts.mono _ _
   | exact LeO.none _
   | refine LeO.ite ?_ ?_
   | refine LeO.bind ?_ (fun _ => ?_)
def flagstoneref09_Cut.T7 : Bool × List (List Nat × List Nat) := (true, [([], []), ([], []), ([], []), ([], []), ([3], [3]), ([], []), ([4, 5], [4, 5]), ([0, 1, 2, 6], [0, 1, 2, 6]), ([7], [7]), ([7], [7]), ([8, 7, 0, 1, 2, 3, 4, 5, 6, 7, 8, 9], [8]), ([9, 10, 0, 1, 2, 3, 4, 5, 6, 7, 8, 9, 10], [9])])
def flagstoneref09_Cut.B7 : List Nat := [0, 0, 0, 0, 8, 0, 56, 127, 255, 255, 1023, 2047]
theorem flagstoneref09_Cut.tab7 : rtab .any (opsOf Try.f19 7) = flagstoneref09_Cut.T7 := by kernel_rfl
theorem flagstoneref09_Cut.bits7 : waitsOk flagstoneref09_Cut.T7.2 flagstoneref09_Cut.B7 = true := by kernel_rfl
def flagstoneref09_Cut.T10 : Bool × List (List Nat × List Nat) := (true, [([], []), ([], []), ([], []), ([], []), ([3], [3]), ([], []), ([], []), ([6], [6]), ([7], [7]), ([5, 8], [5, 8]), ([9], [9]), ([4, 10], [4, 10]), ([0, 1, 2, 11, 10], [0, 1, 2, 11]), ([12], [12]), ([12], [12]), ([13, 12, 0, 1, 2, 3, 4, 5, 6, 7, 8, 9, 10, 11, 12, 13, 14], [13]), ([14, 15, 0, 1, 2, 3, 4, 5, 6, 7, 8, 9, 10, 11, 12, 13, 14, 15], [14])])
def flagstoneref09_Cut.B10 : List Nat := [0, 0, 0, 0, 8, 0, 0, 64, 192, 480, 992, 2040, 4095, 8191, 8191, 32767, 65535]
theorem flagstoneref09_Cut.tab10 : rtab .any (opsOf Try.f19 10) = flagstoneref09_Cut.T10 := by kernel_rfl
theorem flagstoneref09_Cut.bits10 : waitsOk flagstoneref09_Cut.T10.2 flagstoneref09_Cut.B10 = true := by kernel_rfl
set_option maxHeartbeats 8000000 in
set_option maxRecDepth 100000 in
theorem flagstoneref09_Cut.calls (k : Nat) (P0_0_ : Nat → Prop) (A0_0 : Option Addr) (c0_0 : Nat) (l0_0 : List (S53)) (a0_1 : Int) (a0_2 : Int) (a1 : Int) (a2 : Int) (r1 : List (S53)) (r2 : Int) (r3 : Int) (r4 : Int) (w : World) (hs0_0 : Kd.V k53 53 w w.heap.size (fun k_ => P0_0_ k_) (.slice A0_0 l0_0.length c0_0) l0_0) (h : flagstoneref09_Cut.f k l0_0 a0_1 a0_2 a1 a2 = some (r1, r2, r3, r4)) :
  Calls Try.prog 19 #[.agg #[.slice A0_0 l0_0.length c0_0, .int .i64 a0_1, .int .i64 a0_2], .int .i64 a1, .int .i64 a2] w fun e w' => ∃ v0_ : Value, e = .returned (.tuple #[.agg #[v0_, .int .i64 r2, .int .i64 r3], .int .i64 r4]) ∧ Kd.V k53 53 w' w.heap.size (fun k_ => (P0_0_ k_ ∨ w.heap.size ≤ k_)) v0_ r1 ∧ Below w.heap.size w w' := by
 have hu33 := Try.underlying33
 have hu53 := Try.underlying53
 have HO0_0 := Am_ (show Kd.V k53 53 w w.heap.size (fun k_ => (P0_0_ k_ ∨ w.heap.size ≤ k_)) (.slice A0_0 l0_0.length c0_0) l0_0 from Vm_ hs0_0 (fun k_ hk => .inl hk))
 have HB := Am_ (Below.refl w.heap.size w)
 have H : ((flagstoneref09_file.f l0_0 a0_1 a0_2 a1).bind fun bt393 => (if bt393.2.2.2.2.2.2.2.2 = 0 then (if a2 < 0 then (some (l0_0, a0_1, a0_2, 1)) else (if a2 ≤ (bt393.2.2.2.2.2.2.1.size : Int) then (if 0 ≤ a2 then ((flagstoneref09_kept.f k l0_0 a0_1 a0_2 a1 bt393.1 bt393.2.1 bt393.2.2.1 bt393.2.2.2.1 bt393.2.2.2.2.1 bt393.2.2.2.2.2.1 bt393.2.2.2.2.2.2.1 bt393.2.2.2.2.2.2.2.1 (bt393.2.2.2.2.2.2.1.extract 0 (a2 : Int).toNat)).bind fun bt405 => (some (bt405.1, bt405.2.1, bt405.2.2.1, bt405.2.2.2))) else (none)) else (if a2 > 1000 then (some (l0_0, a0_1, a0_2, 10)) else ((flagstoneref09_noughts.f k (wrap64 (a2 - (bt393.2.2.2.2.2.2.1.size : Int)))).bind fun t411 => (if bt393.2.2.2.2.2.2.1.size + t411.size ≤ 9223372036854775807 then ((flagstoneref09_kept.f k l0_0 a0_1 a0_2 a1 bt393.1 bt393.2.1 bt393.2.2.1 bt393.2.2.2.1 bt393.2.2.2.2.1 bt393.2.2.2.2.2.1 bt393.2.2.2.2.2.2.1 bt393.2.2.2.2.2.2.2.1 (bt393.2.2.2.2.2.2.1 ++ t411)).bind fun bt412 => (some (bt412.1, bt412.2.1, bt412.2.2.1, bt412.2.2.2))) else (none)))))) else (some (l0_0, a0_1, a0_2, bt393.2.2.2.2.2.2.2.2)))) = some (r1, r2, r3, r4) := h
 clear h
 replace H := Option.bind_eq_some_iff.mp H
 obtain ⟨⟨t393, t394, t395, t396, t397, t398, t399, t400, t403⟩, A40, H⟩ := H
 replace H : (if t403 = 0 then (if a2 < 0 then (some (l0_0, a0_1, a0_2, 1)) else (if a2 ≤ (t399.size : Int) then (if 0 ≤ a2 then ((flagstoneref09_kept.f k l0_0 a0_1 a0_2 a1 t393 t394 t395 t396 t397 t398 t399 t400 (t399.extract 0 (a2 : Int).toNat)).bind fun bt405 => (some (bt405.1, bt405.2.1, bt405.2.2.1, bt405.2.2.2))) else (none)) else (if a2 > 1000 then (some (l0_0, a0_1, a0_2, 10)) else ((flagstoneref09_noughts.f k (wrap64 (a2 - (t399.size : Int)))).bind fun t411 => (if t399.size + t411.size ≤ 9223372036854775807 then ((flagstoneref09_kept.f k l0_0 a0_1 a0_2 a1 t393 t394 t395 t396 t397 t398 t399 t400 (t399 ++ t411)).bind fun bt412 => (some (bt412.1, bt412.2.1, bt412.2.2.1, bt412.2.2.2))) else (none)))))) else (some (l0_0, a0_1, a0_2, t403))) = some (r1, r2, r3, r4) := H
 have A4 := Am_ A40
 clear A40
 by_cases c5 : t403 = 0
 ·rw [if_pos c5] at H
  have c5b0 : (t403 == 0) = true := beq_iff_eq.mpr c5
  have c5b1 : (t403 != 0) = false := bne_eq_false_iff_eq.mpr c5
  clear c5
  by_cases c6 : a2 < 0
  ·rw [if_pos c6] at H
   have c6b0 : decide (a2 < 0) = true := Dt_ c6
   clear c6
   simp only [Option.some.injEq, Prod.mk.injEq] at H
   obtain ⟨rfl, rfl, rfl, rfl⟩ := H
   go_enter Try.func19, Try.ntmps19
   go_wp2_with (first | ((with_reducible refine gate_dst (N := 3) rfl ?_); refine box_event ?hg (N := 3) ?hd (cs := #[.slice A0_0 l0_0.length c0_0, .int .i64 a0_1, .int .i64 a0_2]) (t := 33) ?hr ?_; (case hd => rfl); (case hg => rfl); (case hr => go_simp; try rfl); intro gb391 hg w7 hbox hb; have n0_ := Am_ (Vb_ (Ke_ (Pv_ HO0_0.out) gb391 (Nat.le_of_eq hg.symm)) hb); have n1_ := Am_ (Be_ (Pb0_ HB.out) hb); have n2_ := Am_ (hbox); have n3_ := Am_ ((by rw [hg]; exact (Bz_ (Pb0_ HB.out)) : w.heap.size ≤ gb391)); have n4_ := Am_ ((by rw [hg]; exact (Bz_ (Pb0_ HB.out)) : w.heap.size ≤ gb391)); clear HO0_0; clear HB; have HO0_0 := n0_; have HB := n1_; have BK391 := n2_; have GW391 := n3_; have GE391 := n4_; clear n0_ n1_ n2_ n3_ n4_; clear hb hbox hg) | ((with_reducible refine gate_dst (N := 6) rfl ?_); refine box_event ?hg (N := 6) ?hd (cs := #[.slice none 0 0, .int .i64 0, .int .i64 0]) (t := 33) ?hr ?_; (case hd => rfl); (case hg => rfl); (case hr => go_simp; try rfl); intro gb392 hg w8 hbox hb; have n0_ := Am_ (Vb_ (Ke_ (Pv_ HO0_0.out) gb392 (Nat.le_of_eq hg.symm)) hb); have n1_ := Am_ (Bb_ (g := gb391) (o := .cells #[.slice A0_0 l0_0.length c0_0, .int .i64 a0_1, .int .i64 a0_2] 33 (0, 0)) (Pk_ BK391.out) hb); have n2_ := Am_ (Be_ (Pb1_ HB.out GE391.out) hb); have n3_ := Am_ (hbox); have n4_ := Am_ ((by rw [hg]; exact (Bz_ (Pb1_ HB.out GE391.out)) : w.heap.size ≤ gb392)); have n5_ := Am_ ((by rw [hg]; exact (Bz_ (Pb1_ HB.out GE391.out)) : w.heap.size ≤ gb392)); have n6_ := Am_ ((by rw [hg]; exact Nat.ne_of_lt (blk_lt (g := gb391) (o := .cells #[.slice A0_0 l0_0.length c0_0, .int .i64 a0_1, .int .i64 a0_2] 33 (0, 0)) (Pk_ BK391.out)) : gb391 ≠ gb392)); have n7_ := Am_ ((by rw [hg]; exact Nat.ne_of_gt (blk_lt (g := gb391) (o := .cells #[.slice A0_0 l0_0.length c0_0, .int .i64 a0_1, .int .i64 a0_2] 33 (0, 0)) (Pk_ BK391.out)) : gb392 ≠ gb391)); clear HO0_0; clear BK391; clear HB; have HO0_0 := n0_; have BK391 := n1_; have HB := n2_; have BK392 := n3_; have GW392 := n4_; have GE392 := n5_; have NB391_392 := n6_; have NB392_391 := n7_; clear n0_ n1_ n2_ n3_ n4_ n5_ n6_ n7_; clear hb hbox hg; have hnb9 := NB391_392.out; have hnc9 := NB392_391.out; obtain ⟨hcz10_0, hcz10_1, hcz10_2, hfz10_0, hfz10_1, hfz10_2⟩ := Ce3_ BK391.out) | ((with_reducible refine gate_callee (f := 25) rfl ?_); refine goesL_ (some 13) rfl rfl Try.func25 (by kernel_rfl) rfl #[.agg #[.slice A0_0 l0_0.length c0_0, .int .i64 a0_1, .int .i64 a0_2], .int .i64 a1] rfl (by (try simp only [List.map_toArray, List.map_cons, List.map_nil]); first | done | rfl | (simp only [ByteArray.size_append]; rfl) | (simp only [List.length_drop, List.length_take]; rfl)) ?_; (with_reducible refine (flagstoneref09_file.calls (fun k_ => (((P0_0_ k_ ∨ w.heap.size ≤ k_) ∧ k_ ≠ gb391) ∧ k_ ≠ gb392)) _ _ l0_0 a0_1 a0_2 a1 t393 t394 t395 t396 t397 t398 t399 t400 t403 _ ?side1 A4.out).mono ?_); (case side1 => exact HO0_0.out); rintro e w11 ⟨v401, rfl, ho0, hb⟩; refine ⟨_, rfl, ?_⟩; have n0_ := Am_ (Vb_ (Pv_ HO0_0.out) hb); have n1_ := Am_ (Vl_ (Vm_ (ok' := fun k_ => (P0_0_ k_ ∨ w.heap.size ≤ k_) ∧ k_ ≠ gb391 ∧ k_ ≠ gb392) ho0 (fun k_ hk_ => ⟨Or.elim hk_ (fun hs_ => hs_.1.1) (fun hn_ => (.inr (Nat.le_trans (Bz_ (Pb2_ HB.out GE391.out GE392.out)) hn_))), Or.elim hk_ (fun hs_ => hs_.1.2) (fun hn_ => (Kd.freshB (g := gb391) (o := .cells #[.slice A0_0 l0_0.length c0_0, .int .i64 a0_1, .int .i64 a0_2] 33 (0, 0)) (Pk_ BK391.out) k_ hn_)), Or.elim hk_ (fun hs_ => hs_.2) (fun hn_ => (Kd.freshB (g := gb392) (o := .cells #[.slice none 0 0, .int .i64 0, .int .i64 0] 33 (0, 0)) (Pk_ BK392.out) k_ hn_))⟩)) (Bz_ (Pb2_ HB.out GE391.out GE392.out))); have n2_ := Am_ (Bb_ (g := gb391) (o := .cells #[.slice A0_0 l0_0.length c0_0, .int .i64 a0_1, .int .i64 a0_2] 33 (0, 0)) (Pk_ BK391.out) hb); have n3_ := Am_ (Bb_ (g := gb392) (o := .cells #[.slice none 0 0, .int .i64 0, .int .i64 0] 33 (0, 0)) (Pk_ BK392.out) hb); have n4_ := Am_ (Be_ (Pb2_ HB.out GE391.out GE392.out) hb); clear HO0_0; clear BK391; clear BK392; clear HB; have HO0_0 := n0_; have HO402 := n1_; have BK391 := n2_; have BK392 := n3_; have HB := n4_; clear n0_ n1_ n2_ n3_ n4_; (try clear hb); (try clear hb2); (try clear hk); (try clear hi); (try clear ho0)) | ((with_reducible refine gate_dst (N := 8) rfl ?_); refine box_event ?hg (N := 8) ?hd (cs := #[.int .i64 0, .int .i64 0, .int .i64 0, .int .i64 0, .int .i64 0, .int .i64 0, .string (⟨#[]⟩ : ByteArray), .slice none 0 0]) (t := 53) ?hr ?_; (case hd => rfl); (case hg => rfl); (case hr => go_simp; try rfl); intro gb404 hg w12 hbox hb; have n0_ := Am_ (Vb_ (Ke_ (Pv_ HO0_0.out) gb404 (Nat.le_of_eq hg.symm)) hb); have n1_ := Am_ (Vb_ (Ke_ (Pv_ HO402.out) gb404 (Nat.le_of_eq hg.symm)) hb); have n2_ := Am_ (Bb_ (g := gb391) (o := .cells #[.slice A0_0 l0_0.length c0_0, .int .i64 a0_1, .int .i64 a0_2] 33 (0, 0)) (Pk_ BK391.out) hb); have n3_ := Am_ (Bb_ (g := gb392) (o := .cells #[.slice none 0 0, .int .i64 0, .int .i64 0] 33 (0, 0)) (Pk_ BK392.out) hb); have n4_ := Am_ (Be_ (Pb2_ HB.out GE391.out GE392.out) hb); have n5_ := Am_ (hbox); have n6_ := Am_ ((by rw [hg]; exact (Bz_ (Pb2_ HB.out GE391.out GE392.out)) : w.heap.size ≤ gb404)); have n7_ := Am_ ((by rw [hg]; exact (Bz_ (Pb2_ HB.out GE391.out GE392.out)) : w.heap.size ≤ gb404)); have n8_ := Am_ ((by rw [hg]; exact Nat.ne_of_lt (blk_lt (g := gb391) (o := .cells #[.slice A0_0 l0_0.length c0_0, .int .i64 a0_1, .int .i64 a0_2] 33 (0, 0)) (Pk_ BK391.out)) : gb391 ≠ gb404)); have n9_ := Am_ ((by rw [hg]; exact Nat.ne_of_gt (blk_lt (g := gb391) (o := .cells #[.slice A0_0 l0_0.length c0_0, .int .i64 a0_1, .int .i64 a0_2] 33 (0, 0)) (Pk_ BK391.out)) : gb404 ≠ gb391)); have n10_ := Am_ ((by rw [hg]; exact Nat.ne_of_lt (blk_lt (g := gb392) (o := .cells #[.slice none 0 0, .int .i64 0, .int .i64 0] 33 (0, 0)) (Pk_ BK392.out)) : gb392 ≠ gb404)); have n11_ := Am_ ((by rw [hg]; exact Nat.ne_of_gt (blk_lt (g := gb392) (o := .cells #[.slice none 0 0, .int .i64 0, .int .i64 0] 33 (0, 0)) (Pk_ BK392.out)) : gb404 ≠ gb392)); clear HO0_0; clear HO402; clear BK391; clear BK392; clear HB; have HO0_0 := n0_; have HO402 := n1_; have BK391 := n2_; have BK392 := n3_; have HB := n4_; have BK404 := n5_; have GW404 := n6_; have GE404 := n7_; have NB391_404 := n8_; have NB404_391 := n9_; have NB392_404 := n10_; have NB404_392 := n11_; clear n0_ n1_ n2_ n3_ n4_ n5_ n6_ n7_ n8_ n9_ n10_ n11_; clear hb hbox hg; have hnb13 := NB404_391.out; have hnc13 := NB391_404.out; have hnb14 := NB404_392.out; have hnc14 := NB392_404.out; obtain ⟨hcz15_0, hcz15_1, hcz15_2, hcz15_3, hcz15_4, hcz15_5, hcz15_6, hcz15_7, hfz15_0, hfz15_1, hfz15_2, hfz15_3, hfz15_4, hfz15_5, hfz15_6, hfz15_7⟩ := Ce8_ BK404.out; obtain ⟨Ao16, co16, eo16⟩ := Vx_ HO402.out; subst eo16; obtain ⟨hcz17_0, hcz17_1, hcz17_2, hfz17_0, hfz17_1, hfz17_2⟩ := Ce3_ BK391.out; obtain ⟨hcz18_0, hcz18_1, hcz18_2, hfz18_0, hfz18_1, hfz18_2⟩ := Ce3_ BK392.out))
   refine bodyPost_ret (results_ct rfl _ _ gb392 33 #[.slice A0_0 l0_0.length c0_0, .int .i64 a0_1, .int .i64 a0_2] (0, 0) _ rfl (by (with_reducible repeat (first | refine Bn_ ?_ _ | refine Bd_ ?_ | refine Ba_ ?_ _)); refine Bp_ (cs := #[.slice A0_0 l0_0.length c0_0, .int .i64 a0_1, .int .i64 0]) ?_ 2 _ rfl; (with_reducible repeat (first | refine Bn_ ?_ _ | refine Bd_ ?_ | refine Ba_ ?_ _)); refine Bp_ (cs := #[.slice A0_0 l0_0.length c0_0, .int .i64 0, .int .i64 0]) ?_ 1 _ rfl; (with_reducible repeat (first | refine Bn_ ?_ _ | refine Bd_ ?_ | refine Ba_ ?_ _)); refine Bp_ (cs := #[.slice none 0 0, .int .i64 0, .int .i64 0]) ?_ 0 _ rfl; (with_reducible repeat (first | refine Bn_ ?_ _ | refine Bd_ ?_ | refine Ba_ ?_ _)); refine blk_far ?_ NB392_404.out _; (with_reducible repeat (first | refine Bn_ ?_ _ | refine Bd_ ?_ | refine Ba_ ?_ _)); refine blk_far ?_ NB392_404.out _; (with_reducible repeat (first | refine Bn_ ?_ _ | refine Bd_ ?_ | refine Ba_ ?_ _)); refine blk_far ?_ NB392_404.out _; (with_reducible repeat (first | refine Bn_ ?_ _ | refine Bd_ ?_ | refine Ba_ ?_ _)); refine blk_far ?_ NB392_404.out _; (with_reducible repeat (first | refine Bn_ ?_ _ | refine Bd_ ?_ | refine Ba_ ?_ _)); refine blk_far ?_ NB392_404.out _; (with_reducible repeat (first | refine Bn_ ?_ _ | refine Bd_ ?_ | refine Ba_ ?_ _)); refine blk_far ?_ NB392_404.out _; (with_reducible repeat (first | refine Bn_ ?_ _ | refine Bd_ ?_ | refine Ba_ ?_ _)); refine blk_far ?_ NB392_404.out _; (with_reducible repeat (first | refine Bn_ ?_ _ | refine Bd_ ?_ | refine Ba_ ?_ _)); refine blk_far ?_ NB392_404.out _; (with_reducible repeat (first | refine Bn_ ?_ _ | refine Bd_ ?_ | refine Ba_ ?_ _)); exact BK392.out) Try.underlying33 rfl (by kernel_rfl)) rfl ?_
   exact ⟨_, by first | rfl | (simp [errW_none, errW_some] <;> rfl) | (simp [*, errW_none, errW_some] <;> rfl), by (with_reducible repeat (first | apply Va_ | apply Vn_ | apply Vd_)); exact Vm_ (Vf_ (p := ⟨gb392, 2, none⟩) (Vf_ (p := ⟨gb392, 1, none⟩) (Vf_ (p := ⟨gb392, 0, none⟩) (Vf_ (p := ⟨gb404, 7, none⟩) (Vf_ (p := ⟨gb404, 6, none⟩) (Vf_ (p := ⟨gb404, 5, none⟩) (Vf_ (p := ⟨gb404, 4, none⟩) (Vf_ (p := ⟨gb404, 3, none⟩) (Vf_ (p := ⟨gb404, 2, none⟩) (Vf_ (p := ⟨gb404, 1, none⟩) (Vf_ (p := ⟨gb404, 0, none⟩) (Vm_ (Vm_ HO0_0.out (fun k_ hk => (⟨hk, hk.2⟩ : _ ∧ k_ ≠ gb404))) (fun k_ hk => (⟨hk, hk.1.1.2⟩ : _ ∧ k_ ≠ gb392))) (fun _ hk => hk.1.2) (.int .i64 t393)) (fun _ hk => hk.1.2) (.int .i64 t394)) (fun _ hk => hk.1.2) (.int .i64 t395)) (fun _ hk => hk.1.2) (.int .i64 t396)) (fun _ hk => hk.1.2) (.int .i64 t397)) (fun _ hk => hk.1.2) (.int .i64 t398)) (fun _ hk => hk.1.2) (.string t399)) (fun _ hk => hk.1.2) (.slice Ao16 t400.length co16)) (fun _ hk => hk.2) (.slice A0_0 l0_0.length c0_0)) (fun _ hk => hk.2) (.int .i64 a0_1)) (fun _ hk => hk.2) (.int .i64 a0_2)) (fun _ hk => hk.1.1.1.1.1), by repeat (first | (with_reducible first | exact HB.out | apply Pa_ | apply Pn_ | apply Pd_ | refine Bs_ ?_ GE391.out | refine Bs_ ?_ GE392.out | refine Bs_ ?_ GE404.out) | exact HB.out)⟩
  ·rw [if_neg c6] at H
   have c6b0 : decide (a2 < 0) = false := Df_ c6
   clear c6
   by_cases c19 : a2 ≤ (t399.size : Int)
   ·rw [if_pos c19] at H
    have c19b0 : decide (a2 ≤ (t399.size : Int)) = true := Dt_ c19
    clear c19
    by_cases c20 : 0 ≤ a2
    ·rw [if_pos c20] at H
     have c20b0 := eq_true c20
     have c20b1 : decide (0 ≤ a2) = true := Dt_ c20
     clear c20
     have c21b0 := eq_true (Ot_ (by first | (with_reducible assumption) | assumption) : a2 ≤ (t399.size : Int))
     replace H := Option.bind_eq_some_iff.mp H
     obtain ⟨⟨t405, t408, t409, t410⟩, A220, H⟩ := H
     replace H : (some (t405, t408, t409, t410)) = some (r1, r2, r3, r4) := H
     have A22 := Am_ A220
     clear A220
     simp only [Option.some.injEq, Prod.mk.injEq] at H
     obtain ⟨rfl, rfl, rfl, rfl⟩ := H
     go_enter Try.func19, Try.ntmps19
     try go_wp2_with (first | ((with_reducible refine gate_dst (N := 3) rfl ?_); refine box_event ?hg (N := 3) ?hd (cs := #[.slice A0_0 l0_0.length c0_0, .int .i64 a0_1, .int .i64 a0_2]) (t := 33) ?hr ?_; (case hd => rfl); (case hg => rfl); (case hr => go_simp; try rfl); intro gb391 hg w23 hbox hb; have n0_ := Am_ (Vb_ (Ke_ (Pv_ HO0_0.out) gb391 (Nat.le_of_eq hg.symm)) hb); have n1_ := Am_ (Be_ (Pb0_ HB.out) hb); have n2_ := Am_ (hbox); have n3_ := Am_ ((by rw [hg]; exact (Bz_ (Pb0_ HB.out)) : w.heap.size ≤ gb391)); have n4_ := Am_ ((by rw [hg]; exact (Bz_ (Pb0_ HB.out)) : w.heap.size ≤ gb391)); clear HO0_0; clear HB; have HO0_0 := n0_; have HB := n1_; have BK391 := n2_; have GW391 := n3_; have GE391 := n4_; clear n0_ n1_ n2_ n3_ n4_; clear hb hbox hg) | ((with_reducible refine gate_dst (N := 6) rfl ?_); refine box_event ?hg (N := 6) ?hd (cs := #[.slice none 0 0, .int .i64 0, .int .i64 0]) (t := 33) ?hr ?_; (case hd => rfl); (case hg => rfl); (case hr => go_simp; try rfl); intro gb392 hg w24 hbox hb; have n0_ := Am_ (Vb_ (Ke_ (Pv_ HO0_0.out) gb392 (Nat.le_of_eq hg.symm)) hb); have n1_ := Am_ (Bb_ (g := gb391) (o := .cells #[.slice A0_0 l0_0.length c0_0, .int .i64 a0_1, .int .i64 a0_2] 33 (0, 0)) (Pk_ BK391.out) hb); have n2_ := Am_ (Be_ (Pb1_ HB.out GE391.out) hb); have n3_ := Am_ (hbox); have n4_ := Am_ ((by rw [hg]; exact (Bz_ (Pb1_ HB.out GE391.out)) : w.heap.size ≤ gb392)); have n5_ := Am_ ((by rw [hg]; exact (Bz_ (Pb1_ HB.out GE391.out)) : w.heap.size ≤ gb392)); have n6_ := Am_ ((by rw [hg]; exact Nat.ne_of_lt (blk_lt (g := gb391) (o := .cells #[.slice A0_0 l0_0.length c0_0, .int .i64 a0_1, .int .i64 a0_2] 33 (0, 0)) (Pk_ BK391.out)) : gb391 ≠ gb392)); have n7_ := Am_ ((by rw [hg]; exact Nat.ne_of_gt (blk_lt (g := gb391) (o := .cells #[.slice A0_0 l0_0.length c0_0, .int .i64 a0_1, .int .i64 a0_2] 33 (0, 0)) (Pk_ BK391.out)) : gb392 ≠ gb391)); clear HO0_0; clear BK391; clear HB; have HO0_0 := n0_; have BK391 := n1_; have HB := n2_; have BK392 := n3_; have GW392 := n4_; have GE392 := n5_; have NB391_392 := n6_; have NB392_391 := n7_; clear n0_ n1_ n2_ n3_ n4_ n5_ n6_ n7_; clear hb hbox hg; have hnb25 := NB391_392.out; have hnc25 := NB392_391.out; obtain ⟨hcz26_0, hcz26_1, hcz26_2, hfz26_0, hfz26_1, hfz26_2⟩ := Ce3_ BK391.out) | ((with_reducible refine gate_callee (f := 25) rfl ?_); refine goesL_ (some 13) rfl rfl Try.func25 (by kernel_rfl) rfl #[.agg #[.slice A0_0 l0_0.length c0_0, .int .i64 a0_1, .int .i64 a0_2], .int .i64 a1] rfl (by (try simp only [List.map_toArray, List.map_cons, List.map_nil]); first | done | rfl | (simp only [ByteArray.size_append]; rfl) | (simp only [List.length_drop, List.length_take]; rfl)) ?_; (with_reducible refine (flagstoneref09_file.calls (fun k_ => (((P0_0_ k_ ∨ w.heap.size ≤ k_) ∧ k_ ≠ gb391) ∧ k_ ≠ gb392)) _ _ l0_0 a0_1 a0_2 a1 t393 t394 t395 t396 t397 t398 t399 t400 t403 _ ?side1 A4.out).mono ?_); (case side1 => exact HO0_0.out); rintro e w27 ⟨v401, rfl, ho0, hb⟩; refine ⟨_, rfl, ?_⟩; have n0_ := Am_ (Vb_ (Pv_ HO0_0.out) hb); have n1_ := Am_ (Vl_ (Vm_ (ok' := fun k_ => (P0_0_ k_ ∨ w.heap.size ≤ k_) ∧ k_ ≠ gb391 ∧ k_ ≠ gb392) ho0 (fun k_ hk_ => ⟨Or.elim hk_ (fun hs_ => hs_.1.1) (fun hn_ => (.inr (Nat.le_trans (Bz_ (Pb2_ HB.out GE391.out GE392.out)) hn_))), Or.elim hk_ (fun hs_ => hs_.1.2) (fun hn_ => (Kd.freshB (g := gb391) (o := .cells #[.slice A0_0 l0_0.length c0_0, .int .i64 a0_1, .int .i64 a0_2] 33 (0, 0)) (Pk_ BK391.out) k_ hn_)), Or.elim hk_ (fun hs_ => hs_.2) (fun hn_ => (Kd.freshB (g := gb392) (o := .cells #[.slice none 0 0, .int .i64 0, .int .i64 0] 33 (0, 0)) (Pk_ BK392.out) k_ hn_))⟩)) (Bz_ (Pb2_ HB.out GE391.out GE392.out))); have n2_ := Am_ (Bb_ (g := gb391) (o := .cells #[.slice A0_0 l0_0.length c0_0, .int .i64 a0_1, .int .i64 a0_2] 33 (0, 0)) (Pk_ BK391.out) hb); have n3_ := Am_ (Bb_ (g := gb392) (o := .cells #[.slice none 0 0, .int .i64 0, .int .i64 0] 33 (0, 0)) (Pk_ BK392.out) hb); have n4_ := Am_ (Be_ (Pb2_ HB.out GE391.out GE392.out) hb); clear HO0_0; clear BK391; clear BK392; clear HB; have HO0_0 := n0_; have HO402 := n1_; have BK391 := n2_; have BK392 := n3_; have HB := n4_; clear n0_ n1_ n2_ n3_ n4_; (try clear hb); (try clear hb2); (try clear hk); (try clear hi); (try clear ho0)) | ((with_reducible refine gate_dst (N := 8) rfl ?_); refine box_event ?hg (N := 8) ?hd (cs := #[.int .i64 0, .int .i64 0, .int .i64 0, .int .i64 0, .int .i64 0, .int .i64 0, .string (⟨#[]⟩ : ByteArray), .slice none 0 0]) (t := 53) ?hr ?_; (case hd => rfl); (case hg => rfl); (case hr => go_simp; try rfl); intro gb404 hg w28 hbox hb; have n0_ := Am_ (Vb_ (Ke_ (Pv_ HO0_0.out) gb404 (Nat.le_of_eq hg.symm)) hb); have n1_ := Am_ (Vb_ (Ke_ (Pv_ HO402.out) gb404 (Nat.le_of_eq hg.symm)) hb); have n2_ := Am_ (Bb_ (g := gb391) (o := .cells #[.slice A0_0 l0_0.length c0_0, .int .i64 a0_1, .int .i64 a0_2] 33 (0, 0)) (Pk_ BK391.out) hb); have n3_ := Am_ (Bb_ (g := gb392) (o := .cells #[.slice none 0 0, .int .i64 0, .int .i64 0] 33 (0, 0)) (Pk_ BK392.out) hb); have n4_ := Am_ (Be_ (Pb2_ HB.out GE391.out GE392.out) hb); have n5_ := Am_ (hbox); have n6_ := Am_ ((by rw [hg]; exact (Bz_ (Pb2_ HB.out GE391.out GE392.out)) : w.heap.size ≤ gb404)); have n7_ := Am_ ((by rw [hg]; exact (Bz_ (Pb2_ HB.out GE391.out GE392.out)) : w.heap.size ≤ gb404)); have n8_ := Am_ ((by rw [hg]; exact Nat.ne_of_lt (blk_lt (g := gb391) (o := .cells #[.slice A0_0 l0_0.length c0_0, .int .i64 a0_1, .int .i64 a0_2] 33 (0, 0)) (Pk_ BK391.out)) : gb391 ≠ gb404)); have n9_ := Am_ ((by rw [hg]; exact Nat.ne_of_gt (blk_lt (g := gb391) (o := .cells #[.slice A0_0 l0_0.length c0_0, .int .i64 a0_1, .int .i64 a0_2] 33 (0, 0)) (Pk_ BK391.out)) : gb404 ≠ gb391)); have n10_ := Am_ ((by rw [hg]; exact Nat.ne_of_lt (blk_lt (g := gb392) (o := .cells #[.slice none 0 0, .int .i64 0, .int .i64 0] 33 (0, 0)) (Pk_ BK392.out)) : gb392 ≠ gb404)); have n11_ := Am_ ((by rw [hg]; exact Nat.ne_of_gt (blk_lt (g := gb392) (o := .cells #[.slice none 0 0, .int .i64 0, .int .i64 0] 33 (0, 0)) (Pk_ BK392.out)) : gb404 ≠ gb392)); clear HO0_0; clear HO402; clear BK391; clear BK392; clear HB; have HO0_0 := n0_; have HO402 := n1_; have BK391 := n2_; have BK392 := n3_; have HB := n4_; have BK404 := n5_; have GW404 := n6_; have GE404 := n7_; have NB391_404 := n8_; have NB404_391 := n9_; have NB392_404 := n10_; have NB404_392 := n11_; clear n0_ n1_ n2_ n3_ n4_ n5_ n6_ n7_ n8_ n9_ n10_ n11_; clear hb hbox hg; have hnb29 := NB404_391.out; have hnc29 := NB391_404.out; have hnb30 := NB404_392.out; have hnc30 := NB392_404.out; obtain ⟨hcz31_0, hcz31_1, hcz31_2, hcz31_3, hcz31_4, hcz31_5, hcz31_6, hcz31_7, hfz31_0, hfz31_1, hfz31_2, hfz31_3, hfz31_4, hfz31_5, hfz31_6, hfz31_7⟩ := Ce8_ BK404.out; obtain ⟨Ao32, co32, eo32⟩ := Vx_ HO402.out; subst eo32))
     have n0_ : Aside0 (Kd.V k53 53 ((((((((w28.setCell ⟨gb404, 0, none⟩ (.int .i64 t393)).setCell ⟨gb404, 1, none⟩ (.int .i64 t394)).setCell ⟨gb404, 2, none⟩ (.int .i64 t395)).setCell ⟨gb404, 3, none⟩ (.int .i64 t396)).setCell ⟨gb404, 4, none⟩ (.int .i64 t397)).setCell ⟨gb404, 5, none⟩ (.int .i64 t398)).setCell ⟨gb404, 6, none⟩ (.string t399)).setCell ⟨gb404, 7, none⟩ (.slice Ao32 t400.length co32)) w.heap.size (fun k_ => (P0_0_ k_ ∨ w.heap.size ≤ k_) ∧ k_ ≠ gb391 ∧ k_ ≠ gb392 ∧ k_ ≠ gb404) (.slice A0_0 l0_0.length c0_0) l0_0) := ⟨by (with_reducible repeat (first | apply Va_ | apply Vn_ | apply Vd_)); exact Vm_ (Vf_ (p := ⟨gb404, 7, none⟩) (Vf_ (p := ⟨gb404, 6, none⟩) (Vf_ (p := ⟨gb404, 5, none⟩) (Vf_ (p := ⟨gb404, 4, none⟩) (Vf_ (p := ⟨gb404, 3, none⟩) (Vf_ (p := ⟨gb404, 2, none⟩) (Vf_ (p := ⟨gb404, 1, none⟩) (Vf_ (p := ⟨gb404, 0, none⟩) (Vm_ HO0_0.out (fun k_ hk => (⟨hk, hk.2⟩ : _ ∧ k_ ≠ gb404))) (fun _ hk => hk.2) (.int .i64 t393)) (fun _ hk => hk.2) (.int .i64 t394)) (fun _ hk => hk.2) (.int .i64 t395)) (fun _ hk => hk.2) (.int .i64 t396)) (fun _ hk => hk.2) (.int .i64 t397)) (fun _ hk => hk.2) (.int .i64 t398)) (fun _ hk => hk.2) (.string t399)) (fun _ hk => hk.2) (.slice Ao32 t400.length co32)) (fun _ hk => ⟨hk.1.1.1.1, ⟨hk.1.1.1.2, ⟨hk.1.1.2, hk.1.2⟩⟩⟩)⟩
     have n1_ : Aside0 (Kd.V k75 75 ((((((((w28.setCell ⟨gb404, 0, none⟩ (.int .i64 t393)).setCell ⟨gb404, 1, none⟩ (.int .i64 t394)).setCell ⟨gb404, 2, none⟩ (.int .i64 t395)).setCell ⟨gb404, 3, none⟩ (.int .i64 t396)).setCell ⟨gb404, 4, none⟩ (.int .i64 t397)).setCell ⟨gb404, 5, none⟩ (.int .i64 t398)).setCell ⟨gb404, 6, none⟩ (.string t399)).setCell ⟨gb404, 7, none⟩ (.slice Ao32 t400.length co32)) w.heap.size (fun k_ => (P0_0_ k_ ∨ w.heap.size ≤ k_) ∧ k_ ≠ gb391 ∧ k_ ≠ gb392 ∧ k_ ≠ gb404) (.slice Ao32 t400.length co32) t400) := ⟨by (with_reducible repeat (first | apply Va_ | apply Vn_ | apply Vd_)); exact Vm_ (Vf_ (p := ⟨gb404, 7, none⟩) (Vf_ (p := ⟨gb404, 6, none⟩) (Vf_ (p := ⟨gb404, 5, none⟩) (Vf_ (p := ⟨gb404, 4, none⟩) (Vf_ (p := ⟨gb404, 3, none⟩) (Vf_ (p := ⟨gb404, 2, none⟩) (Vf_ (p := ⟨gb404, 1, none⟩) (Vf_ (p := ⟨gb404, 0, none⟩) (Vm_ HO402.out (fun k_ hk => (⟨hk, hk.2⟩ : _ ∧ k_ ≠ gb404))) (fun _ hk => hk.2) (.int .i64 t393)) (fun _ hk => hk.2) (.int .i64 t394)) (fun _ hk => hk.2) (.int .i64 t395)) (fun _ hk => hk.2) (.int .i64 t396)) (fun _ hk => hk.2) (.int .i64 t397)) (fun _ hk => hk.2) (.int .i64 t398)) (fun _ hk => hk.2) (.string t399)) (fun _ hk => hk.2) (.slice Ao32 t400.length co32)) (fun _ hk => ⟨hk.1.1.1, ⟨hk.1.1.2.1, ⟨hk.1.1.2.2, hk.1.2⟩⟩⟩)⟩
     have n2_ : Aside0 (((((((((w28.setCell ⟨gb404, 0, none⟩ (.int .i64 t393)).setCell ⟨gb404, 1, none⟩ (.int .i64 t394)).setCell ⟨gb404, 2, none⟩ (.int .i64 t395)).setCell ⟨gb404, 3, none⟩ (.int .i64 t396)).setCell ⟨gb404, 4, none⟩ (.int .i64 t397)).setCell ⟨gb404, 5, none⟩ (.int .i64 t398)).setCell ⟨gb404, 6, none⟩ (.string t399)).setCell ⟨gb404, 7, none⟩ (.slice Ao32 t400.length co32)).heap[gb391]? = some (.cells #[.slice A0_0 l0_0.length c0_0, .int .i64 a0_1, .int .i64 a0_2] 33 (0, 0))) := ⟨by (with_reducible repeat (first | refine Bn_ ?_ _ | refine Bd_ ?_ | refine Ba_ ?_ _)); refine blk_far ?_ NB391_404.out _; (with_reducible repeat (first | refine Bn_ ?_ _ | refine Bd_ ?_ | refine Ba_ ?_ _)); refine blk_far ?_ NB391_404.out _; (with_reducible repeat (first | refine Bn_ ?_ _ | refine Bd_ ?_ | refine Ba_ ?_ _)); refine blk_far ?_ NB391_404.out _; (with_reducible repeat (first | refine Bn_ ?_ _ | refine Bd_ ?_ | refine Ba_ ?_ _)); refine blk_far ?_ NB391_404.out _; (with_reducible repeat (first | refine Bn_ ?_ _ | refine Bd_ ?_ | refine Ba_ ?_ _)); refine blk_far ?_ NB391_404.out _; (with_reducible repeat (first | refine Bn_ ?_ _ | refine Bd_ ?_ | refine Ba_ ?_ _)); refine blk_far ?_ NB391_404.out _; (with_reducible repeat (first | refine Bn_ ?_ _ | refine Bd_ ?_ | refine Ba_ ?_ _)); refine blk_far ?_ NB391_404.out _; (with_reducible repeat (first | refine Bn_ ?_ _ | refine Bd_ ?_ | refine Ba_ ?_ _)); refine blk_far ?_ NB391_404.out _; (with_reducible repeat (first | refine Bn_ ?_ _ | refine Bd_ ?_ | refine Ba_ ?_ _)); exact BK391.out⟩
     have n3_ : Aside0 (((((((((w28.setCell ⟨gb404, 0, none⟩ (.int .i64 t393)).setCell ⟨gb404, 1, none⟩ (.int .i64 t394)).setCell ⟨gb404, 2, none⟩ (.int .i64 t395)).setCell ⟨gb404, 3, none⟩ (.int .i64 t396)).setCell ⟨gb404, 4, none⟩ (.int .i64 t397)).setCell ⟨gb404, 5, none⟩ (.int .i64 t398)).setCell ⟨gb404, 6, none⟩ (.string t399)).setCell ⟨gb404, 7, none⟩ (.slice Ao32 t400.length co32)).heap[gb392]? = some (.cells #[.slice none 0 0, .int .i64 0, .int .i64 0] 33 (0, 0))) := ⟨by (with_reducible repeat (first | refine Bn_ ?_ _ | refine Bd_ ?_ | refine Ba_ ?_ _)); refine blk_far ?_ NB392_404.out _; (with_reducible repeat (first | refine Bn_ ?_ _ | refine Bd_ ?_ | refine Ba_ ?_ _)); refine blk_far ?_ NB392_404.out _; (with_reducible repeat (first | refine Bn_ ?_ _ | refine Bd_ ?_ | refine Ba_ ?_ _)); refine blk_far ?_ NB392_404.out _; (with_reducible repeat (first | refine Bn_ ?_ _ | refine Bd_ ?_ | refine Ba_ ?_ _)); refine blk_far ?_ NB392_404.out _; (with_reducible repeat (first | refine Bn_ ?_ _ | refine Bd_ ?_ | refine Ba_ ?_ _)); refine blk_far ?_ NB392_404.out _; (with_reducible repeat (first | refine Bn_ ?_ _ | refine Bd_ ?_ | refine Ba_ ?_ _)); refine blk_far ?_ NB392_404.out _; (with_reducible repeat (first | refine Bn_ ?_ _ | refine Bd_ ?_ | refine Ba_ ?_ _)); refine blk_far ?_ NB392_404.out _; (with_reducible repeat (first | refine Bn_ ?_ _ | refine Bd_ ?_ | refine Ba_ ?_ _)); refine blk_far ?_ NB392_404.out _; (with_reducible repeat (first | refine Bn_ ?_ _ | refine Bd_ ?_ | refine Ba_ ?_ _)); exact BK392.out⟩
     have n4_ : Aside0 (((((((((w28.setCell ⟨gb404, 0, none⟩ (.int .i64 t393)).setCell ⟨gb404, 1, none⟩ (.int .i64 t394)).setCell ⟨gb404, 2, none⟩ (.int .i64 t395)).setCell ⟨gb404, 3, none⟩ (.int .i64 t396)).setCell ⟨gb404, 4, none⟩ (.int .i64 t397)).setCell ⟨gb404, 5, none⟩ (.int .i64 t398)).setCell ⟨gb404, 6, none⟩ (.string t399)).setCell ⟨gb404, 7, none⟩ (.slice Ao32 t400.length co32)).heap[gb404]? = some (.cells #[.int .i64 t393, .int .i64 t394, .int .i64 t395, .int .i64 t396, .int .i64 t397, .int .i64 t398, .string t399, .slice Ao32 t400.length co32] 53 (0, 0))) := ⟨by (with_reducible repeat (first | refine Bn_ ?_ _ | refine Bd_ ?_ | refine Ba_ ?_ _)); refine Bp_ (cs := #[.int .i64 t393, .int .i64 t394, .int .i64 t395, .int .i64 t396, .int .i64 t397, .int .i64 t398, .string t399, .slice none 0 0]) ?_ 7 _ rfl; (with_reducible repeat (first | refine Bn_ ?_ _ | refine Bd_ ?_ | refine Ba_ ?_ _)); refine Bp_ (cs := #[.int .i64 t393, .int .i64 t394, .int .i64 t395, .int .i64 t396, .int .i64 t397, .int .i64 t398, .string (⟨#[]⟩ : ByteArray), .slice none 0 0]) ?_ 6 _ rfl; (with_reducible repeat (first | refine Bn_ ?_ _ | refine Bd_ ?_ | refine Ba_ ?_ _)); refine Bp_ (cs := #[.int .i64 t393, .int .i64 t394, .int .i64 t395, .int .i64 t396, .int .i64 t397, .int .i64 0, .string (⟨#[]⟩ : ByteArray), .slice none 0 0]) ?_ 5 _ rfl; (with_reducible repeat (first | refine Bn_ ?_ _ | refine Bd_ ?_ | refine Ba_ ?_ _)); refine Bp_ (cs := #[.int .i64 t393, .int .i64 t394, .int .i64 t395, .int .i64 t396, .int .i64 0, .int .i64 0, .string (⟨#[]⟩ : ByteArray), .slice none 0 0]) ?_ 4 _ rfl; (with_reducible repeat (first | refine Bn_ ?_ _ | refine Bd_ ?_ | refine Ba_ ?_ _)); refine Bp_ (cs := #[.int .i64 t393, .int .i64 t394, .int .i64 t395, .int .i64 0, .int .i64 0, .int .i64 0, .string (⟨#[]⟩ : ByteArray), .slice none 0 0]) ?_ 3 _ rfl; (with_reducible repeat (first | refine Bn_ ?_ _ | refine Bd_ ?_ | refine Ba_ ?_ _)); refine Bp_ (cs := #[.int .i64 t393, .int .i64 t394, .int .i64 0, .int .i64 0, .int .i64 0, .int .i64 0, .string (⟨#[]⟩ : ByteArray), .slice none 0 0]) ?_ 2 _ rfl; (with_reducible repeat (first | refine Bn_ ?_ _ | refine Bd_ ?_ | refine Ba_ ?_ _)); refine Bp_ (cs := #[.int .i64 t393, .int .i64 0, .int .i64 0, .int .i64 0, .int .i64 0, .int .i64 0, .string (⟨#[]⟩ : ByteArray), .slice none 0 0]) ?_ 1 _ rfl; (with_reducible repeat (first | refine Bn_ ?_ _ | refine Bd_ ?_ | refine Ba_ ?_ _)); refine Bp_ (cs := #[.int .i64 0, .int .i64 0, .int .i64 0, .int .i64 0, .int .i64 0, .int .i64 0, .string (⟨#[]⟩ : ByteArray), .slice none 0 0]) ?_ 0 _ rfl; (with_reducible repeat (first | refine Bn_ ?_ _ | refine Bd_ ?_ | refine Ba_ ?_ _)); exact BK404.out⟩
     have n5_ : Aside0 (Below w.heap.size w ((((((((w28.setCell ⟨gb404, 0, none⟩ (.int .i64 t393)).setCell ⟨gb404, 1, none⟩ (.int .i64 t394)).setCell ⟨gb404, 2, none⟩ (.int .i64 t395)).setCell ⟨gb404, 3, none⟩ (.int .i64 t396)).setCell ⟨gb404, 4, none⟩ (.int .i64 t397)).setCell ⟨gb404, 5, none⟩ (.int .i64 t398)).setCell ⟨gb404, 6, none⟩ (.string t399)).setCell ⟨gb404, 7, none⟩ (.slice Ao32 t400.length co32))) := ⟨by repeat (first | (with_reducible first | exact HB.out | apply Pa_ | apply Pn_ | apply Pd_ | refine Bs_ ?_ GE391.out | refine Bs_ ?_ GE392.out | refine Bs_ ?_ GE404.out) | exact HB.out)⟩
     (try clear HO0_0)
     (try clear HO402)
     (try clear BK391)
     (try clear BK392)
     (try clear BK404)
     (try clear HB)
     generalize ((((((((w28.setCell ⟨gb404, 0, none⟩ (.int .i64 t393)).setCell ⟨gb404, 1, none⟩ (.int .i64 t394)).setCell ⟨gb404, 2, none⟩ (.int .i64 t395)).setCell ⟨gb404, 3, none⟩ (.int .i64 t396)).setCell ⟨gb404, 4, none⟩ (.int .i64 t397)).setCell ⟨gb404, 5, none⟩ (.int .i64 t398)).setCell ⟨gb404, 6, none⟩ (.string t399)).setCell ⟨gb404, 7, none⟩ (.slice Ao32 t400.length co32)) = w33 at n0_ n1_ n2_ n3_ n4_ n5_ ⊢
     have HO0_0 := n0_
     have HO402 := n1_
     have BK391 := n2_
     have BK392 := n3_
     have BK404 := n4_
     have HB := n5_
     clear n0_ n1_ n2_ n3_ n4_ n5_
     have n0_ := Am_ (Vd_ HO0_0.out)
     have n1_ := Am_ (Vd_ HO402.out)
     have n2_ := Am_ (Bd_ BK391.out)
     have n3_ := Am_ (Bd_ BK392.out)
     have n4_ := Am_ (Bd_ BK404.out)
     have n5_ := Am_ (Pd_ HB.out)
     clear HO0_0
     clear HO402
     clear BK391
     clear BK392
     clear BK404
     clear HB
     have HO0_0 := n0_
     have HO402 := n1_
     have BK391 := n2_
     have BK392 := n3_
     have BK404 := n4_
     have HB := n5_
     clear n0_ n1_ n2_ n3_ n4_ n5_
     refine start_ (n := 12) (S := fun w' => w'.cell? ⟨gb391, 0, none⟩ = some (.slice A0_0 l0_0.length c0_0) ∧ w'.cell? ⟨gb391, 1, none⟩ = some (.int .i64 a0_1) ∧ w'.cell? ⟨gb391, 2, none⟩ = some (.int .i64 a0_2) ∧ w'.cell? ⟨gb404, 0, none⟩ = some (.int .i64 t393) ∧ w'.cell? ⟨gb404, 1, none⟩ = some (.int .i64 t394) ∧ w'.cell? ⟨gb404, 2, none⟩ = some (.int .i64 t395) ∧ w'.cell? ⟨gb404, 3, none⟩ = some (.int .i64 t396) ∧ w'.cell? ⟨gb404, 4, none⟩ = some (.int .i64 t397) ∧ w'.cell? ⟨gb404, 5, none⟩ = some (.int .i64 t398) ∧ w'.cell? ⟨gb404, 6, none⟩ = some (.string t399) ∧ w'.cell? ⟨gb404, 7, none⟩ = some (.slice Ao32 t400.length co32)) (ds := []) #[f_,f_,f_,f_,f_,f_,f_,f_,f_,f_,f_,f_] (by kernel_rfl) rfl rfl ⟨(Bc_ BK391.out 0).trans rfl, (Bc_ BK391.out 1).trans rfl, (Bc_ BK391.out 2).trans rfl, (Bc_ BK404.out 0).trans rfl, (Bc_ BK404.out 1).trans rfl, (Bc_ BK404.out 2).trans rfl, (Bc_ BK404.out 3).trans rfl, (Bc_ BK404.out 4).trans rfl, (Bc_ BK404.out 5).trans rfl, (Bc_ BK404.out 6).trans rfl, (Bc_ BK404.out 7).trans rfl⟩ (fun hHeld => ?_); refine with_tabW flagstoneref09_Cut.tab7 flagstoneref09_Cut.bits7 (fun HT_ HW_ => ?_)
     generalize w33.drew = w34 at HO0_0 HO402 BK391 BK392 BK404 HB hHeld ⊢
     refine pure_ (i := 1) (N := some 32) (v := ?_) (a' := ?_) #[f_,t_,f_,f_,f_,f_,f_,f_,f_,f_,f_,f_] rfl rfl (any_of HT_.out (by kernel_rfl)) (fun _ _ _ h => h) (Or.inl ⟨by rfl, ?_⟩) ?_ ?_
     rotate_left
     ·intro w'
      go_simp
      with_reducible rfl
     rotate_left
     ·simp only [Act.put, La_, Lb_, Lc_, i64_w, i32_w]
      rfl
     refine pure_ (i := 3) (N := some 34) (v := ?_) (a' := ?_) #[f_,t_,f_,t_,f_,f_,f_,f_,f_,f_,f_,f_] rfl rfl (any_of HT_.out (by kernel_rfl)) (fun _ _ _ h => h) (Or.inl ⟨by rfl, ?_⟩) ?_ ?_
     rotate_left
     ·intro w'
      go_simp
      with_reducible rfl
     rotate_left
     ·simp only [Act.put, La_, Lb_, Lc_, i64_w, i32_w]
      rfl
     refine pure_ (i := 5) (N := some 36) (v := ?_) (a' := ?_) #[f_,t_,f_,t_,f_,t_,f_,f_,f_,f_,f_,f_] rfl rfl (any_of HT_.out (by kernel_rfl)) (fun _ _ _ h => h) (Or.inl ⟨by rfl, ?_⟩) ?_ ?_
     rotate_left
     ·intro w'
      go_simp
      with_reducible rfl
     rotate_left
     ·simp only [Act.put, La_, Lb_, Lc_, i64_w, i32_w]
      rfl
     refine take_ (i := 0) (N := some 31) (v := ?_) (a' := ?_) #[t_,t_,f_,t_,f_,t_,f_,f_,f_,f_,f_,f_] rfl rfl (take_ofW HT_.out HW_.out (by kernel_rfl)) (fun _ _ _ h => h) (Or.inl ⟨by rfl, ?_⟩) hHeld ?_ ?_
     rotate_left
     ·rintro w' ⟨s0, s1, s2, s3, s4, s5, s6, s7, s8, s9, s10⟩
      go_simp
      with_reducible rfl
     rotate_left
     ·simp only [Act.put, La_, Lb_, Lc_, i64_w, i32_w]
      rfl
     refine take_ (i := 2) (N := some 33) (v := ?_) (a' := ?_) #[t_,t_,t_,t_,f_,t_,f_,f_,f_,f_,f_,f_] rfl rfl (take_ofW HT_.out HW_.out (by kernel_rfl)) (fun _ _ _ h => h) (Or.inl ⟨by rfl, ?_⟩) hHeld ?_ ?_
     rotate_left
     ·rintro w' ⟨s0, s1, s2, s3, s4, s5, s6, s7, s8, s9, s10⟩
      go_simp
      with_reducible rfl
     rotate_left
     ·simp only [Act.put, La_, Lb_, Lc_, i64_w, i32_w]
      rfl
     refine take_ (i := 4) (N := some 35) (v := ?_) (a' := ?_) #[t_,t_,t_,t_,t_,t_,f_,f_,f_,f_,f_,f_] rfl rfl (take_ofW HT_.out HW_.out (by kernel_rfl)) (fun _ _ _ h => h) (Or.inl ⟨by rfl, ?_⟩) hHeld ?_ ?_
     rotate_left
     ·rintro w' ⟨s0, s1, s2, s3, s4, s5, s6, s7, s8, s9, s10⟩
      go_simp
      with_reducible rfl
     rotate_left
     ·simp only [Act.put, La_, Lb_, Lc_, i64_w, i32_w]
      rfl
     refine pure_ (i := 6) (N := some 37) (v := ?_) (a' := ?_) #[t_,t_,t_,t_,t_,t_,t_,f_,f_,f_,f_,f_] rfl rfl (any_of HT_.out (by kernel_rfl)) (fun _ _ _ h => h) (Or.inl ⟨by rfl, ?_⟩) ?_ ?_
     rotate_left
     ·intro w'
      go_simp
      with_reducible rfl
     rotate_left
     ·simp only [Act.put, La_, Lb_, Lc_, i64_w, i32_w]
      rfl
     refine one_ (i := 7) (N := some 38) #[t_,t_,t_,t_,t_,t_,t_,t_,f_,f_,f_,f_] rfl rfl (one_of HT_.out (by kernel_rfl)) (by decide) (fun K hK => ?_)
     refine goes_ Try.func30 (by kernel_rfl) rfl #[.agg #[.slice A0_0 l0_0.length c0_0, .int .i64 a0_1, .int .i64 a0_2], .int .i64 a1, .agg #[.int .i64 t393, .int .i64 t394, .int .i64 t395, .int .i64 t396, .int .i64 t397, .int .i64 t398, .string t399, .slice Ao32 t400.length co32], .string (t399.extract 0 (a2 : Int).toNat)] (by rfl) rfl rfl (by (try simp only [List.map_toArray, List.map_cons, List.map_nil]); first | done | rfl | (simp only [ByteArray.size_append]; rfl) | (simp only [List.length_drop, List.length_take]; rfl)) ?_
     with_reducible refine (flagstoneref09_kept.calls k (fun k_ => ((P0_0_ k_ ∨ w.heap.size ≤ k_) ∧ (k_ ≠ gb391 ∧ (k_ ≠ gb392 ∧ k_ ≠ gb404)))) _ _ l0_0 a0_1 a0_2 a1 t393 t394 t395 t396 t397 t398 t399 (fun k_ => ((P0_0_ k_ ∨ w.heap.size ≤ k_) ∧ (k_ ≠ gb391 ∧ (k_ ≠ gb392 ∧ k_ ≠ gb404)))) _ _ t400 (t399.extract 0 (a2 : Int).toNat) t405 t408 t409 t410 _ ?side1 ?side2 A22.out).mono ?_
     (case side1 => exact HO0_0.out)
     (case side2 => exact HO402.out)
     rintro e w35 ⟨v406, rfl, ho0, hb⟩
     refine ⟨_, rfl, ?_⟩
     have n0_ := Am_ (Vb_ (Pv_ HO0_0.out) hb)
     have n1_ := Am_ (Vb_ (Pv_ HO402.out) hb)
     have n2_ := Am_ (Vl_ (Vm_ (ok' := fun k_ => (P0_0_ k_ ∨ w.heap.size ≤ k_) ∧ k_ ≠ gb391 ∧ k_ ≠ gb392 ∧ k_ ≠ gb404) ho0 (fun k_ hk_ => ⟨Or.elim hk_ (fun hs_ => Or.elim hs_ (fun hs_ => hs_.1) (fun hs_ => hs_.1)) (fun hn_ => (.inr (Nat.le_trans (Bz_ (Pb3_ HB.out GE391.out GE392.out GE404.out)) hn_))), Or.elim hk_ (fun hs_ => Or.elim hs_ (fun hs_ => hs_.2.1) (fun hs_ => hs_.2.1)) (fun hn_ => (Kd.freshB (g := gb391) (o := .cells #[.slice A0_0 l0_0.length c0_0, .int .i64 a0_1, .int .i64 a0_2] 33 (0, 0)) (Pk_ BK391.out) k_ hn_)), Or.elim hk_ (fun hs_ => Or.elim hs_ (fun hs_ => hs_.2.2.1) (fun hs_ => hs_.2.2.1)) (fun hn_ => (Kd.freshB (g := gb392) (o := .cells #[.slice none 0 0, .int .i64 0, .int .i64 0] 33 (0, 0)) (Pk_ BK392.out) k_ hn_)), Or.elim hk_ (fun hs_ => Or.elim hs_ (fun hs_ => hs_.2.2.2) (fun hs_ => hs_.2.2.2)) (fun hn_ => (Kd.freshB (g := gb404) (o := .cells #[.int .i64 t393, .int .i64 t394, .int .i64 t395, .int .i64 t396, .int .i64 t397, .int .i64 t398, .string t399, .slice Ao32 t400.length co32] 53 (0, 0)) (Pk_ BK404.out) k_ hn_))⟩)) (Bz_ (Pb3_ HB.out GE391.out GE392.out GE404.out)))
     have n3_ := Am_ (Bb_ (g := gb391) (o := .cells #[.slice A0_0 l0_0.length c0_0, .int .i64 a0_1, .int .i64 a0_2] 33 (0, 0)) (Pk_ BK391.out) hb)
     have n4_ := Am_ (Bb_ (g := gb392) (o := .cells #[.slice none 0 0, .int .i64 0, .int .i64 0] 33 (0, 0)) (Pk_ BK392.out) hb)
     have n5_ := Am_ (Bb_ (g := gb404) (o := .cells #[.int .i64 t393, .int .i64 t394, .int .i64 t395, .int .i64 t396, .int .i64 t397, .int .i64 t398, .string t399, .slice Ao32 t400.length co32] 53 (0, 0)) (Pk_ BK404.out) hb)
     have n6_ := Am_ (Be_ (Pb3_ HB.out GE391.out GE392.out GE404.out) hb)
     clear HO0_0
     clear HO402
     clear BK391
     clear BK392
     clear BK404
     clear HB
     have HO0_0 := n0_
     have HO402 := n1_
     have HO407 := n2_
     have BK391 := n3_
     have BK392 := n4_
     have BK404 := n5_
     have HB := n6_
     clear n0_ n1_ n2_ n3_ n4_ n5_ n6_
     (try clear hb)
     (try clear hb2)
     (try clear hk)
     (try clear hi)
     (try clear ho0)
     obtain ⟨Ao36, co36, eo36⟩ := Vx_ HO407.out
     (first | subst eo36 | (injection eo36 with f1_ f2_ f3_; have f4_ := f1_.symm; have f5_ := f3_.symm; clear f1_ f2_ f3_; subst f4_; subst f5_))
     refine hK.out _ _ ⟨(Bc_ BK391.out 0).trans rfl, (Bc_ BK391.out 1).trans rfl, (Bc_ BK391.out 2).trans rfl, (Bc_ BK404.out 0).trans rfl, (Bc_ BK404.out 1).trans rfl, (Bc_ BK404.out 2).trans rfl, (Bc_ BK404.out 3).trans rfl, (Bc_ BK404.out 4).trans rfl, (Bc_ BK404.out 5).trans rfl, (Bc_ BK404.out 6).trans rfl, (Bc_ BK404.out 7).trans rfl⟩ (fun hHeld => ?_)
     clear hK K
     refine norm_ (a' := ?_) ?_ ?_
     rotate_left
     ·show Act.put _ (some 38) _ = _
      simp only [Act.put, La_, Lb_, Lc_, i64_w, i32_w]
      rfl
     refine pure_ (i := 8) (N := some 39) (v := ?_) (a' := ?_) #[t_,t_,t_,t_,t_,t_,t_,t_,t_,f_,f_,f_] rfl rfl (any_of HT_.out (by kernel_rfl)) (fun _ _ _ h => h) (Or.inl ⟨by rfl, ?_⟩) ?_ ?_
     rotate_left
     ·intro w'
      go_simp
      with_reducible rfl
     rotate_left
     ·simp only [Act.put, La_, Lb_, Lc_, i64_w, i32_w]
      rfl
     refine pure_ (i := 9) (N := some 40) (v := ?_) (a' := ?_) #[t_,t_,t_,t_,t_,t_,t_,t_,t_,t_,f_,f_] rfl rfl (any_of HT_.out (by kernel_rfl)) (fun _ _ _ h => h) (Or.inl ⟨by rfl, ?_⟩) ?_ ?_
     rotate_left
     ·intro w'
      go_simp
      with_reducible rfl
     rotate_left
     ·simp only [Act.put, La_, Lb_, Lc_, i64_w, i32_w]
      rfl
     refine one_ (i := 10) (N := none) #[t_,t_,t_,t_,t_,t_,t_,t_,t_,t_,t_,f_] rfl rfl (one_of HT_.out (by kernel_rfl)) (by decide) (fun K hK => ?_)
     have hs37 : w35.cell? ⟨gb392, 0, none⟩ = some (.slice none 0 0) := (Bc_ BK392.out 0).trans rfl
     have hfs37 := Bf_ BK392.out 0
     have hns37_0 := NB391_392.out
     have hns37_2 := NB404_392.out
     have hms37_0 := NB392_391.out
     have hms37_2 := NB392_404.out
     have hs38 : w35.cell? ⟨gb392, 1, none⟩ = some (.int .i64 0) := (Bc_ BK392.out 1).trans rfl
     have hfs38 := Bf_ BK392.out 1
     have hns38_0 := NB391_392.out
     have hns38_2 := NB404_392.out
     have hms38_0 := NB392_391.out
     have hms38_2 := NB392_404.out
     have hs39 : w35.cell? ⟨gb392, 2, none⟩ = some (.int .i64 0) := (Bc_ BK392.out 2).trans rfl
     have hfs39 := Bf_ BK392.out 2
     have hns39_0 := NB391_392.out
     have hns39_2 := NB404_392.out
     have hms39_0 := NB392_391.out
     have hms39_2 := NB392_404.out
     refine skip_ (w1 := ?_) (by rfl) rfl ?_ ?_
     rotate_left
     ·go_simp
      rfl
     refine hK.out _ _ ⟨((Cf_ (p := ⟨gb392, _, none⟩) NB391_392.out _).trans (((Cf_ (p := ⟨gb392, _, none⟩) NB391_392.out _).trans (((Cf_ (p := ⟨gb392, _, none⟩) NB391_392.out _).trans (hHeld.1)))))), ((Cf_ (p := ⟨gb392, _, none⟩) NB391_392.out _).trans (((Cf_ (p := ⟨gb392, _, none⟩) NB391_392.out _).trans (((Cf_ (p := ⟨gb392, _, none⟩) NB391_392.out _).trans (hHeld.2.1)))))), ((Cf_ (p := ⟨gb392, _, none⟩) NB391_392.out _).trans (((Cf_ (p := ⟨gb392, _, none⟩) NB391_392.out _).trans (((Cf_ (p := ⟨gb392, _, none⟩) NB391_392.out _).trans (hHeld.2.2.1)))))), ((Cf_ (p := ⟨gb392, _, none⟩) NB404_392.out _).trans (((Cf_ (p := ⟨gb392, _, none⟩) NB404_392.out _).trans (((Cf_ (p := ⟨gb392, _, none⟩) NB404_392.out _).trans (hHeld.2.2.2.1)))))), ((Cf_ (p := ⟨gb392, _, none⟩) NB404_392.out _).trans (((Cf_ (p := ⟨gb392, _, none⟩) NB404_392.out _).trans (((Cf_ (p := ⟨gb392, _, none⟩) NB404_392.out _).trans (hHeld.2.2.2.2.1)))))), ((Cf_ (p := ⟨gb392, _, none⟩) NB404_392.out _).trans (((Cf_ (p := ⟨gb392, _, none⟩) NB404_392.out _).trans (((Cf_ (p := ⟨gb392, _, none⟩) NB404_392.out _).trans (hHeld.2.2.2.2.2.1)))))), ((Cf_ (p := ⟨gb392, _, none⟩) NB404_392.out _).trans (((Cf_ (p := ⟨gb392, _, none⟩) NB404_392.out _).trans (((Cf_ (p := ⟨gb392, _, none⟩) NB404_392.out _).trans (hHeld.2.2.2.2.2.2.1)))))), ((Cf_ (p := ⟨gb392, _, none⟩) NB404_392.out _).trans (((Cf_ (p := ⟨gb392, _, none⟩) NB404_392.out _).trans (((Cf_ (p := ⟨gb392, _, none⟩) NB404_392.out _).trans (hHeld.2.2.2.2.2.2.2.1)))))), ((Cf_ (p := ⟨gb392, _, none⟩) NB404_392.out _).trans (((Cf_ (p := ⟨gb392, _, none⟩) NB404_392.out _).trans (((Cf_ (p := ⟨gb392, _, none⟩) NB404_392.out _).trans (hHeld.2.2.2.2.2.2.2.2.1)))))), ((Cf_ (p := ⟨gb392, _, none⟩) NB404_392.out _).trans (((Cf_ (p := ⟨gb392, _, none⟩) NB404_392.out _).trans (((Cf_ (p := ⟨gb392, _, none⟩) NB404_392.out _).trans (hHeld.2.2.2.2.2.2.2.2.2.1)))))), ((Cf_ (p := ⟨gb392, _, none⟩) NB404_392.out _).trans (((Cf_ (p := ⟨gb392, _, none⟩) NB404_392.out _).trans (((Cf_ (p := ⟨gb392, _, none⟩) NB404_392.out _).trans (hHeld.2.2.2.2.2.2.2.2.2.2))))))⟩ (fun hHeld => ?_)
     clear hK K
     refine pure_ (i := 11) (N := some 7) (v := ?_) (a' := ?_) #[t_,t_,t_,t_,t_,t_,t_,t_,t_,t_,t_,t_] rfl rfl (any_of HT_.out (by kernel_rfl)) (fun _ _ _ h => h) (Or.inl ⟨by rfl, ?_⟩) ?_ ?_
     rotate_left
     ·intro w'
      go_simp
      with_reducible rfl
     rotate_left
     ·simp only [Act.put, La_, Lb_, Lc_, i64_w, i32_w]
      rfl
     refine done_ (done_of HT_.out (by kernel_rfl)) ?_
     try go_wp2
     refine bodyPost_ret (results_ct rfl _ _ gb392 33 #[.slice Ao36 t405.length co36, .int .i64 t408, .int .i64 t409] (0, 0) _ rfl (by (with_reducible repeat (first | refine Bn_ ?_ _ | refine Bd_ ?_ | refine Ba_ ?_ _)); refine Bp_ (cs := #[.slice Ao36 t405.length co36, .int .i64 t408, .int .i64 0]) ?_ 2 _ rfl; (with_reducible repeat (first | refine Bn_ ?_ _ | refine Bd_ ?_ | refine Ba_ ?_ _)); refine Bp_ (cs := #[.slice Ao36 t405.length co36, .int .i64 0, .int .i64 0]) ?_ 1 _ rfl; (with_reducible repeat (first | refine Bn_ ?_ _ | refine Bd_ ?_ | refine Ba_ ?_ _)); refine Bp_ (cs := #[.slice none 0 0, .int .i64 0, .int .i64 0]) ?_ 0 _ rfl; (with_reducible repeat (first | refine Bn_ ?_ _ | refine Bd_ ?_ | refine Ba_ ?_ _)); exact BK392.out) Try.underlying33 rfl (by kernel_rfl)) rfl ?_
     exact ⟨_, by first | rfl | (simp [errW_none, errW_some] <;> rfl) | (simp [*, errW_none, errW_some] <;> rfl), by (with_reducible repeat (first | apply Va_ | apply Vn_ | apply Vd_)); exact Vm_ (Vf_ (p := ⟨gb392, 2, none⟩) (Vf_ (p := ⟨gb392, 1, none⟩) (Vf_ (p := ⟨gb392, 0, none⟩) (Vm_ HO407.out (fun k_ hk => (⟨hk, hk.2.2.1⟩ : _ ∧ k_ ≠ gb392))) (fun _ hk => hk.2) (.slice Ao36 t405.length co36)) (fun _ hk => hk.2) (.int .i64 t408)) (fun _ hk => hk.2) (.int .i64 t409)) (fun _ hk => hk.1.1), by repeat (first | (with_reducible first | exact HB.out | apply Pa_ | apply Pn_ | apply Pd_ | refine Bs_ ?_ GE391.out | refine Bs_ ?_ GE392.out | refine Bs_ ?_ GE404.out) | exact HB.out)⟩
    ·rw [if_neg c20] at H
     exact absurd H (by simp)
   ·rw [if_neg c19] at H
    have c19b0 : decide (a2 ≤ (t399.size : Int)) = false := Df_ c19
    clear c19
    by_cases c40 : a2 > 1000
    ·rw [if_pos c40] at H
     have c40b0 : decide (1000 < a2) = true := Dt_ c40
     clear c40
     simp only [Option.some.injEq, Prod.mk.injEq] at H
     obtain ⟨rfl, rfl, rfl, rfl⟩ := H
     go_enter Try.func19, Try.ntmps19
     go_wp2_with (first | ((with_reducible refine gate_dst (N := 3) rfl ?_); refine box_event ?hg (N := 3) ?hd (cs := #[.slice A0_0 l0_0.length c0_0, .int .i64 a0_1, .int .i64 a0_2]) (t := 33) ?hr ?_; (case hd => rfl); (case hg => rfl); (case hr => go_simp; try rfl); intro gb391 hg w41 hbox hb; have n0_ := Am_ (Vb_ (Ke_ (Pv_ HO0_0.out) gb391 (Nat.le_of_eq hg.symm)) hb); have n1_ := Am_ (Be_ (Pb0_ HB.out) hb); have n2_ := Am_ (hbox); have n3_ := Am_ ((by rw [hg]; exact (Bz_ (Pb0_ HB.out)) : w.heap.size ≤ gb391)); have n4_ := Am_ ((by rw [hg]; exact (Bz_ (Pb0_ HB.out)) : w.heap.size ≤ gb391)); clear HO0_0; clear HB; have HO0_0 := n0_; have HB := n1_; have BK391 := n2_; have GW391 := n3_; have GE391 := n4_; clear n0_ n1_ n2_ n3_ n4_; clear hb hbox hg) | ((with_reducible refine gate_dst (N := 6) rfl ?_); refine box_event ?hg (N := 6) ?hd (cs := #[.slice none 0 0, .int .i64 0, .int .i64 0]) (t := 33) ?hr ?_; (case hd => rfl); (case hg => rfl); (case hr => go_simp; try rfl); intro gb392 hg w42 hbox hb; have n0_ := Am_ (Vb_ (Ke_ (Pv_ HO0_0.out) gb392 (Nat.le_of_eq hg.symm)) hb); have n1_ := Am_ (Bb_ (g := gb391) (o := .cells #[.slice A0_0 l0_0.length c0_0, .int .i64 a0_1, .int .i64 a0_2] 33 (0, 0)) (Pk_ BK391.out) hb); have n2_ := Am_ (Be_ (Pb1_ HB.out GE391.out) hb); have n3_ := Am_ (hbox); have n4_ := Am_ ((by rw [hg]; exact (Bz_ (Pb1_ HB.out GE391.out)) : w.heap.size ≤ gb392)); have n5_ := Am_ ((by rw [hg]; exact (Bz_ (Pb1_ HB.out GE391.out)) : w.heap.size ≤ gb392)); have n6_ := Am_ ((by rw [hg]; exact Nat.ne_of_lt (blk_lt (g := gb391) (o := .cells #[.slice A0_0 l0_0.length c0_0, .int .i64 a0_1, .int .i64 a0_2] 33 (0, 0)) (Pk_ BK391.out)) : gb391 ≠ gb392)); have n7_ := Am_ ((by rw [hg]; exact Nat.ne_of_gt (blk_lt (g := gb391) (o := .cells #[.slice A0_0 l0_0.length c0_0, .int .i64 a0_1, .int .i64 a0_2] 33 (0, 0)) (Pk_ BK391.out)) : gb392 ≠ gb391)); clear HO0_0; clear BK391; clear HB; have HO0_0 := n0_; have BK391 := n1_; have HB := n2_; have BK392 := n3_; have GW392 := n4_; have GE392 := n5_; have NB391_392 := n6_; have NB392_391 := n7_; clear n0_ n1_ n2_ n3_ n4_ n5_ n6_ n7_; clear hb hbox hg; have hnb43 := NB391_392.out; have hnc43 := NB392_391.out; obtain ⟨hcz44_0, hcz44_1, hcz44_2, hfz44_0, hfz44_1, hfz44_2⟩ := Ce3_ BK391.out) | ((with_reducible refine gate_callee (f := 25) rfl ?_); refine goesL_ (some 13) rfl rfl Try.func25 (by kernel_rfl) rfl #[.agg #[.slice A0_0 l0_0.length c0_0, .int .i64 a0_1, .int .i64 a0_2], .int .i64 a1] rfl (by (try simp only [List.map_toArray, List.map_cons, List.map_nil]); first | done | rfl | (simp only [ByteArray.size_append]; rfl) | (simp only [List.length_drop, List.length_take]; rfl)) ?_; (with_reducible refine (flagstoneref09_file.calls (fun k_ => (((P0_0_ k_ ∨ w.heap.size ≤ k_) ∧ k_ ≠ gb391) ∧ k_ ≠ gb392)) _ _ l0_0 a0_1 a0_2 a1 t393 t394 t395 t396 t397 t398 t399 t400 t403 _ ?side1 A4.out).mono ?_); (case side1 => exact HO0_0.out); rintro e w45 ⟨v401, rfl, ho0, hb⟩; refine ⟨_, rfl, ?_⟩; have n0_ := Am_ (Vb_ (Pv_ HO0_0.out) hb); have n1_ := Am_ (Vl_ (Vm_ (ok' := fun k_ => (P0_0_ k_ ∨ w.heap.size ≤ k_) ∧ k_ ≠ gb391 ∧ k_ ≠ gb392) ho0 (fun k_ hk_ => ⟨Or.elim hk_ (fun hs_ => hs_.1.1) (fun hn_ => (.inr (Nat.le_trans (Bz_ (Pb2_ HB.out GE391.out GE392.out)) hn_))), Or.elim hk_ (fun hs_ => hs_.1.2) (fun hn_ => (Kd.freshB (g := gb391) (o := .cells #[.slice A0_0 l0_0.length c0_0, .int .i64 a0_1, .int .i64 a0_2] 33 (0, 0)) (Pk_ BK391.out) k_ hn_)), Or.elim hk_ (fun hs_ => hs_.2) (fun hn_ => (Kd.freshB (g := gb392) (o := .cells #[.slice none 0 0, .int .i64 0, .int .i64 0] 33 (0, 0)) (Pk_ BK392.out) k_ hn_))⟩)) (Bz_ (Pb2_ HB.out GE391.out GE392.out))); have n2_ := Am_ (Bb_ (g := gb391) (o := .cells #[.slice A0_0 l0_0.length c0_0, .int .i64 a0_1, .int .i64 a0_2] 33 (0, 0)) (Pk_ BK391.out) hb); have n3_ := Am_ (Bb_ (g := gb392) (o := .cells #[.slice none 0 0, .int .i64 0, .int .i64 0] 33 (0, 0)) (Pk_ BK392.out) hb); have n4_ := Am_ (Be_ (Pb2_ HB.out GE391.out GE392.out) hb); clear HO0_0; clear BK391; clear BK392; clear HB; have HO0_0 := n0_; have HO402 := n1_; have BK391 := n2_; have BK392 := n3_; have HB := n4_; clear n0_ n1_ n2_ n3_ n4_; (try clear hb); (try clear hb2); (try clear hk); (try clear hi); (try clear ho0)) | ((with_reducible refine gate_dst (N := 8) rfl ?_); refine box_event ?hg (N := 8) ?hd (cs := #[.int .i64 0, .int .i64 0, .int .i64 0, .int .i64 0, .int .i64 0, .int .i64 0, .string (⟨#[]⟩ : ByteArray), .slice none 0 0]) (t := 53) ?hr ?_; (case hd => rfl); (case hg => rfl); (case hr => go_simp; try rfl); intro gb404 hg w46 hbox hb; have n0_ := Am_ (Vb_ (Ke_ (Pv_ HO0_0.out) gb404 (Nat.le_of_eq hg.symm)) hb); have n1_ := Am_ (Vb_ (Ke_ (Pv_ HO402.out) gb404 (Nat.le_of_eq hg.symm)) hb); have n2_ := Am_ (Bb_ (g := gb391) (o := .cells #[.slice A0_0 l0_0.length c0_0, .int .i64 a0_1, .int .i64 a0_2] 33 (0, 0)) (Pk_ BK391.out) hb); have n3_ := Am_ (Bb_ (g := gb392) (o := .cells #[.slice none 0 0, .int .i64 0, .int .i64 0] 33 (0, 0)) (Pk_ BK392.out) hb); have n4_ := Am_ (Be_ (Pb2_ HB.out GE391.out GE392.out) hb); have n5_ := Am_ (hbox); have n6_ := Am_ ((by rw [hg]; exact (Bz_ (Pb2_ HB.out GE391.out GE392.out)) : w.heap.size ≤ gb404)); have n7_ := Am_ ((by rw [hg]; exact (Bz_ (Pb2_ HB.out GE391.out GE392.out)) : w.heap.size ≤ gb404)); have n8_ := Am_ ((by rw [hg]; exact Nat.ne_of_lt (blk_lt (g := gb391) (o := .cells #[.slice A0_0 l0_0.length c0_0, .int .i64 a0_1, .int .i64 a0_2] 33 (0, 0)) (Pk_ BK391.out)) : gb391 ≠ gb404)); have n9_ := Am_ ((by rw [hg]; exact Nat.ne_of_gt (blk_lt (g := gb391) (o := .cells #[.slice A0_0 l0_0.length c0_0, .int .i64 a0_1, .int .i64 a0_2] 33 (0, 0)) (Pk_ BK391.out)) : gb404 ≠ gb391)); have n10_ := Am_ ((by rw [hg]; exact Nat.ne_of_lt (blk_lt (g := gb392) (o := .cells #[.slice none 0 0, .int .i64 0, .int .i64 0] 33 (0, 0)) (Pk_ BK392.out)) : gb392 ≠ gb404)); have n11_ := Am_ ((by rw [hg]; exact Nat.ne_of_gt (blk_lt (g := gb392) (o := .cells #[.slice none 0 0, .int .i64 0, .int .i64 0] 33 (0, 0)) (Pk_ BK392.out)) : gb404 ≠ gb392)); clear HO0_0; clear HO402; clear BK391; clear BK392; clear HB; have HO0_0 := n0_; have HO402 := n1_; have BK391 := n2_; have BK392 := n3_; have HB := n4_; have BK404 := n5_; have GW404 := n6_; have GE404 := n7_; have NB391_404 := n8_; have NB404_391 := n9_; have NB392_404 := n10_; have NB404_392 := n11_; clear n0_ n1_ n2_ n3_ n4_ n5_ n6_ n7_ n8_ n9_ n10_ n11_; clear hb hbox hg; have hnb47 := NB404_391.out; have hnc47 := NB391_404.out; have hnb48 := NB404_392.out; have hnc48 := NB392_404.out; obtain ⟨hcz49_0, hcz49_1, hcz49_2, hcz49_3, hcz49_4, hcz49_5, hcz49_6, hcz49_7, hfz49_0, hfz49_1, hfz49_2, hfz49_3, hfz49_4, hfz49_5, hfz49_6, hfz49_7⟩ := Ce8_ BK404.out; obtain ⟨Ao50, co50, eo50⟩ := Vx_ HO402.out; subst eo50; obtain ⟨hcz51_0, hcz51_1, hcz51_2, hfz51_0, hfz51_1, hfz51_2⟩ := Ce3_ BK391.out; obtain ⟨hcz52_0, hcz52_1, hcz52_2, hfz52_0, hfz52_1, hfz52_2⟩ := Ce3_ BK392.out))
     refine bodyPost_ret (results_ct rfl _ _ gb392 33 #[.slice A0_0 l0_0.length c0_0, .int .i64 a0_1, .int .i64 a0_2] (0, 0) _ rfl (by (with_reducible repeat (first | refine Bn_ ?_ _ | refine Bd_ ?_ | refine Ba_ ?_ _)); refine Bp_ (cs := #[.slice A0_0 l0_0.length c0_0, .int .i64 a0_1, .int .i64 0]) ?_ 2 _ rfl; (with_reducible repeat (first | refine Bn_ ?_ _ | refine Bd_ ?_ | refine Ba_ ?_ _)); refine Bp_ (cs := #[.slice A0_0 l0_0.length c0_0, .int .i64 0, .int .i64 0]) ?_ 1 _ rfl; (with_reducible repeat (first | refine Bn_ ?_ _ | refine Bd_ ?_ | refine Ba_ ?_ _)); refine Bp_ (cs := #[.slice none 0 0, .int .i64 0, .int .i64 0]) ?_ 0 _ rfl; (with_reducible repeat (first | refine Bn_ ?_ _ | refine Bd_ ?_ | refine Ba_ ?_ _)); refine blk_far ?_ NB392_404.out _; (with_reducible repeat (first | refine Bn_ ?_ _ | refine Bd_ ?_ | refine Ba_ ?_ _)); refine blk_far ?_ NB392_404.out _; (with_reducible repeat (first | refine Bn_ ?_ _ | refine Bd_ ?_ | refine Ba_ ?_ _)); refine blk_far ?_ NB392_404.out _; (with_reducible repeat (first | refine Bn_ ?_ _ | refine Bd_ ?_ | refine Ba_ ?_ _)); refine blk_far ?_ NB392_404.out _; (with_reducible repeat (first | refine Bn_ ?_ _ | refine Bd_ ?_ | refine Ba_ ?_ _)); refine blk_far ?_ NB392_404.out _; (with_reducible repeat (first | refine Bn_ ?_ _ | refine Bd_ ?_ | refine Ba_ ?_ _)); refine blk_far ?_ NB392_404.out _; (with_reducible repeat (first | refine Bn_ ?_ _ | refine Bd_ ?_ | refine Ba_ ?_ _)); refine blk_far ?_ NB392_404.out _; (with_reducible repeat (first | refine Bn_ ?_ _ | refine Bd_ ?_ | refine Ba_ ?_ _)); refine blk_far ?_ NB392_404.out _; (with_reducible repeat (first | refine Bn_ ?_ _ | refine Bd_ ?_ | refine Ba_ ?_ _)); exact BK392.out) Try.underlying33 rfl (by kernel_rfl)) rfl ?_
     exact ⟨_, by first | rfl | (simp [errW_none, errW_some] <;> rfl) | (simp [*, errW_none, errW_some] <;> rfl), by (with_reducible repeat (first | apply Va_ | apply Vn_ | apply Vd_)); exact Vm_ (Vf_ (p := ⟨gb392, 2, none⟩) (Vf_ (p := ⟨gb392, 1, none⟩) (Vf_ (p := ⟨gb392, 0, none⟩) (Vf_ (p := ⟨gb404, 7, none⟩) (Vf_ (p := ⟨gb404, 6, none⟩) (Vf_ (p := ⟨gb404, 5, none⟩) (Vf_ (p := ⟨gb404, 4, none⟩) (Vf_ (p := ⟨gb404, 3, none⟩) (Vf_ (p := ⟨gb404, 2, none⟩) (Vf_ (p := ⟨gb404, 1, none⟩) (Vf_ (p := ⟨gb404, 0, none⟩) (Vm_ (Vm_ HO0_0.out (fun k_ hk => (⟨hk, hk.2⟩ : _ ∧ k_ ≠ gb404))) (fun k_ hk => (⟨hk, hk.1.1.2⟩ : _ ∧ k_ ≠ gb392))) (fun _ hk => hk.1.2) (.int .i64 t393)) (fun _ hk => hk.1.2) (.int .i64 t394)) (fun _ hk => hk.1.2) (.int .i64 t395)) (fun _ hk => hk.1.2) (.int .i64 t396)) (fun _ hk => hk.1.2) (.int .i64 t397)) (fun _ hk => hk.1.2) (.int .i64 t398)) (fun _ hk => hk.1.2) (.string t399)) (fun _ hk => hk.1.2) (.slice Ao50 t400.length co50)) (fun _ hk => hk.2) (.slice A0_0 l0_0.length c0_0)) (fun _ hk => hk.2) (.int .i64 a0_1)) (fun _ hk => hk.2) (.int .i64 a0_2)) (fun _ hk => hk.1.1.1.1.1), by repeat (first | (with_reducible first | exact HB.out | apply Pa_ | apply Pn_ | apply Pd_ | refine Bs_ ?_ GE391.out | refine Bs_ ?_ GE392.out | refine Bs_ ?_ GE404.out) | exact HB.out)⟩
    ·rw [if_neg c40] at H
     have c40b0 : decide (1000 < a2) = false := Df_ c40
     clear c40
     replace H := Option.bind_eq_some_iff.mp H
     obtain ⟨t411, A530, H⟩ := H
     replace H : (if t399.size + t411.size ≤ 9223372036854775807 then ((flagstoneref09_kept.f k l0_0 a0_1 a0_2 a1 t393 t394 t395 t396 t397 t398 t399 t400 (t399 ++ t411)).bind fun bt412 => (some (bt412.1, bt412.2.1, bt412.2.2.1, bt412.2.2.2))) else (none)) = some (r1, r2, r3, r4) := H
     have A53 := Am_ A530
     clear A530
     by_cases c54 : t399.size + t411.size ≤ 9223372036854775807
     ·rw [if_pos c54] at H
      have c54b0 := eq_true c54
      have c54b1 : decide (t399.size + t411.size ≤ 9223372036854775807) = true := Dt_ c54
      try have c54b2 : (9223372036854775807 < t399.size + t411.size) = False := eq_false (Nat.not_lt.2 c54)
      replace H := Option.bind_eq_some_iff.mp H
      obtain ⟨⟨t412, t415, t416, t417⟩, A550, H⟩ := H
      replace H : (some (t412, t415, t416, t417)) = some (r1, r2, r3, r4) := H
      have A55 := Am_ A550
      clear A550
      simp only [Option.some.injEq, Prod.mk.injEq] at H
      obtain ⟨rfl, rfl, rfl, rfl⟩ := H
      go_enter Try.func19, Try.ntmps19
      try go_wp2_with (first | ((with_reducible refine gate_dst (N := 3) rfl ?_); refine box_event ?hg (N := 3) ?hd (cs := #[.slice A0_0 l0_0.length c0_0, .int .i64 a0_1, .int .i64 a0_2]) (t := 33) ?hr ?_; (case hd => rfl); (case hg => rfl); (case hr => go_simp; try rfl); intro gb391 hg w56 hbox hb; have n0_ := Am_ (Vb_ (Ke_ (Pv_ HO0_0.out) gb391 (Nat.le_of_eq hg.symm)) hb); have n1_ := Am_ (Be_ (Pb0_ HB.out) hb); have n2_ := Am_ (hbox); have n3_ := Am_ ((by rw [hg]; exact (Bz_ (Pb0_ HB.out)) : w.heap.size ≤ gb391)); have n4_ := Am_ ((by rw [hg]; exact (Bz_ (Pb0_ HB.out)) : w.heap.size ≤ gb391)); clear HO0_0; clear HB; have HO0_0 := n0_; have HB := n1_; have BK391 := n2_; have GW391 := n3_; have GE391 := n4_; clear n0_ n1_ n2_ n3_ n4_; clear hb hbox hg) | ((with_reducible refine gate_dst (N := 6) rfl ?_); refine box_event ?hg (N := 6) ?hd (cs := #[.slice none 0 0, .int .i64 0, .int .i64 0]) (t := 33) ?hr ?_; (case hd => rfl); (case hg => rfl); (case hr => go_simp; try rfl); intro gb392 hg w57 hbox hb; have n0_ := Am_ (Vb_ (Ke_ (Pv_ HO0_0.out) gb392 (Nat.le_of_eq hg.symm)) hb); have n1_ := Am_ (Bb_ (g := gb391) (o := .cells #[.slice A0_0 l0_0.length c0_0, .int .i64 a0_1, .int .i64 a0_2] 33 (0, 0)) (Pk_ BK391.out) hb); have n2_ := Am_ (Be_ (Pb1_ HB.out GE391.out) hb); have n3_ := Am_ (hbox); have n4_ := Am_ ((by rw [hg]; exact (Bz_ (Pb1_ HB.out GE391.out)) : w.heap.size ≤ gb392)); have n5_ := Am_ ((by rw [hg]; exact (Bz_ (Pb1_ HB.out GE391.out)) : w.heap.size ≤ gb392)); have n6_ := Am_ ((by rw [hg]; exact Nat.ne_of_lt (blk_lt (g := gb391) (o := .cells #[.slice A0_0 l0_0.length c0_0, .int .i64 a0_1, .int .i64 a0_2] 33 (0, 0)) (Pk_ BK391.out)) : gb391 ≠ gb392)); have n7_ := Am_ ((by rw [hg]; exact Nat.ne_of_gt (blk_lt (g := gb391) (o := .cells #[.slice A0_0 l0_0.length c0_0, .int .i64 a0_1, .int .i64 a0_2] 33 (0, 0)) (Pk_ BK391.out)) : gb392 ≠ gb391)); clear HO0_0; clear BK391; clear HB; have HO0_0 := n0_; have BK391 := n1_; have HB := n2_; have BK392 := n3_; have GW392 := n4_; have GE392 := n5_; have NB391_392 := n6_; have NB392_391 := n7_; clear n0_ n1_ n2_ n3_ n4_ n5_ n6_ n7_; clear hb hbox hg; have hnb58 := NB391_392.out; have hnc58 := NB392_391.out; obtain ⟨hcz59_0, hcz59_1, hcz59_2, hfz59_0, hfz59_1, hfz59_2⟩ := Ce3_ BK391.out) | ((with_reducible refine gate_callee (f := 25) rfl ?_); refine goesL_ (some 13) rfl rfl Try.func25 (by kernel_rfl) rfl #[.agg #[.slice A0_0 l0_0.length c0_0, .int .i64 a0_1, .int .i64 a0_2], .int .i64 a1] rfl (by (try simp only [List.map_toArray, List.map_cons, List.map_nil]); first | done | rfl | (simp only [ByteArray.size_append]; rfl) | (simp only [List.length_drop, List.length_take]; rfl)) ?_; (with_reducible refine (flagstoneref09_file.calls (fun k_ => (((P0_0_ k_ ∨ w.heap.size ≤ k_) ∧ k_ ≠ gb391) ∧ k_ ≠ gb392)) _ _ l0_0 a0_1 a0_2 a1 t393 t394 t395 t396 t397 t398 t399 t400 t403 _ ?side1 A4.out).mono ?_); (case side1 => exact HO0_0.out); rintro e w60 ⟨v401, rfl, ho0, hb⟩; refine ⟨_, rfl, ?_⟩; have n0_ := Am_ (Vb_ (Pv_ HO0_0.out) hb); have n1_ := Am_ (Vl_ (Vm_ (ok' := fun k_ => (P0_0_ k_ ∨ w.heap.size ≤ k_) ∧ k_ ≠ gb391 ∧ k_ ≠ gb392) ho0 (fun k_ hk_ => ⟨Or.elim hk_ (fun hs_ => hs_.1.1) (fun hn_ => (.inr (Nat.le_trans (Bz_ (Pb2_ HB.out GE391.out GE392.out)) hn_))), Or.elim hk_ (fun hs_ => hs_.1.2) (fun hn_ => (Kd.freshB (g := gb391) (o := .cells #[.slice A0_0 l0_0.length c0_0, .int .i64 a0_1, .int .i64 a0_2] 33 (0, 0)) (Pk_ BK391.out) k_ hn_)), Or.elim hk_ (fun hs_ => hs_.2) (fun hn_ => (Kd.freshB (g := gb392) (o := .cells #[.slice none 0 0, .int .i64 0, .int .i64 0] 33 (0, 0)) (Pk_ BK392.out) k_ hn_))⟩)) (Bz_ (Pb2_ HB.out GE391.out GE392.out))); have n2_ := Am_ (Bb_ (g := gb391) (o := .cells #[.slice A0_0 l0_0.length c0_0, .int .i64 a0_1, .int .i64 a0_2] 33 (0, 0)) (Pk_ BK391.out) hb); have n3_ := Am_ (Bb_ (g := gb392) (o := .cells #[.slice none 0 0, .int .i64 0, .int .i64 0] 33 (0, 0)) (Pk_ BK392.out) hb); have n4_ := Am_ (Be_ (Pb2_ HB.out GE391.out GE392.out) hb); clear HO0_0; clear BK391; clear BK392; clear HB; have HO0_0 := n0_; have HO402 := n1_; have BK391 := n2_; have BK392 := n3_; have HB := n4_; clear n0_ n1_ n2_ n3_ n4_; (try clear hb); (try clear hb2); (try clear hk); (try clear hi); (try clear ho0)) | ((with_reducible refine gate_dst (N := 8) rfl ?_); refine box_event ?hg (N := 8) ?hd (cs := #[.int .i64 0, .int .i64 0, .int .i64 0, .int .i64 0, .int .i64 0, .int .i64 0, .string (⟨#[]⟩ : ByteArray), .slice none 0 0]) (t := 53) ?hr ?_; (case hd => rfl); (case hg => rfl); (case hr => go_simp; try rfl); intro gb404 hg w61 hbox hb; have n0_ := Am_ (Vb_ (Ke_ (Pv_ HO0_0.out) gb404 (Nat.le_of_eq hg.symm)) hb); have n1_ := Am_ (Vb_ (Ke_ (Pv_ HO402.out) gb404 (Nat.le_of_eq hg.symm)) hb); have n2_ := Am_ (Bb_ (g := gb391) (o := .cells #[.slice A0_0 l0_0.length c0_0, .int .i64 a0_1, .int .i64 a0_2] 33 (0, 0)) (Pk_ BK391.out) hb); have n3_ := Am_ (Bb_ (g := gb392) (o := .cells #[.slice none 0 0, .int .i64 0, .int .i64 0] 33 (0, 0)) (Pk_ BK392.out) hb); have n4_ := Am_ (Be_ (Pb2_ HB.out GE391.out GE392.out) hb); have n5_ := Am_ (hbox); have n6_ := Am_ ((by rw [hg]; exact (Bz_ (Pb2_ HB.out GE391.out GE392.out)) : w.heap.size ≤ gb404)); have n7_ := Am_ ((by rw [hg]; exact (Bz_ (Pb2_ HB.out GE391.out GE392.out)) : w.heap.size ≤ gb404)); have n8_ := Am_ ((by rw [hg]; exact Nat.ne_of_lt (blk_lt (g := gb391) (o := .cells #[.slice A0_0 l0_0.length c0_0, .int .i64 a0_1, .int .i64 a0_2] 33 (0, 0)) (Pk_ BK391.out)) : gb391 ≠ gb404)); have n9_ := Am_ ((by rw [hg]; exact Nat.ne_of_gt (blk_lt (g := gb391) (o := .cells #[.slice A0_0 l0_0.length c0_0, .int .i64 a0_1, .int .i64 a0_2] 33 (0, 0)) (Pk_ BK391.out)) : gb404 ≠ gb391)); have n10_ := Am_ ((by rw [hg]; exact Nat.ne_of_lt (blk_lt (g := gb392) (o := .cells #[.slice none 0 0, .int .i64 0, .int .i64 0] 33 (0, 0)) (Pk_ BK392.out)) : gb392 ≠ gb404)); have n11_ := Am_ ((by rw [hg]; exact Nat.ne_of_gt (blk_lt (g := gb392) (o := .cells #[.slice none 0 0, .int .i64 0, .int .i64 0] 33 (0, 0)) (Pk_ BK392.out)) : gb404 ≠ gb392)); clear HO0_0; clear HO402; clear BK391; clear BK392; clear HB; have HO0_0 := n0_; have HO402 := n1_; have BK391 := n2_; have BK392 := n3_; have HB := n4_; have BK404 := n5_; have GW404 := n6_; have GE404 := n7_; have NB391_404 := n8_; have NB404_391 := n9_; have NB392_404 := n10_; have NB404_392 := n11_; clear n0_ n1_ n2_ n3_ n4_ n5_ n6_ n7_ n8_ n9_ n10_ n11_; clear hb hbox hg; have hnb62 := NB404_391.out; have hnc62 := NB391_404.out; have hnb63 := NB404_392.out; have hnc63 := NB392_404.out; obtain ⟨hcz64_0, hcz64_1, hcz64_2, hcz64_3, hcz64_4, hcz64_5, hcz64_6, hcz64_7, hfz64_0, hfz64_1, hfz64_2, hfz64_3, hfz64_4, hfz64_5, hfz64_6, hfz64_7⟩ := Ce8_ BK404.out; obtain ⟨Ao65, co65, eo65⟩ := Vx_ HO402.out; subst eo65))
      have n0_ : Aside0 (Kd.V k53 53 ((((((((w61.setCell ⟨gb404, 0, none⟩ (.int .i64 t393)).setCell ⟨gb404, 1, none⟩ (.int .i64 t394)).setCell ⟨gb404, 2, none⟩ (.int .i64 t395)).setCell ⟨gb404, 3, none⟩ (.int .i64 t396)).setCell ⟨gb404, 4, none⟩ (.int .i64 t397)).setCell ⟨gb404, 5, none⟩ (.int .i64 t398)).setCell ⟨gb404, 6, none⟩ (.string t399)).setCell ⟨gb404, 7, none⟩ (.slice Ao65 t400.length co65)) w.heap.size (fun k_ => (P0_0_ k_ ∨ w.heap.size ≤ k_) ∧ k_ ≠ gb391 ∧ k_ ≠ gb392 ∧ k_ ≠ gb404) (.slice A0_0 l0_0.length c0_0) l0_0) := ⟨by (with_reducible repeat (first | apply Va_ | apply Vn_ | apply Vd_)); exact Vm_ (Vf_ (p := ⟨gb404, 7, none⟩) (Vf_ (p := ⟨gb404, 6, none⟩) (Vf_ (p := ⟨gb404, 5, none⟩) (Vf_ (p := ⟨gb404, 4, none⟩) (Vf_ (p := ⟨gb404, 3, none⟩) (Vf_ (p := ⟨gb404, 2, none⟩) (Vf_ (p := ⟨gb404, 1, none⟩) (Vf_ (p := ⟨gb404, 0, none⟩) (Vm_ HO0_0.out (fun k_ hk => (⟨hk, hk.2⟩ : _ ∧ k_ ≠ gb404))) (fun _ hk => hk.2) (.int .i64 t393)) (fun _ hk => hk.2) (.int .i64 t394)) (fun _ hk => hk.2) (.int .i64 t395)) (fun _ hk => hk.2) (.int .i64 t396)) (fun _ hk => hk.2) (.int .i64 t397)) (fun _ hk => hk.2) (.int .i64 t398)) (fun _ hk => hk.2) (.string t399)) (fun _ hk => hk.2) (.slice Ao65 t400.length co65)) (fun _ hk => ⟨hk.1.1.1.1, ⟨hk.1.1.1.2, ⟨hk.1.1.2, hk.1.2⟩⟩⟩)⟩
      have n1_ : Aside0 (Kd.V k75 75 ((((((((w61.setCell ⟨gb404, 0, none⟩ (.int .i64 t393)).setCell ⟨gb404, 1, none⟩ (.int .i64 t394)).setCell ⟨gb404, 2, none⟩ (.int .i64 t395)).setCell ⟨gb404, 3, none⟩ (.int .i64 t396)).setCell ⟨gb404, 4, none⟩ (.int .i64 t397)).setCell ⟨gb404, 5, none⟩ (.int .i64 t398)).setCell ⟨gb404, 6, none⟩ (.string t399)).setCell ⟨gb404, 7, none⟩ (.slice Ao65 t400.length co65)) w.heap.size (fun k_ => (P0_0_ k_ ∨ w.heap.size ≤ k_) ∧ k_ ≠ gb391 ∧ k_ ≠ gb392 ∧ k_ ≠ gb404) (.slice Ao65 t400.length co65) t400) := ⟨by (with_reducible repeat (first | apply Va_ | apply Vn_ | apply Vd_)); exact Vm_ (Vf_ (p := ⟨gb404, 7, none⟩) (Vf_ (p := ⟨gb404, 6, none⟩) (Vf_ (p := ⟨gb404, 5, none⟩) (Vf_ (p := ⟨gb404, 4, none⟩) (Vf_ (p := ⟨gb404, 3, none⟩) (Vf_ (p := ⟨gb404, 2, none⟩) (Vf_ (p := ⟨gb404, 1, none⟩) (Vf_ (p := ⟨gb404, 0, none⟩) (Vm_ HO402.out (fun k_ hk => (⟨hk, hk.2⟩ : _ ∧ k_ ≠ gb404))) (fun _ hk => hk.2) (.int .i64 t393)) (fun _ hk => hk.2) (.int .i64 t394)) (fun _ hk => hk.2) (.int .i64 t395)) (fun _ hk => hk.2) (.int .i64 t396)) (fun _ hk => hk.2) (.int .i64 t397)) (fun _ hk => hk.2) (.int .i64 t398)) (fun _ hk => hk.2) (.string t399)) (fun _ hk => hk.2) (.slice Ao65 t400.length co65)) (fun _ hk => ⟨hk.1.1.1, ⟨hk.1.1.2.1, ⟨hk.1.1.2.2, hk.1.2⟩⟩⟩)⟩
      have n2_ : Aside0 (((((((((w61.setCell ⟨gb404, 0, none⟩ (.int .i64 t393)).setCell ⟨gb404, 1, none⟩ (.int .i64 t394)).setCell ⟨gb404, 2, none⟩ (.int .i64 t395)).setCell ⟨gb404, 3, none⟩ (.int .i64 t396)).setCell ⟨gb404, 4, none⟩ (.int .i64 t397)).setCell ⟨gb404, 5, none⟩ (.int .i64 t398)).setCell ⟨gb404, 6, none⟩ (.string t399)).setCell ⟨gb404, 7, none⟩ (.slice Ao65 t400.length co65)).heap[gb391]? = some (.cells #[.slice A0_0 l0_0.length c0_0, .int .i64 a0_1, .int .i64 a0_2] 33 (0, 0))) := ⟨by (with_reducible repeat (first | refine Bn_ ?_ _ | refine Bd_ ?_ | refine Ba_ ?_ _)); refine blk_far ?_ NB391_404.out _; (with_reducible repeat (first | refine Bn_ ?_ _ | refine Bd_ ?_ | refine Ba_ ?_ _)); refine blk_far ?_ NB391_404.out _; (with_reducible repeat (first | refine Bn_ ?_ _ | refine Bd_ ?_ | refine Ba_ ?_ _)); refine blk_far ?_ NB391_404.out _; (with_reducible repeat (first | refine Bn_ ?_ _ | refine Bd_ ?_ | refine Ba_ ?_ _)); refine blk_far ?_ NB391_404.out _; (with_reducible repeat (first | refine Bn_ ?_ _ | refine Bd_ ?_ | refine Ba_ ?_ _)); refine blk_far ?_ NB391_404.out _; (with_reducible repeat (first | refine Bn_ ?_ _ | refine Bd_ ?_ | refine Ba_ ?_ _)); refine blk_far ?_ NB391_404.out _; (with_reducible repeat (first | refine Bn_ ?_ _ | refine Bd_ ?_ | refine Ba_ ?_ _)); refine blk_far ?_ NB391_404.out _; (with_reducible repeat (first | refine Bn_ ?_ _ | refine Bd_ ?_ | refine Ba_ ?_ _)); refine blk_far ?_ NB391_404.out _; (with_reducible repeat (first | refine Bn_ ?_ _ | refine Bd_ ?_ | refine Ba_ ?_ _)); exact BK391.out⟩
      have n3_ : Aside0 (((((((((w61.setCell ⟨gb404, 0, none⟩ (.int .i64 t393)).setCell ⟨gb404, 1, none⟩ (.int .i64 t394)).setCell ⟨gb404, 2, none⟩ (.int .i64 t395)).setCell ⟨gb404, 3, none⟩ (.int .i64 t396)).setCell ⟨gb404, 4, none⟩ (.int .i64 t397)).setCell ⟨gb404, 5, none⟩ (.int .i64 t398)).setCell ⟨gb404, 6, none⟩ (.string t399)).setCell ⟨gb404, 7, none⟩ (.slice Ao65 t400.length co65)).heap[gb392]? = some (.cells #[.slice none 0 0, .int .i64 0, .int .i64 0] 33 (0, 0))) := ⟨by (with_reducible repeat (first | refine Bn_ ?_ _ | refine Bd_ ?_ | refine Ba_ ?_ _)); refine blk_far ?_ NB392_404.out _; (with_reducible repeat (first | refine Bn_ ?_ _ | refine Bd_ ?_ | refine Ba_ ?_ _)); refine blk_far ?_ NB392_404.out _; (with_reducible repeat (first | refine Bn_ ?_ _ | refine Bd_ ?_ | refine Ba_ ?_ _)); refine blk_far ?_ NB392_404.out _; (with_reducible repeat (first | refine Bn_ ?_ _ | refine Bd_ ?_ | refine Ba_ ?_ _)); refine blk_far ?_ NB392_404.out _; (with_reducible repeat (first | refine Bn_ ?_ _ | refine Bd_ ?_ | refine Ba_ ?_ _)); refine blk_far ?_ NB392_404.out _; (with_reducible repeat (first | refine Bn_ ?_ _ | refine Bd_ ?_ | refine Ba_ ?_ _)); refine blk_far ?_ NB392_404.out _; (with_reducible repeat (first | refine Bn_ ?_ _ | refine Bd_ ?_ | refine Ba_ ?_ _)); refine blk_far ?_ NB392_404.out _; (with_reducible repeat (first | refine Bn_ ?_ _ | refine Bd_ ?_ | refine Ba_ ?_ _)); refine blk_far ?_ NB392_404.out _; (with_reducible repeat (first | refine Bn_ ?_ _ | refine Bd_ ?_ | refine Ba_ ?_ _)); exact BK392.out⟩
      have n4_ : Aside0 (((((((((w61.setCell ⟨gb404, 0, none⟩ (.int .i64 t393)).setCell ⟨gb404, 1, none⟩ (.int .i64 t394)).setCell ⟨gb404, 2, none⟩ (.int .i64 t395)).setCell ⟨gb404, 3, none⟩ (.int .i64 t396)).setCell ⟨gb404, 4, none⟩ (.int .i64 t397)).setCell ⟨gb404, 5, none⟩ (.int .i64 t398)).setCell ⟨gb404, 6, none⟩ (.string t399)).setCell ⟨gb404, 7, none⟩ (.slice Ao65 t400.length co65)).heap[gb404]? = some (.cells #[.int .i64 t393, .int .i64 t394, .int .i64 t395, .int .i64 t396, .int .i64 t397, .int .i64 t398, .string t399, .slice Ao65 t400.length co65] 53 (0, 0))) := ⟨by (with_reducible repeat (first | refine Bn_ ?_ _ | refine Bd_ ?_ | refine Ba_ ?_ _)); refine Bp_ (cs := #[.int .i64 t393, .int .i64 t394, .int .i64 t395, .int .i64 t396, .int .i64 t397, .int .i64 t398, .string t399, .slice none 0 0]) ?_ 7 _ rfl; (with_reducible repeat (first | refine Bn_ ?_ _ | refine Bd_ ?_ | refine Ba_ ?_ _)); refine Bp_ (cs := #[.int .i64 t393, .int .i64 t394, .int .i64 t395, .int .i64 t396, .int .i64 t397, .int .i64 t398, .string (⟨#[]⟩ : ByteArray), .slice none 0 0]) ?_ 6 _ rfl; (with_reducible repeat (first | refine Bn_ ?_ _ | refine Bd_ ?_ | refine Ba_ ?_ _)); refine Bp_ (cs := #[.int .i64 t393, .int .i64 t394, .int .i64 t395, .int .i64 t396, .int .i64 t397, .int .i64 0, .string (⟨#[]⟩ : ByteArray), .slice none 0 0]) ?_ 5 _ rfl; (with_reducible repeat (first | refine Bn_ ?_ _ | refine Bd_ ?_ | refine Ba_ ?_ _)); refine Bp_ (cs := #[.int .i64 t393, .int .i64 t394, .int .i64 t395, .int .i64 t396, .int .i64 0, .int .i64 0, .string (⟨#[]⟩ : ByteArray), .slice none 0 0]) ?_ 4 _ rfl; (with_reducible repeat (first | refine Bn_ ?_ _ | refine Bd_ ?_ | refine Ba_ ?_ _)); refine Bp_ (cs := #[.int .i64 t393, .int .i64 t394, .int .i64 t395, .int .i64 0, .int .i64 0, .int .i64 0, .string (⟨#[]⟩ : ByteArray), .slice none 0 0]) ?_ 3 _ rfl; (with_reducible repeat (first | refine Bn_ ?_ _ | refine Bd_ ?_ | refine Ba_ ?_ _)); refine Bp_ (cs := #[.int .i64 t393, .int .i64 t394, .int .i64 0, .int .i64 0, .int .i64 0, .int .i64 0, .string (⟨#[]⟩ : ByteArray), .slice none 0 0]) ?_ 2 _ rfl; (with_reducible repeat (first | refine Bn_ ?_ _ | refine Bd_ ?_ | refine Ba_ ?_ _)); refine Bp_ (cs := #[.int .i64 t393, .int .i64 0, .int .i64 0, .int .i64 0, .int .i64 0, .int .i64 0, .string (⟨#[]⟩ : ByteArray), .slice none 0 0]) ?_ 1 _ rfl; (with_reducible repeat (first | refine Bn_ ?_ _ | refine Bd_ ?_ | refine Ba_ ?_ _)); refine Bp_ (cs := #[.int .i64 0, .int .i64 0, .int .i64 0, .int .i64 0, .int .i64 0, .int .i64 0, .string (⟨#[]⟩ : ByteArray), .slice none 0 0]) ?_ 0 _ rfl; (with_reducible repeat (first | refine Bn_ ?_ _ | refine Bd_ ?_ | refine Ba_ ?_ _)); exact BK404.out⟩
      have n5_ : Aside0 (Below w.heap.size w ((((((((w61.setCell ⟨gb404, 0, none⟩ (.int .i64 t393)).setCell ⟨gb404, 1, none⟩ (.int .i64 t394)).setCell ⟨gb404, 2, none⟩ (.int .i64 t395)).setCell ⟨gb404, 3, none⟩ (.int .i64 t396)).setCell ⟨gb404, 4, none⟩ (.int .i64 t397)).setCell ⟨gb404, 5, none⟩ (.int .i64 t398)).setCell ⟨gb404, 6, none⟩ (.string t399)).setCell ⟨gb404, 7, none⟩ (.slice Ao65 t400.length co65))) := ⟨by repeat (first | (with_reducible first | exact HB.out | apply Pa_ | apply Pn_ | apply Pd_ | refine Bs_ ?_ GE391.out | refine Bs_ ?_ GE392.out | refine Bs_ ?_ GE404.out) | exact HB.out)⟩
      (try clear HO0_0)
      (try clear HO402)
      (try clear BK391)
      (try clear BK392)
      (try clear BK404)
      (try clear HB)
      generalize ((((((((w61.setCell ⟨gb404, 0, none⟩ (.int .i64 t393)).setCell ⟨gb404, 1, none⟩ (.int .i64 t394)).setCell ⟨gb404, 2, none⟩ (.int .i64 t395)).setCell ⟨gb404, 3, none⟩ (.int .i64 t396)).setCell ⟨gb404, 4, none⟩ (.int .i64 t397)).setCell ⟨gb404, 5, none⟩ (.int .i64 t398)).setCell ⟨gb404, 6, none⟩ (.string t399)).setCell ⟨gb404, 7, none⟩ (.slice Ao65 t400.length co65)) = w66 at n0_ n1_ n2_ n3_ n4_ n5_ ⊢
      have HO0_0 := n0_
      have HO402 := n1_
      have BK391 := n2_
      have BK392 := n3_
      have BK404 := n4_
      have HB := n5_
      clear n0_ n1_ n2_ n3_ n4_ n5_
      have n0_ := Am_ (Vd_ HO0_0.out)
      have n1_ := Am_ (Vd_ HO402.out)
      have n2_ := Am_ (Bd_ BK391.out)
      have n3_ := Am_ (Bd_ BK392.out)
      have n4_ := Am_ (Bd_ BK404.out)
      have n5_ := Am_ (Pd_ HB.out)
      clear HO0_0
      clear HO402
      clear BK391
      clear BK392
      clear BK404
      clear HB
      have HO0_0 := n0_
      have HO402 := n1_
      have BK391 := n2_
      have BK392 := n3_
      have BK404 := n4_
      have HB := n5_
      clear n0_ n1_ n2_ n3_ n4_ n5_
      refine start_ (n := 17) (S := fun w' => w'.cell? ⟨gb391, 0, none⟩ = some (.slice A0_0 l0_0.length c0_0) ∧ w'.cell? ⟨gb391, 1, none⟩ = some (.int .i64 a0_1) ∧ w'.cell? ⟨gb391, 2, none⟩ = some (.int .i64 a0_2) ∧ w'.cell? ⟨gb404, 0, none⟩ = some (.int .i64 t393) ∧ w'.cell? ⟨gb404, 1, none⟩ = some (.int .i64 t394) ∧ w'.cell? ⟨gb404, 2, none⟩ = some (.int .i64 t395) ∧ w'.cell? ⟨gb404, 3, none⟩ = some (.int .i64 t396) ∧ w'.cell? ⟨gb404, 4, none⟩ = some (.int .i64 t397) ∧ w'.cell? ⟨gb404, 5, none⟩ = some (.int .i64 t398) ∧ w'.cell? ⟨gb404, 6, none⟩ = some (.string t399) ∧ w'.cell? ⟨gb404, 7, none⟩ = some (.slice Ao65 t400.length co65)) (ds := []) #[f_,f_,f_,f_,f_,f_,f_,f_,f_,f_,f_,f_,f_,f_,f_,f_,f_] (by kernel_rfl) rfl rfl ⟨(Bc_ BK391.out 0).trans rfl, (Bc_ BK391.out 1).trans rfl, (Bc_ BK391.out 2).trans rfl, (Bc_ BK404.out 0).trans rfl, (Bc_ BK404.out 1).trans rfl, (Bc_ BK404.out 2).trans rfl, (Bc_ BK404.out 3).trans rfl, (Bc_ BK404.out 4).trans rfl, (Bc_ BK404.out 5).trans rfl, (Bc_ BK404.out 6).trans rfl, (Bc_ BK404.out 7).trans rfl⟩ (fun hHeld => ?_); refine with_tabW flagstoneref09_Cut.tab10 flagstoneref09_Cut.bits10 (fun HT_ HW_ => ?_)
      generalize w66.drew = w67 at HO0_0 HO402 BK391 BK392 BK404 HB hHeld ⊢
      refine pure_ (i := 1) (N := some 46) (v := ?_) (a' := ?_) #[f_,t_,f_,f_,f_,f_,f_,f_,f_,f_,f_,f_,f_,f_,f_,f_,f_] rfl rfl (any_of HT_.out (by kernel_rfl)) (fun _ _ _ h => h) (Or.inl ⟨by rfl, ?_⟩) ?_ ?_
      rotate_left
      ·intro w'
       go_simp
       with_reducible rfl
      rotate_left
      ·simp only [Act.put, La_, Lb_, Lc_, i64_w, i32_w]
       rfl
      refine pure_ (i := 3) (N := some 48) (v := ?_) (a' := ?_) #[f_,t_,f_,t_,f_,f_,f_,f_,f_,f_,f_,f_,f_,f_,f_,f_,f_] rfl rfl (any_of HT_.out (by kernel_rfl)) (fun _ _ _ h => h) (Or.inl ⟨by rfl, ?_⟩) ?_ ?_
      rotate_left
      ·intro w'
       go_simp
       with_reducible rfl
      rotate_left
      ·simp only [Act.put, La_, Lb_, Lc_, i64_w, i32_w]
       rfl
      refine pure_ (i := 5) (N := some 50) (v := ?_) (a' := ?_) #[f_,t_,f_,t_,f_,t_,f_,f_,f_,f_,f_,f_,f_,f_,f_,f_,f_] rfl rfl (any_of HT_.out (by kernel_rfl)) (fun _ _ _ h => h) (Or.inl ⟨by rfl, ?_⟩) ?_ ?_
      rotate_left
      ·intro w'
       go_simp
       with_reducible rfl
      rotate_left
      ·simp only [Act.put, La_, Lb_, Lc_, i64_w, i32_w]
       rfl
      refine pure_ (i := 6) (N := some 51) (v := ?_) (a' := ?_) #[f_,t_,f_,t_,f_,t_,t_,f_,f_,f_,f_,f_,f_,f_,f_,f_,f_] rfl rfl (any_of HT_.out (by kernel_rfl)) (fun _ _ _ h => h) (Or.inl ⟨by rfl, ?_⟩) ?_ ?_
      rotate_left
      ·intro w'
       go_simp
       with_reducible rfl
      rotate_left
      ·simp only [Act.put, La_, Lb_, Lc_, i64_w, i32_w]
       rfl
      refine take_ (i := 0) (N := some 45) (v := ?_) (a' := ?_) #[t_,t_,f_,t_,f_,t_,t_,f_,f_,f_,f_,f_,f_,f_,f_,f_,f_] rfl rfl (take_ofW HT_.out HW_.out (by kernel_rfl)) (fun _ _ _ h => h) (Or.inl ⟨by rfl, ?_⟩) hHeld ?_ ?_
      rotate_left
      ·rintro w' ⟨s0, s1, s2, s3, s4, s5, s6, s7, s8, s9, s10⟩
       go_simp
       with_reducible rfl
      rotate_left
      ·simp only [Act.put, La_, Lb_, Lc_, i64_w, i32_w]
       rfl
      refine take_ (i := 2) (N := some 47) (v := ?_) (a' := ?_) #[t_,t_,t_,t_,f_,t_,t_,f_,f_,f_,f_,f_,f_,f_,f_,f_,f_] rfl rfl (take_ofW HT_.out HW_.out (by kernel_rfl)) (fun _ _ _ h => h) (Or.inl ⟨by rfl, ?_⟩) hHeld ?_ ?_
      rotate_left
      ·rintro w' ⟨s0, s1, s2, s3, s4, s5, s6, s7, s8, s9, s10⟩
       go_simp
       with_reducible rfl
      rotate_left
      ·simp only [Act.put, La_, Lb_, Lc_, i64_w, i32_w]
       rfl
      refine take_ (i := 4) (N := some 49) (v := ?_) (a' := ?_) #[t_,t_,t_,t_,t_,t_,t_,f_,f_,f_,f_,f_,f_,f_,f_,f_,f_] rfl rfl (take_ofW HT_.out HW_.out (by kernel_rfl)) (fun _ _ _ h => h) (Or.inl ⟨by rfl, ?_⟩) hHeld ?_ ?_
      rotate_left
      ·rintro w' ⟨s0, s1, s2, s3, s4, s5, s6, s7, s8, s9, s10⟩
       go_simp
       with_reducible rfl
      rotate_left
      ·simp only [Act.put, La_, Lb_, Lc_, i64_w, i32_w]
       rfl
      refine take_ (i := 7) (N := some 52) (v := ?_) (a' := ?_) #[t_,t_,t_,t_,t_,t_,t_,t_,f_,f_,f_,f_,f_,f_,f_,f_,f_] rfl rfl (take_ofW HT_.out HW_.out (by kernel_rfl)) (fun _ _ _ h => h) (Or.inl ⟨by rfl, ?_⟩) hHeld ?_ ?_
      rotate_left
      ·rintro w' ⟨s0, s1, s2, s3, s4, s5, s6, s7, s8, s9, s10⟩
       go_simp
       with_reducible rfl
      rotate_left
      ·simp only [Act.put, La_, Lb_, Lc_, i64_w, i32_w]
       rfl
      refine pure_ (i := 8) (N := some 53) (v := ?_) (a' := ?_) #[t_,t_,t_,t_,t_,t_,t_,t_,t_,f_,f_,f_,f_,f_,f_,f_,f_] rfl rfl (any_of HT_.out (by kernel_rfl)) (fun _ _ _ h => h) (Or.inl ⟨by rfl, ?_⟩) ?_ ?_
      rotate_left
      ·intro w'
       go_simp
       with_reducible rfl
      rotate_left
      ·simp only [Act.put, La_, Lb_, Lc_, i64_w, i32_w]
       rfl
      refine pure_ (i := 9) (N := some 54) (v := ?_) (a' := ?_) #[t_,t_,t_,t_,t_,t_,t_,t_,t_,t_,f_,f_,f_,f_,f_,f_,f_] rfl rfl (any_of HT_.out (by kernel_rfl)) (fun _ _ _ h => h) (Or.inl ⟨by rfl, ?_⟩) ?_ ?_
      rotate_left
      ·intro w'
       go_simp
       with_reducible rfl
      rotate_left
      ·simp only [Act.put, La_, Lb_, Lc_, i64_w, i32_w]
       rfl
      refine one_ (i := 10) (N := some 55) #[t_,t_,t_,t_,t_,t_,t_,t_,t_,t_,t_,f_,f_,f_,f_,f_,f_] rfl rfl (one_of HT_.out (by kernel_rfl)) (by decide) (fun K hK => ?_)
      refine goes_ Try.func29 (by kernel_rfl) rfl #[.int .i64 (wrap64 (a2 - (t399.size : Int)))] (by rfl) rfl rfl (by (try simp only [List.map_toArray, List.map_cons, List.map_nil]); first | done | rfl | (simp only [ByteArray.size_append]; rfl) | (simp only [List.length_drop, List.length_take]; rfl)) ?_
      with_reducible refine (flagstoneref09_noughts.calls k (wrap64 (a2 - (t399.size : Int))) t411 _ A53.out).mono ?_
      rintro e w' ⟨rfl, ⟨nd, rfl⟩⟩
      refine ⟨_, rfl, ?_⟩
      refine hK.out _ _ ⟨(Bc_ BK391.out 0).trans rfl, (Bc_ BK391.out 1).trans rfl, (Bc_ BK391.out 2).trans rfl, (Bc_ BK404.out 0).trans rfl, (Bc_ BK404.out 1).trans rfl, (Bc_ BK404.out 2).trans rfl, (Bc_ BK404.out 3).trans rfl, (Bc_ BK404.out 4).trans rfl, (Bc_ BK404.out 5).trans rfl, (Bc_ BK404.out 6).trans rfl, (Bc_ BK404.out 7).trans rfl⟩ (fun hHeld => ?_)
      clear hK K
      refine norm_ (a' := ?_) ?_ ?_
      rotate_left
      ·show Act.put _ (some 55) _ = _
       simp only [Act.put, La_, Lb_, Lc_, i64_w, i32_w]
       rfl
      refine pure_ (i := 11) (N := some 56) (v := ?_) (a' := ?_) #[t_,t_,t_,t_,t_,t_,t_,t_,t_,t_,t_,t_,f_,f_,f_,f_,f_] rfl rfl (any_of HT_.out (by kernel_rfl)) (fun _ _ _ h => h) (Or.inl ⟨by rfl, ?_⟩) ?_ ?_
      rotate_left
      ·intro w'
       go_simp
       with_reducible rfl
      rotate_left
      ·simp only [Act.put, La_, Lb_, Lc_, i64_w, i32_w]
       rfl
      refine one_ (i := 12) (N := some 57) #[t_,t_,t_,t_,t_,t_,t_,t_,t_,t_,t_,t_,t_,f_,f_,f_,f_] rfl rfl (one_of HT_.out (by kernel_rfl)) (by decide) (fun K hK => ?_)
      refine goes_ Try.func30 (by kernel_rfl) rfl #[.agg #[.slice A0_0 l0_0.length c0_0, .int .i64 a0_1, .int .i64 a0_2], .int .i64 a1, .agg #[.int .i64 t393, .int .i64 t394, .int .i64 t395, .int .i64 t396, .int .i64 t397, .int .i64 t398, .string t399, .slice Ao65 t400.length co65], .string (t399 ++ t411)] (by rfl) rfl rfl (by (try simp only [List.map_toArray, List.map_cons, List.map_nil]); first | done | rfl | (simp only [ByteArray.size_append]; rfl) | (simp only [List.length_drop, List.length_take]; rfl)) ?_
      with_reducible refine (flagstoneref09_kept.calls k (fun k_ => ((P0_0_ k_ ∨ w.heap.size ≤ k_) ∧ (k_ ≠ gb391 ∧ (k_ ≠ gb392 ∧ k_ ≠ gb404)))) _ _ l0_0 a0_1 a0_2 a1 t393 t394 t395 t396 t397 t398 t399 (fun k_ => ((P0_0_ k_ ∨ w.heap.size ≤ k_) ∧ (k_ ≠ gb391 ∧ (k_ ≠ gb392 ∧ k_ ≠ gb404)))) _ _ t400 (t399 ++ t411) t412 t415 t416 t417 _ ?side1 ?side2 A55.out).mono ?_
      (case side1 => exact HO0_0.out)
      (case side2 => exact HO402.out)
      rintro e w68 ⟨v413, rfl, ho0, hb⟩
      refine ⟨_, rfl, ?_⟩
      have n0_ := Am_ (Vb_ (Pv_ HO0_0.out) hb)
      have n1_ := Am_ (Vb_ (Pv_ HO402.out) hb)
      have n2_ := Am_ (Vl_ (Vm_ (ok' := fun k_ => (P0_0_ k_ ∨ w.heap.size ≤ k_) ∧ k_ ≠ gb391 ∧ k_ ≠ gb392 ∧ k_ ≠ gb404) ho0 (fun k_ hk_ => ⟨Or.elim hk_ (fun hs_ => Or.elim hs_ (fun hs_ => hs_.1) (fun hs_ => hs_.1)) (fun hn_ => (.inr (Nat.le_trans (Bz_ (Pb3_ HB.out GE391.out GE392.out GE404.out)) hn_))), Or.elim hk_ (fun hs_ => Or.elim hs_ (fun hs_ => hs_.2.1) (fun hs_ => hs_.2.1)) (fun hn_ => (Kd.freshB (g := gb391) (o := .cells #[.slice A0_0 l0_0.length c0_0, .int .i64 a0_1, .int .i64 a0_2] 33 (0, 0)) (Pk_ BK391.out) k_ hn_)), Or.elim hk_ (fun hs_ => Or.elim hs_ (fun hs_ => hs_.2.2.1) (fun hs_ => hs_.2.2.1)) (fun hn_ => (Kd.freshB (g := gb392) (o := .cells #[.slice none 0 0, .int .i64 0, .int .i64 0] 33 (0, 0)) (Pk_ BK392.out) k_ hn_)), Or.elim hk_ (fun hs_ => Or.elim hs_ (fun hs_ => hs_.2.2.2) (fun hs_ => hs_.2.2.2)) (fun hn_ => (Kd.freshB (g := gb404) (o := .cells #[.int .i64 t393, .int .i64 t394, .int .i64 t395, .int .i64 t396, .int .i64 t397, .int .i64 t398, .string t399, .slice Ao65 t400.length co65] 53 (0, 0)) (Pk_ BK404.out) k_ hn_))⟩)) (Bz_ (Pb3_ HB.out GE391.out GE392.out GE404.out)))
      have n3_ := Am_ (Bb_ (g := gb391) (o := .cells #[.slice A0_0 l0_0.length c0_0, .int .i64 a0_1, .int .i64 a0_2] 33 (0, 0)) (Pk_ BK391.out) hb)
      have n4_ := Am_ (Bb_ (g := gb392) (o := .cells #[.slice none 0 0, .int .i64 0, .int .i64 0] 33 (0, 0)) (Pk_ BK392.out) hb)
      have n5_ := Am_ (Bb_ (g := gb404) (o := .cells #[.int .i64 t393, .int .i64 t394, .int .i64 t395, .int .i64 t396, .int .i64 t397, .int .i64 t398, .string t399, .slice Ao65 t400.length co65] 53 (0, 0)) (Pk_ BK404.out) hb)
      have n6_ := Am_ (Be_ (Pb3_ HB.out GE391.out GE392.out GE404.out) hb)
      clear HO0_0
      clear HO402
      clear BK391
      clear BK392
      clear BK404
      clear HB
      have HO0_0 := n0_
      have HO402 := n1_
      have HO414 := n2_
      have BK391 := n3_
      have BK392 := n4_
      have BK404 := n5_
      have HB := n6_
      clear n0_ n1_ n2_ n3_ n4_ n5_ n6_
      (try clear hb)
      (try clear hb2)
      (try clear hk)
      (try clear hi)
      (try clear ho0)
      obtain ⟨Ao69, co69, eo69⟩ := Vx_ HO414.out
      (first | subst eo69 | (injection eo69 with f1_ f2_ f3_; have f4_ := f1_.symm; have f5_ := f3_.symm; clear f1_ f2_ f3_; subst f4_; subst f5_))
      refine hK.out _ _ ⟨(Bc_ BK391.out 0).trans rfl, (Bc_ BK391.out 1).trans rfl, (Bc_ BK391.out 2).trans rfl, (Bc_ BK404.out 0).trans rfl, (Bc_ BK404.out 1).trans rfl, (Bc_ BK404.out 2).trans rfl, (Bc_ BK404.out 3).trans rfl, (Bc_ BK404.out 4).trans rfl, (Bc_ BK404.out 5).trans rfl, (Bc_ BK404.out 6).trans rfl, (Bc_ BK404.out 7).trans rfl⟩ (fun hHeld => ?_)
      clear hK K
      refine norm_ (a' := ?_) ?_ ?_
      rotate_left
      ·show Act.put _ (some 57) _ = _
       simp only [Act.put, La_, Lb_, Lc_, i64_w, i32_w]
       rfl
      refine pure_ (i := 13) (N := some 58) (v := ?_) (a' := ?_) #[t_,t_,t_,t_,t_,t_,t_,t_,t_,t_,t_,t_,t_,t_,f_,f_,f_] rfl rfl (any_of HT_.out (by kernel_rfl)) (fun _ _ _ h => h) (Or.inl ⟨by rfl, ?_⟩) ?_ ?_
      rotate_left
      ·intro w'
       go_simp
       with_reducible rfl
      rotate_left
      ·simp only [Act.put, La_, Lb_, Lc_, i64_w, i32_w]
       rfl
      refine pure_ (i := 14) (N := some 59) (v := ?_) (a' := ?_) #[t_,t_,t_,t_,t_,t_,t_,t_,t_,t_,t_,t_,t_,t_,t_,f_,f_] rfl rfl (any_of HT_.out (by kernel_rfl)) (fun _ _ _ h => h) (Or.inl ⟨by rfl, ?_⟩) ?_ ?_
      rotate_left
      ·intro w'
       go_simp
       with_reducible rfl
      rotate_left
      ·simp only [Act.put, La_, Lb_, Lc_, i64_w, i32_w]
       rfl
      refine one_ (i := 15) (N := none) #[t_,t_,t_,t_,t_,t_,t_,t_,t_,t_,t_,t_,t_,t_,t_,t_,f_] rfl rfl (one_of HT_.out (by kernel_rfl)) (by decide) (fun K hK => ?_)
      have hs70 : w68.cell? ⟨gb392, 0, none⟩ = some (.slice none 0 0) := (Bc_ BK392.out 0).trans rfl
      have hfs70 := Bf_ BK392.out 0
      have hns70_0 := NB391_392.out
      have hns70_2 := NB404_392.out
      have hms70_0 := NB392_391.out
      have hms70_2 := NB392_404.out
      have hs71 : w68.cell? ⟨gb392, 1, none⟩ = some (.int .i64 0) := (Bc_ BK392.out 1).trans rfl
      have hfs71 := Bf_ BK392.out 1
      have hns71_0 := NB391_392.out
      have hns71_2 := NB404_392.out
      have hms71_0 := NB392_391.out
      have hms71_2 := NB392_404.out
      have hs72 : w68.cell? ⟨gb392, 2, none⟩ = some (.int .i64 0) := (Bc_ BK392.out 2).trans rfl
      have hfs72 := Bf_ BK392.out 2
      have hns72_0 := NB391_392.out
      have hns72_2 := NB404_392.out
      have hms72_0 := NB392_391.out
      have hms72_2 := NB392_404.out
      refine skip_ (w1 := ?_) (by rfl) rfl ?_ ?_
      rotate_left
      ·go_simp
       rfl
      refine hK.out _ _ ⟨((Cf_ (p := ⟨gb392, _, none⟩) NB391_392.out _).trans (((Cf_ (p := ⟨gb392, _, none⟩) NB391_392.out _).trans (((Cf_ (p := ⟨gb392, _, none⟩) NB391_392.out _).trans (hHeld.1)))))), ((Cf_ (p := ⟨gb392, _, none⟩) NB391_392.out _).trans (((Cf_ (p := ⟨gb392, _, none⟩) NB391_392.out _).trans (((Cf_ (p := ⟨gb392, _, none⟩) NB391_392.out _).trans (hHeld.2.1)))))), ((Cf_ (p := ⟨gb392, _, none⟩) NB391_392.out _).trans (((Cf_ (p := ⟨gb392, _, none⟩) NB391_392.out _).trans (((Cf_ (p := ⟨gb392, _, none⟩) NB391_392.out _).trans (hHeld.2.2.1)))))), ((Cf_ (p := ⟨gb392, _, none⟩) NB404_392.out _).trans (((Cf_ (p := ⟨gb392, _, none⟩) NB404_392.out _).trans (((Cf_ (p := ⟨gb392, _, none⟩) NB404_392.out _).trans (hHeld.2.2.2.1)))))), ((Cf_ (p := ⟨gb392, _, none⟩) NB404_392.out _).trans (((Cf_ (p := ⟨gb392, _, none⟩) NB404_392.out _).trans (((Cf_ (p := ⟨gb392, _, none⟩) NB404_392.out _).trans (hHeld.2.2.2.2.1)))))), ((Cf_ (p := ⟨gb392, _, none⟩) NB404_392.out _).trans (((Cf_ (p := ⟨gb392, _, none⟩) NB404_392.out _).trans (((Cf_ (p := ⟨gb392, _, none⟩) NB404_392.out _).trans (hHeld.2.2.2.2.2.1)))))), ((Cf_ (p := ⟨gb392, _, none⟩) NB404_392.out _).trans (((Cf_ (p := ⟨gb392, _, none⟩) NB404_392.out _).trans (((Cf_ (p := ⟨gb392, _, none⟩) NB404_392.out _).trans (hHeld.2.2.2.2.2.2.1)))))), ((Cf_ (p := ⟨gb392, _, none⟩) NB404_392.out _).trans (((Cf_ (p := ⟨gb392, _, none⟩) NB404_392.out _).trans (((Cf_ (p := ⟨gb392, _, none⟩) NB404_392.out _).trans (hHeld.2.2.2.2.2.2.2.1)))))), ((Cf_ (p := ⟨gb392, _, none⟩) NB404_392.out _).trans (((Cf_ (p := ⟨gb392, _, none⟩) NB404_392.out _).trans (((Cf_ (p := ⟨gb392, _, none⟩) NB404_392.out _).trans (hHeld.2.2.2.2.2.2.2.2.1)))))), ((Cf_ (p := ⟨gb392, _, none⟩) NB404_392.out _).trans (((Cf_ (p := ⟨gb392, _, none⟩) NB404_392.out _).trans (((Cf_ (p := ⟨gb392, _, none⟩) NB404_392.out _).trans (hHeld.2.2.2.2.2.2.2.2.2.1)))))), ((Cf_ (p := ⟨gb392, _, none⟩) NB404_392.out _).trans (((Cf_ (p := ⟨gb392, _, none⟩) NB404_392.out _).trans (((Cf_ (p := ⟨gb392, _, none⟩) NB404_392.out _).trans (hHeld.2.2.2.2.2.2.2.2.2.2))))))⟩ (fun hHeld => ?_)
      clear hK K
      refine pure_ (i := 16) (N := some 7) (v := ?_) (a' := ?_) #[t_,t_,t_,t_,t_,t_,t_,t_,t_,t_,t_,t_,t_,t_,t_,t_,t_] rfl rfl (any_of HT_.out (by kernel_rfl)) (fun _ _ _ h => h) (Or.inl ⟨by rfl, ?_⟩) ?_ ?_
      rotate_left
      ·intro w'
       go_simp
       with_reducible rfl
      rotate_left
      ·simp only [Act.put, La_, Lb_, Lc_, i64_w, i32_w]
       rfl
      refine done_ (done_of HT_.out (by kernel_rfl)) ?_
      try go_wp2
      refine bodyPost_ret (results_ct rfl _ _ gb392 33 #[.slice Ao69 t412.length co69, .int .i64 t415, .int .i64 t416] (0, 0) _ rfl (by (with_reducible repeat (first | refine Bn_ ?_ _ | refine Bd_ ?_ | refine Ba_ ?_ _)); refine Bp_ (cs := #[.slice Ao69 t412.length co69, .int .i64 t415, .int .i64 0]) ?_ 2 _ rfl; (with_reducible repeat (first | refine Bn_ ?_ _ | refine Bd_ ?_ | refine Ba_ ?_ _)); refine Bp_ (cs := #[.slice Ao69 t412.length co69, .int .i64 0, .int .i64 0]) ?_ 1 _ rfl; (with_reducible repeat (first | refine Bn_ ?_ _ | refine Bd_ ?_ | refine Ba_ ?_ _)); refine Bp_ (cs := #[.slice none 0 0, .int .i64 0, .int .i64 0]) ?_ 0 _ rfl; (with_reducible repeat (first | refine Bn_ ?_ _ | refine Bd_ ?_ | refine Ba_ ?_ _)); exact BK392.out) Try.underlying33 rfl (by kernel_rfl)) rfl ?_
      exact ⟨_, by first | rfl | (simp [errW_none, errW_some] <;> rfl) | (simp [*, errW_none, errW_some] <;> rfl), by (with_reducible repeat (first | apply Va_ | apply Vn_ | apply Vd_)); exact Vm_ (Vf_ (p := ⟨gb392, 2, none⟩) (Vf_ (p := ⟨gb392, 1, none⟩) (Vf_ (p := ⟨gb392, 0, none⟩) (Vm_ HO414.out (fun k_ hk => (⟨hk, hk.2.2.1⟩ : _ ∧ k_ ≠ gb392))) (fun _ hk => hk.2) (.slice Ao69 t412.length co69)) (fun _ hk => hk.2) (.int .i64 t415)) (fun _ hk => hk.2) (.int .i64 t416)) (fun _ hk => hk.1.1), by repeat (first | (with_reducible first | exact HB.out | apply Pa_ | apply Pn_ | apply Pd_ | refine Bs_ ?_ GE391.out | refine Bs_ ?_ GE392.out | refine Bs_ ?_ GE404.out) | exact HB.out)⟩
     ·rw [if_neg c54] at H
      exact absurd H (by simp)
 ·rw [if_neg c5] at H
  have c5b0 : (t403 == 0) = false := beq_eq_false_iff_ne.mpr c5
  have c5b1 : (t403 != 0) = true := bne_iff_ne.mpr c5
  simp only [Option.some.injEq, Prod.mk.injEq] at H
  obtain ⟨rfl, rfl, rfl, rfl⟩ := H
  go_enter Try.func19, Try.ntmps19
  go_wp2_with (first | ((with_reducible refine gate_dst (N := 3) rfl ?_); refine box_event ?hg (N := 3) ?hd (cs := #[.slice A0_0 l0_0.length c0_0, .int .i64 a0_1, .int .i64 a0_2]) (t := 33) ?hr ?_; (case hd => rfl); (case hg => rfl); (case hr => go_simp; try rfl); intro gb391 hg w73 hbox hb; have n0_ := Am_ (Vb_ (Ke_ (Pv_ HO0_0.out) gb391 (Nat.le_of_eq hg.symm)) hb); have n1_ := Am_ (Be_ (Pb0_ HB.out) hb); have n2_ := Am_ (hbox); have n3_ := Am_ ((by rw [hg]; exact (Bz_ (Pb0_ HB.out)) : w.heap.size ≤ gb391)); have n4_ := Am_ ((by rw [hg]; exact (Bz_ (Pb0_ HB.out)) : w.heap.size ≤ gb391)); clear HO0_0; clear HB; have HO0_0 := n0_; have HB := n1_; have BK391 := n2_; have GW391 := n3_; have GE391 := n4_; clear n0_ n1_ n2_ n3_ n4_; clear hb hbox hg) | ((with_reducible refine gate_dst (N := 6) rfl ?_); refine box_event ?hg (N := 6) ?hd (cs := #[.slice none 0 0, .int .i64 0, .int .i64 0]) (t := 33) ?hr ?_; (case hd => rfl); (case hg => rfl); (case hr => go_simp; try rfl); intro gb392 hg w74 hbox hb; have n0_ := Am_ (Vb_ (Ke_ (Pv_ HO0_0.out) gb392 (Nat.le_of_eq hg.symm)) hb); have n1_ := Am_ (Bb_ (g := gb391) (o := .cells #[.slice A0_0 l0_0.length c0_0, .int .i64 a0_1, .int .i64 a0_2] 33 (0, 0)) (Pk_ BK391.out) hb); have n2_ := Am_ (Be_ (Pb1_ HB.out GE391.out) hb); have n3_ := Am_ (hbox); have n4_ := Am_ ((by rw [hg]; exact (Bz_ (Pb1_ HB.out GE391.out)) : w.heap.size ≤ gb392)); have n5_ := Am_ ((by rw [hg]; exact (Bz_ (Pb1_ HB.out GE391.out)) : w.heap.size ≤ gb392)); have n6_ := Am_ ((by rw [hg]; exact Nat.ne_of_lt (blk_lt (g := gb391) (o := .cells #[.slice A0_0 l0_0.length c0_0, .int .i64 a0_1, .int .i64 a0_2] 33 (0, 0)) (Pk_ BK391.out)) : gb391 ≠ gb392)); have n7_ := Am_ ((by rw [hg]; exact Nat.ne_of_gt (blk_lt (g := gb391) (o := .cells #[.slice A0_0 l0_0.length c0_0, .int .i64 a0_1, .int .i64 a0_2] 33 (0, 0)) (Pk_ BK391.out)) : gb392 ≠ gb391)); clear HO0_0; clear BK391; clear HB; have HO0_0 := n0_; have BK391 := n1_; have HB := n2_; have BK392 := n3_; have GW392 := n4_; have GE392 := n5_; have NB391_392 := n6_; have NB392_391 := n7_; clear n0_ n1_ n2_ n3_ n4_ n5_ n6_ n7_; clear hb hbox hg; have hnb75 := NB391_392.out; have hnc75 := NB392_391.out; obtain ⟨hcz76_0, hcz76_1, hcz76_2, hfz76_0, hfz76_1, hfz76_2⟩ := Ce3_ BK391.out) | ((with_reducible refine gate_callee (f := 25) rfl ?_); refine goesL_ (some 13) rfl rfl Try.func25 (by kernel_rfl) rfl #[.agg #[.slice A0_0 l0_0.length c0_0, .int .i64 a0_1, .int .i64 a0_2], .int .i64 a1] rfl (by (try simp only [List.map_toArray, List.map_cons, List.map_nil]); first | done | rfl | (simp only [ByteArray.size_append]; rfl) | (simp only [List.length_drop, List.length_take]; rfl)) ?_; (with_reducible refine (flagstoneref09_file.calls (fun k_ => (((P0_0_ k_ ∨ w.heap.size ≤ k_) ∧ k_ ≠ gb391) ∧ k_ ≠ gb392)) _ _ l0_0 a0_1 a0_2 a1 t393 t394 t395 t396 t397 t398 t399 t400 t403 _ ?side1 A4.out).mono ?_); (case side1 => exact HO0_0.out); rintro e w77 ⟨v401, rfl, ho0, hb⟩; refine ⟨_, rfl, ?_⟩; have n0_ := Am_ (Vb_ (Pv_ HO0_0.out) hb); have n1_ := Am_ (Vl_ (Vm_ (ok' := fun k_ => (P0_0_ k_ ∨ w.heap.size ≤ k_) ∧ k_ ≠ gb391 ∧ k_ ≠ gb392) ho0 (fun k_ hk_ => ⟨Or.elim hk_ (fun hs_ => hs_.1.1) (fun hn_ => (.inr (Nat.le_trans (Bz_ (Pb2_ HB.out GE391.out GE392.out)) hn_))), Or.elim hk_ (fun hs_ => hs_.1.2) (fun hn_ => (Kd.freshB (g := gb391) (o := .cells #[.slice A0_0 l0_0.length c0_0, .int .i64 a0_1, .int .i64 a0_2] 33 (0, 0)) (Pk_ BK391.out) k_ hn_)), Or.elim hk_ (fun hs_ => hs_.2) (fun hn_ => (Kd.freshB (g := gb392) (o := .cells #[.slice none 0 0, .int .i64 0, .int .i64 0] 33 (0, 0)) (Pk_ BK392.out) k_ hn_))⟩)) (Bz_ (Pb2_ HB.out GE391.out GE392.out))); have n2_ := Am_ (Bb_ (g := gb391) (o := .cells #[.slice A0_0 l0_0.length c0_0, .int .i64 a0_1, .int .i64 a0_2] 33 (0, 0)) (Pk_ BK391.out) hb); have n3_ := Am_ (Bb_ (g := gb392) (o := .cells #[.slice none 0 0, .int .i64 0, .int .i64 0] 33 (0, 0)) (Pk_ BK392.out) hb); have n4_ := Am_ (Be_ (Pb2_ HB.out GE391.out GE392.out) hb); clear HO0_0; clear BK391; clear BK392; clear HB; have HO0_0 := n0_; have HO402 := n1_; have BK391 := n2_; have BK392 := n3_; have HB := n4_; clear n0_ n1_ n2_ n3_ n4_; (try clear hb); (try clear hb2); (try clear hk); (try clear hi); (try clear ho0)) | ((with_reducible refine gate_dst (N := 8) rfl ?_); refine box_event ?hg (N := 8) ?hd (cs := #[.int .i64 0, .int .i64 0, .int .i64 0, .int .i64 0, .int .i64 0, .int .i64 0, .string (⟨#[]⟩ : ByteArray), .slice none 0 0]) (t := 53) ?hr ?_; (case hd => rfl); (case hg => rfl); (case hr => go_simp; try rfl); intro gb404 hg w78 hbox hb; have n0_ := Am_ (Vb_ (Ke_ (Pv_ HO0_0.out) gb404 (Nat.le_of_eq hg.symm)) hb); have n1_ := Am_ (Vb_ (Ke_ (Pv_ HO402.out) gb404 (Nat.le_of_eq hg.symm)) hb); have n2_ := Am_ (Bb_ (g := gb391) (o := .cells #[.slice A0_0 l0_0.length c0_0, .int .i64 a0_1, .int .i64 a0_2] 33 (0, 0)) (Pk_ BK391.out) hb); have n3_ := Am_ (Bb_ (g := gb392) (o := .cells #[.slice none 0 0, .int .i64 0, .int .i64 0] 33 (0, 0)) (Pk_ BK392.out) hb); have n4_ := Am_ (Be_ (Pb2_ HB.out GE391.out GE392.out) hb); have n5_ := Am_ (hbox); have n6_ := Am_ ((by rw [hg]; exact (Bz_ (Pb2_ HB.out GE391.out GE392.out)) : w.heap.size ≤ gb404)); have n7_ := Am_ ((by rw [hg]; exact (Bz_ (Pb2_ HB.out GE391.out GE392.out)) : w.heap.size ≤ gb404)); have n8_ := Am_ ((by rw [hg]; exact Nat.ne_of_lt (blk_lt (g := gb391) (o := .cells #[.slice A0_0 l0_0.length c0_0, .int .i64 a0_1, .int .i64 a0_2] 33 (0, 0)) (Pk_ BK391.out)) : gb391 ≠ gb404)); have n9_ := Am_ ((by rw [hg]; exact Nat.ne_of_gt (blk_lt (g := gb391) (o := .cells #[.slice A0_0 l0_0.length c0_0, .int .i64 a0_1, .int .i64 a0_2] 33 (0, 0)) (Pk_ BK391.out)) : gb404 ≠ gb391)); have n10_ := Am_ ((by rw [hg]; exact Nat.ne_of_lt (blk_lt (g := gb392) (o := .cells #[.slice none 0 0, .int .i64 0, .int .i64 0] 33 (0, 0)) (Pk_ BK392.out)) : gb392 ≠ gb404)); have n11_ := Am_ ((by rw [hg]; exact Nat.ne_of_gt (blk_lt (g := gb392) (o := .cells #[.slice none 0 0, .int .i64 0, .int .i64 0] 33 (0, 0)) (Pk_ BK392.out)) : gb404 ≠ gb392)); clear HO0_0; clear HO402; clear BK391; clear BK392; clear HB; have HO0_0 := n0_; have HO402 := n1_; have BK391 := n2_; have BK392 := n3_; have HB := n4_; have BK404 := n5_; have GW404 := n6_; have GE404 := n7_; have NB391_404 := n8_; have NB404_391 := n9_; have NB392_404 := n10_; have NB404_392 := n11_; clear n0_ n1_ n2_ n3_ n4_ n5_ n6_ n7_ n8_ n9_ n10_ n11_; clear hb hbox hg; have hnb79 := NB404_391.out; have hnc79 := NB391_404.out; have hnb80 := NB404_392.out; have hnc80 := NB392_404.out; obtain ⟨hcz81_0, hcz81_1, hcz81_2, hcz81_3, hcz81_4, hcz81_5, hcz81_6, hcz81_7, hfz81_0, hfz81_1, hfz81_2, hfz81_3, hfz81_4, hfz81_5, hfz81_6, hfz81_7⟩ := Ce8_ BK404.out; obtain ⟨Ao82, co82, eo82⟩ := Vx_ HO402.out; subst eo82; obtain ⟨hcz83_0, hcz83_1, hcz83_2, hfz83_0, hfz83_1, hfz83_2⟩ := Ce3_ BK391.out; obtain ⟨hcz84_0, hcz84_1, hcz84_2, hfz84_0, hfz84_1, hfz84_2⟩ := Ce3_ BK392.out))
  refine bodyPost_ret (results_ct rfl _ _ gb392 33 #[.slice A0_0 l0_0.length c0_0, .int .i64 a0_1, .int .i64 a0_2] (0, 0) _ rfl (by (with_reducible repeat (first | refine Bn_ ?_ _ | refine Bd_ ?_ | refine Ba_ ?_ _)); refine Bp_ (cs := #[.slice A0_0 l0_0.length c0_0, .int .i64 a0_1, .int .i64 0]) ?_ 2 _ rfl; (with_reducible repeat (first | refine Bn_ ?_ _ | refine Bd_ ?_ | refine Ba_ ?_ _)); refine Bp_ (cs := #[.slice A0_0 l0_0.length c0_0, .int .i64 0, .int .i64 0]) ?_ 1 _ rfl; (with_reducible repeat (first | refine Bn_ ?_ _ | refine Bd_ ?_ | refine Ba_ ?_ _)); refine Bp_ (cs := #[.slice none 0 0, .int .i64 0, .int .i64 0]) ?_ 0 _ rfl; (with_reducible repeat (first | refine Bn_ ?_ _ | refine Bd_ ?_ | refine Ba_ ?_ _)); refine blk_far ?_ NB392_404.out _; (with_reducible repeat (first | refine Bn_ ?_ _ | refine Bd_ ?_ | refine Ba_ ?_ _)); refine blk_far ?_ NB392_404.out _; (with_reducible repeat (first | refine Bn_ ?_ _ | refine Bd_ ?_ | refine Ba_ ?_ _)); refine blk_far ?_ NB392_404.out _; (with_reducible repeat (first | refine Bn_ ?_ _ | refine Bd_ ?_ | refine Ba_ ?_ _)); refine blk_far ?_ NB392_404.out _; (with_reducible repeat (first | refine Bn_ ?_ _ | refine Bd_ ?_ | refine Ba_ ?_ _)); refine blk_far ?_ NB392_404.out _; (with_reducible repeat (first | refine Bn_ ?_ _ | refine Bd_ ?_ | refine Ba_ ?_ _)); refine blk_far ?_ NB392_404.out _; (with_reducible repeat (first | refine Bn_ ?_ _ | refine Bd_ ?_ | refine Ba_ ?_ _)); refine blk_far ?_ NB392_404.out _; (with_reducible repeat (first | refine Bn_ ?_ _ | refine Bd_ ?_ | refine Ba_ ?_ _)); refine blk_far ?_ NB392_404.out _; (with_reducible repeat (first | refine Bn_ ?_ _ | refine Bd_ ?_ | refine Ba_ ?_ _)); exact BK392.out) Try.underlying33 rfl (by kernel_rfl)) rfl ?_
  exact ⟨_, by first | rfl | (simp [errW_none, errW_some] <;> rfl) | (simp [*, errW_none, errW_some] <;> rfl), by (with_reducible repeat (first | apply Va_ | apply Vn_ | apply Vd_)); exact Vm_ (Vf_ (p := ⟨gb392, 2, none⟩) (Vf_ (p := ⟨gb392, 1, none⟩) (Vf_ (p := ⟨gb392, 0, none⟩) (Vf_ (p := ⟨gb404, 7, none⟩) (Vf_ (p := ⟨gb404, 6, none⟩) (Vf_ (p := ⟨gb404, 5, none⟩) (Vf_ (p := ⟨gb404, 4, none⟩) (Vf_ (p := ⟨gb404, 3, none⟩) (Vf_ (p := ⟨gb404, 2, none⟩) (Vf_ (p := ⟨gb404, 1, none⟩) (Vf_ (p := ⟨gb404, 0, none⟩) (Vm_ (Vm_ HO0_0.out (fun k_ hk => (⟨hk, hk.2⟩ : _ ∧ k_ ≠ gb404))) (fun k_ hk => (⟨hk, hk.1.1.2⟩ : _ ∧ k_ ≠ gb392))) (fun _ hk => hk.1.2) (.int .i64 t393)) (fun _ hk => hk.1.2) (.int .i64 t394)) (fun _ hk => hk.1.2) (.int .i64 t395)) (fun _ hk => hk.1.2) (.int .i64 t396)) (fun _ hk => hk.1.2) (.int .i64 t397)) (fun _ hk => hk.1.2) (.int .i64 t398)) (fun _ hk => hk.1.2) (.string t399)) (fun _ hk => hk.1.2) (.slice Ao82 t400.length co82)) (fun _ hk => hk.2) (.slice A0_0 l0_0.length c0_0)) (fun _ hk => hk.2) (.int .i64 a0_1)) (fun _ hk => hk.2) (.int .i64 a0_2)) (fun _ hk => hk.1.1.1.1.1), by repeat (first | (with_reducible first | exact HB.out | apply Pa_ | apply Pn_ | apply Pd_ | refine Bs_ ?_ GE391.out | refine Bs_ ?_ GE392.out | refine Bs_ ?_ GE404.out) | exact HB.out)⟩

end Go.Proofs.Ytpeelfambaedkaa.P
