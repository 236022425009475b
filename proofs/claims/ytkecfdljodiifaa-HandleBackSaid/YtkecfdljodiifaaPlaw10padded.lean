-- Printed by a program of this session (inject.py) over the kit's print, with functions that were proved by hand in their places.
import Derived.Test.YtkecfdljodiifaaPK
import Derived.Test.YtkecfdljodiifaaPlaw10its
namespace Go.Proofs.Ytkecfdljodiifaa.P
open Go.RowKit Go.Proofs.YtkecfdljodiifaaW.PrintWords Go.Proofs.YtkecfdljodiifaaW.PrintLast Go.Proofs.YtkecfdljodiifaaW.PrintMore
attribute [local go_sem] max2_int min2_int max_two min_two max_three min_three max_four min_four   -- for this text's walks alone
set_option linter.unusedVariables false
set_option linter.unusedSimpArgs false

/-! ### flagstonelaw10_padded: function 23 -/
def flagstonelaw10_padded.f (k : Nat) (l0_0 : List (S38)) (l0_1 : List (List Int)) (a1 : Int) : Option ((List (S54)) × (List (List Int))) := (flagstonelaw10_its.f k l0_0 l0_1).bind fun bt634 => (if a1 = (bt634.1.length : Int) then ((some (([] : List (S54)) : List (S54))).bind fun y641 => (if y641.length + bt634.1.length < 3518437208883 then ((some (y641 ++ bt634.1 : List (S54))).bind fun y644 => (if y644.length < 3518437208883 then (some ((y644 ++ [(⟨0, 0, false, false, 0, 0⟩ : S54)]), l0_1)) else (none))) else (none))) else (some (bt634.1, bt634.2)))
theorem flagstonelaw10_padded.mono : ∀ a0 a1 a2 k, LeO (flagstonelaw10_padded.f k a0 a1 a2) (flagstonelaw10_padded.f (k + 1) a0 a1 a2) := by
 intro a0 a1 a2 k
 unfold flagstonelaw10_padded.f
 repeat' first
   | (with_reducible exact flagstonelaw10_its.mono _ _ _)
   | (with_reducible exact LeO.refl _)
   | (with_reducible exact LeO.none _)
   | (with_reducible refine LeO.ite ?_ ?_)
   | (with_reducible refine LeO.bind ?_ (fun _ => ?_))
   | exact flagstonelaw10_its.mono _ _ _
   | exact LeO.none _
   | refine LeO.ite ?_ ?_
   | refine LeO.bind ?_ (fun _ => ?_)
def flagstonelaw10_padded.T5 : Bool × List (List Nat × List Nat) := (true, [([], []), ([], []), ([1], [1]), ([0, 2], [0, 2]), ([], []), ([4], [4]), ([3, 5], [3, 5]), ([6, 3, 0, 1, 2, 3, 4, 5, 6], [6])])
def flagstonelaw10_padded.B5 : List Nat := [0, 0, 2, 7, 0, 16, 63, 127]
theorem flagstonelaw10_padded.tab5 : rtab .any (opsOf Try.f23 5) = flagstonelaw10_padded.T5 := by kernel_rfl
theorem flagstonelaw10_padded.bits5 : waitsOk flagstonelaw10_padded.T5.2 flagstonelaw10_padded.B5 = true := by kernel_rfl
set_option maxHeartbeats 8000000 in
set_option maxRecDepth 100000 in
theorem flagstonelaw10_padded.calls (k : Nat) (A0_0 : Option Addr) (c0_0 : Nat) (l0_0 : List (S38)) (P0_1_ : Nat → Prop) (A0_1 : Option Addr) (c0_1 : Nat) (l0_1 : List (List Int)) (a1 : Int) (r1 : List (S54)) (r2 : List (List Int)) (w : World) (hr0_0 : Kd.C k38 w A0_0 l0_0.length l0_0) (hc0_0 : l0_0.length ≤ c0_0) (hs0_1 : Kd.V (Kd.slice 3 (Kd.int .i64)) 64 w w.heap.size (fun k_ => P0_1_ k_) (.slice A0_1 l0_1.length c0_1) l0_1) (h : flagstonelaw10_padded.f k l0_0 l0_1 a1 = some (r1, r2)) :
  Calls Try.prog 23 #[.agg #[.slice A0_0 l0_0.length c0_0, .slice A0_1 l0_1.length c0_1], .int .i64 a1] w fun e w' => ∃ v0_ v1_ : Value, e = .returned (.agg #[v0_, v1_]) ∧ Kd.R k54 54 w' w.heap.size (fun k_ => (w.heap.size ≤ k_)) v0_ r1 ∧ Kd.V (Kd.slice 3 (Kd.int .i64)) 64 w' w.heap.size (fun k_ => (P0_1_ k_ ∨ w.heap.size ≤ k_) ∧ some k_ ≠ (v0_ : Value).ownBlock) v1_ r2 ∧ Below w.heap.size w w' := by
 have hu25 := Try.underlying25
 have hu31 := Try.underlying31
 have hu54 := Try.underlying54
 have HR0_0 := Am_ hr0_0
 have HC0_0 := Am_ hc0_0
 clear hr0_0 hc0_0
 have HO0_1 := Am_ (show Kd.V (Kd.slice 3 (Kd.int .i64)) 64 w w.heap.size (fun k_ => (P0_1_ k_ ∨ w.heap.size ≤ k_)) (.slice A0_1 l0_1.length c0_1) l0_1 from Vm_ hs0_1 (fun k_ hk => .inl hk))
 have HB := Am_ (Below.refl w.heap.size w)
 have H : ((flagstonelaw10_its.f k l0_0 l0_1).bind fun bt634 => (if a1 = (bt634.1.length : Int) then ((some (([] : List (S54)) : List (S54))).bind fun y641 => (if y641.length + bt634.1.length < 3518437208883 then ((some (y641 ++ bt634.1 : List (S54))).bind fun y644 => (if y644.length < 3518437208883 then (some ((y644 ++ [(⟨0, 0, false, false, 0, 0⟩ : S54)]), l0_1)) else (none))) else (none))) else (some (bt634.1, bt634.2)))) = some (r1, r2) := h
 clear h
 replace H := Option.bind_eq_some_iff.mp H
 obtain ⟨⟨t634, t637⟩, A30, H⟩ := H
 replace H : (if a1 = (t634.length : Int) then ((some (([] : List (S54)) : List (S54))).bind fun y641 => (if y641.length + t634.length < 3518437208883 then ((some (y641 ++ t634 : List (S54))).bind fun y644 => (if y644.length < 3518437208883 then (some ((y644 ++ [(⟨0, 0, false, false, 0, 0⟩ : S54)]), l0_1)) else (none))) else (none))) else (some (t634, t637))) = some (r1, r2) := H
 have A3 := Am_ A30
 clear A30
 by_cases c4 : a1 = (t634.length : Int)
 ·rw [if_pos c4] at H
  have c4b0 : (a1 == (t634.length : Int)) = true := beq_iff_eq.mpr c4
  have c4b1 : (a1 != (t634.length : Int)) = false := bne_eq_false_iff_eq.mpr c4
  clear c4
  obtain ⟨y641, hy641⟩ : ∃ y_ : List (S54), y_ = (([] : List (S54))) := ⟨_, rfl⟩
  replace H : (if y641.length + t634.length < 3518437208883 then ((some (y641 ++ t634 : List (S54))).bind fun y644 => (if y644.length < 3518437208883 then (some ((y644 ++ [(⟨0, 0, false, false, 0, 0⟩ : S54)]), l0_1)) else (none))) else (none)) = some (r1, r2) := by first | (rw [hy641]; with_reducible exact H) | (have H2_ := (Option.bind_some _ _).symm.trans H; rw [hy641]; with_reducible exact H2_) | (have H2_ := (Option.bind_some _ _).symm.trans H; with_reducible exact H2_) | with_reducible exact H | (rw [hy641]; exact H) | exact H
  have Ny641 := Am_ hy641
  clear hy641
  by_cases c5 : y641.length + t634.length < 3518437208883
  ·rw [if_pos c5] at H
   have LMc5 := Am_ c5
   clear c5
   obtain ⟨y644, hy644⟩ : ∃ y_ : List (S54), y_ = (y641 ++ t634) := ⟨_, rfl⟩
   replace H : (if y644.length < 3518437208883 then (some ((y644 ++ [(⟨0, 0, false, false, 0, 0⟩ : S54)]), l0_1)) else (none)) = some (r1, r2) := by first | (rw [hy644]; with_reducible exact H) | (have H2_ := (Option.bind_some _ _).symm.trans H; rw [hy644]; with_reducible exact H2_) | (have H2_ := (Option.bind_some _ _).symm.trans H; with_reducible exact H2_) | with_reducible exact H | (rw [hy644]; exact H) | exact H
   have Ny644 := Am_ hy644
   clear hy644
   by_cases c6 : y644.length < 3518437208883
   ·rw [if_pos c6] at H
    have LMc6 := Am_ c6
    clear c6
    obtain ⟨y647, hy647⟩ : ∃ y_ : List (S54), y_ = (y644 ++ [(⟨0, 0, false, false, 0, 0⟩ : S54)]) := ⟨_, rfl⟩
    replace H : (some (y647, l0_1)) = some (r1, r2) := by first | (rw [hy647]; with_reducible exact H) | (have H2_ := (Option.bind_some _ _).symm.trans H; rw [hy647]; with_reducible exact H2_) | (have H2_ := (Option.bind_some _ _).symm.trans H; with_reducible exact H2_) | with_reducible exact H | (rw [hy647]; exact H) | exact H
    have Ny647 := Am_ hy647
    clear hy647
    simp only [Option.some.injEq, Prod.mk.injEq] at H
    obtain ⟨rfl, rfl⟩ := H
    go_enter Try.func23, Try.ntmps23
    try go_wp2_with (first | ((with_reducible refine gate_dst (N := 2) rfl ?_); refine box_event ?hg (N := 2) ?hd (cs := #[.slice A0_0 l0_0.length c0_0, .slice A0_1 l0_1.length c0_1]) (t := 25) ?hr ?_; (case hd => rfl); (case hg => rfl); (case hr => go_simp; try rfl); intro gb632 hg w7 hbox hb; have n0_ := Am_ (Vb_ (Ke_ (Pv_ HO0_1.out) gb632 (Nat.le_of_eq hg.symm)) hb); have n1_ := Am_ (Be_ (Pb0_ HB.out) hb); have n2_ := Am_ (hbox); have n3_ := Am_ ((by rw [hg]; exact (Bz_ (Pb0_ HB.out)) : w.heap.size ≤ gb632)); have n4_ := Am_ ((by rw [hg]; exact (Bz_ (Pb0_ HB.out)) : w.heap.size ≤ gb632)); clear HO0_1; clear HB; have HO0_1 := n0_; have HB := n1_; have BK632 := n2_; have GW632 := n3_; have GE632 := n4_; clear n0_ n1_ n2_ n3_ n4_; clear hb hbox hg) | ((with_reducible refine gate_dst (N := 4) rfl ?_); refine box_event ?hg (N := 4) ?hd (cs := #[.slice none 0 0, .slice none 0 0]) (t := 31) ?hr ?_; (case hd => rfl); (case hg => rfl); (case hr => go_simp; try rfl); intro gb633 hg w8 hbox hb; have n0_ := Am_ (Vb_ (Ke_ (Pv_ HO0_1.out) gb633 (Nat.le_of_eq hg.symm)) hb); have n1_ := Am_ (Bb_ (g := gb632) (o := .cells #[.slice A0_0 l0_0.length c0_0, .slice A0_1 l0_1.length c0_1] 25 (0, 0)) (Pk_ BK632.out) hb); have n2_ := Am_ (Be_ (Pb1_ HB.out GE632.out) hb); have n3_ := Am_ (hbox); have n4_ := Am_ ((by rw [hg]; exact (Bz_ (Pb1_ HB.out GE632.out)) : w.heap.size ≤ gb633)); have n5_ := Am_ ((by rw [hg]; exact (Bz_ (Pb1_ HB.out GE632.out)) : w.heap.size ≤ gb633)); have n6_ := Am_ ((by rw [hg]; exact Nat.ne_of_lt (blk_lt (g := gb632) (o := .cells #[.slice A0_0 l0_0.length c0_0, .slice A0_1 l0_1.length c0_1] 25 (0, 0)) (Pk_ BK632.out)) : gb632 ≠ gb633)); have n7_ := Am_ ((by rw [hg]; exact Nat.ne_of_gt (blk_lt (g := gb632) (o := .cells #[.slice A0_0 l0_0.length c0_0, .slice A0_1 l0_1.length c0_1] 25 (0, 0)) (Pk_ BK632.out)) : gb633 ≠ gb632)); clear HO0_1; clear BK632; clear HB; have HO0_1 := n0_; have BK632 := n1_; have HB := n2_; have BK633 := n3_; have GW633 := n4_; have GE633 := n5_; have NB632_633 := n6_; have NB633_632 := n7_; clear n0_ n1_ n2_ n3_ n4_ n5_ n6_ n7_; clear hb hbox hg; have hnb9 := NB632_633.out; have hnc9 := NB633_632.out; obtain ⟨hcz10_0, hcz10_1, hfz10_0, hfz10_1⟩ := Ce2_ BK632.out) | ((with_reducible refine gate_callee (f := 14) rfl ?_); refine goesL_ (some 8) rfl rfl Try.func14 (by kernel_rfl) rfl #[.agg #[.slice A0_0 l0_0.length c0_0, .slice A0_1 l0_1.length c0_1]] rfl (by (try simp only [List.map_toArray, List.map_cons, List.map_nil]); first | done | rfl | (simp only [List.length_drop, List.length_take]; rfl)) ?_; (with_reducible refine (flagstonelaw10_its.calls k _ _ l0_0 (fun k_ => (((P0_1_ k_ ∨ w.heap.size ≤ k_) ∧ k_ ≠ gb632) ∧ k_ ≠ gb633)) _ _ l0_1 t634 t637 _ ?side1 ?side2 ?side3 A3.out).mono ?_); (case side1 => repeat (first | exact (Kd.C_below HR0_0.out HB.out) | (with_reducible refine Kd.C_alloc ?_ _) | (with_reducible refine Kd.C_drewN ?_ _) | (with_reducible refine Kd.C_drew ?_))); (case side2 => exact HC0_0.out); (case side3 => exact HO0_1.out); rintro e w11 ⟨v635, v638, rfl, ho0, ho1, hb⟩; refine ⟨_, rfl, ?_⟩; have n0_ := Am_ (Kd.V_elder' (Pv_ HO0_1.out) (Kd.R_base ho0) hb); have n1_ := Am_ (Kd.R_lower (Kd.R_newM (M := fun k_ => (w.heap.size ≤ k_)) (Kd.R_mono (ok' := fun k_ => True) ho0 (fun _ hk_ => trivial)) (Bz_ (Pb2_ HB.out GE632.out GE633.out)) (fun k_ h_ => h_)) (Bz_ (Pb2_ HB.out GE632.out GE633.out))); have n2_ := Am_ (Vl_ (Vm_ (ok' := fun k_ => (P0_1_ k_ ∨ w.heap.size ≤ k_) ∧ some k_ ≠ (v635 : Value).ownBlock ∧ k_ ≠ gb632 ∧ k_ ≠ gb633) ho1 (fun k_ hk_ => ⟨Or.elim hk_.1 (fun hs_ => hs_.1.1) (fun hn_ => (.inr (Nat.le_trans (Bz_ (Pb2_ HB.out GE632.out GE633.out)) hn_))), hk_.2, Or.elim hk_.1 (fun hs_ => hs_.1.2) (fun hn_ => (Kd.freshB (g := gb632) (o := .cells #[.slice A0_0 l0_0.length c0_0, .slice A0_1 l0_1.length c0_1] 25 (0, 0)) (Pk_ BK632.out) k_ hn_)), Or.elim hk_.1 (fun hs_ => hs_.2) (fun hn_ => (Kd.freshB (g := gb633) (o := .cells #[.slice none 0 0, .slice none 0 0] 31 (0, 0)) (Pk_ BK633.out) k_ hn_))⟩)) (Bz_ (Pb2_ HB.out GE632.out GE633.out))); have n3_ := Am_ (Bb_ (g := gb632) (o := .cells #[.slice A0_0 l0_0.length c0_0, .slice A0_1 l0_1.length c0_1] 25 (0, 0)) (Pk_ BK632.out) hb); have n4_ := Am_ (Bb_ (g := gb633) (o := .cells #[.slice none 0 0, .slice none 0 0] 31 (0, 0)) (Pk_ BK633.out) hb); have n5_ := Am_ (Be_ (Pb2_ HB.out GE632.out GE633.out) hb); clear HO0_1; clear BK632; clear BK633; clear HB; have HO0_1 := n0_; have HO636 := n1_; have HO639 := n2_; have BK632 := n3_; have BK633 := n4_; have HB := n5_; clear n0_ n1_ n2_ n3_ n4_ n5_; (try clear hb); (try clear hb2); (try clear hk); (try clear hi); (try clear ho0); (try clear ho1)) | ((with_reducible refine gate_dst (N := 5) rfl ?_); refine box_event ?hg (N := 5) ?hd (cs := #[.slice none 0 0, .slice none 0 0]) (t := 31) ?hr ?_; (case hd => rfl); (case hg => rfl); (case hr => go_simp; try rfl); intro gb640 hg w12 hbox hb; have n0_ := Am_ (Vb_ (Ke_ (Pv_ HO0_1.out) gb640 (Nat.le_of_eq hg.symm)) hb); have n1_ := Am_ (Rb_ (Px_ HO636.out) hb); have n2_ := Am_ (Vb_ (Ke_ (Pv_ HO639.out) gb640 (Nat.le_of_eq hg.symm)) hb); have n3_ := Am_ (Bb_ (g := gb632) (o := .cells #[.slice A0_0 l0_0.length c0_0, .slice A0_1 l0_1.length c0_1] 25 (0, 0)) (Pk_ BK632.out) hb); have n4_ := Am_ (Bb_ (g := gb633) (o := .cells #[.slice none 0 0, .slice none 0 0] 31 (0, 0)) (Pk_ BK633.out) hb); have n5_ := Am_ (Be_ (Pb2_ HB.out GE632.out GE633.out) hb); have n6_ := Am_ (hbox); have n7_ := Am_ ((by rw [hg]; exact (Bz_ (Pb2_ HB.out GE632.out GE633.out)) : w.heap.size ≤ gb640)); have n8_ := Am_ ((by rw [hg]; exact (Bz_ (Pb2_ HB.out GE632.out GE633.out)) : w.heap.size ≤ gb640)); have n9_ := Am_ ((by rw [hg]; exact Nat.ne_of_lt (blk_lt (g := gb632) (o := .cells #[.slice A0_0 l0_0.length c0_0, .slice A0_1 l0_1.length c0_1] 25 (0, 0)) (Pk_ BK632.out)) : gb632 ≠ gb640)); have n10_ := Am_ ((by rw [hg]; exact Nat.ne_of_gt (blk_lt (g := gb632) (o := .cells #[.slice A0_0 l0_0.length c0_0, .slice A0_1 l0_1.length c0_1] 25 (0, 0)) (Pk_ BK632.out)) : gb640 ≠ gb632)); have n11_ := Am_ ((by rw [hg]; exact Nat.ne_of_lt (blk_lt (g := gb633) (o := .cells #[.slice none 0 0, .slice none 0 0] 31 (0, 0)) (Pk_ BK633.out)) : gb633 ≠ gb640)); have n12_ := Am_ ((by rw [hg]; exact Nat.ne_of_gt (blk_lt (g := gb633) (o := .cells #[.slice none 0 0, .slice none 0 0] 31 (0, 0)) (Pk_ BK633.out)) : gb640 ≠ gb633)); clear HO0_1; clear HO636; clear HO639; clear BK632; clear BK633; clear HB; have HO0_1 := n0_; have HO636 := n1_; have HO639 := n2_; have BK632 := n3_; have BK633 := n4_; have HB := n5_; have BK640 := n6_; have GW640 := n7_; have GE640 := n8_; have NB632_640 := n9_; have NB640_632 := n10_; have NB633_640 := n11_; have NB640_633 := n12_; clear n0_ n1_ n2_ n3_ n4_ n5_ n6_ n7_ n8_ n9_ n10_ n11_ n12_; clear hb hbox hg; obtain ⟨Ao13, co13, eo13⟩ := Kd.R_slice HO636.out; subst eo13; have hnb14 := NB640_632.out; have hnc14 := NB632_640.out; have hnb15 := NB640_633.out; have hnc15 := NB633_640.out; obtain ⟨hcz16_0, hcz16_1, hfz16_0, hfz16_1⟩ := Ce2_ BK640.out; obtain ⟨Ao17, co17, eo17⟩ := Vx_ HO639.out; subst eo17) | ((with_reducible refine gate_dst (N := 15) rfl ?_); refine Kd.R_lit k54 _ 54 ?hg (N := 15) ?hd (xs := ([] : List (S54))) (inner := []) (ok := fun _ => True) (okp := fun _ => True) ?hr ?hp (fun _ hk => hk) trivial (Below.refl _ _) (Nat.le_refl _) (by simp) ?_; (case hd => rfl); (case hg => rfl); (case hr => go_simp; try rfl); (case hp => exact (Reps.none _ _)); intro v642 w18 ho19 hb hg_ hnew_; clear hg_ hnew_; (first | rw [← Ny641.out] at ho19 | (simp only [Int.reduceToNat] at ho19; rw [← Ny641.out] at ho19)); have n0_ := Am_ (Kd.V_elder' (by (with_reducible repeat (first | apply Va_ | apply Vn_ | apply Vd_)); exact (Vm_ (Vf_ (p := ⟨gb640, 1, none⟩) (Vf_ (p := ⟨gb640, 0, none⟩) (Vm_ HO0_1.out (fun k_ hk => (⟨hk, hk.2⟩ : _ ∧ k_ ≠ gb640))) (fun _ hk => hk.2) (.slice Ao13 t634.length co13)) (fun _ hk => hk.2) (.slice Ao17 t637.length co17)) (fun _ h_ => h_.1))) (Kd.R_base ho19) hb); have n1_ := Am_ (Kd.R_elder' (by (with_reducible repeat (first | apply Ra_ | apply Rn_ | apply Rd_)); exact (Kd.R_mono (Kd.R_far (p := ⟨gb640, 1, none⟩) (Kd.R_far (p := ⟨gb640, 0, none⟩) (Kd.R_types HO636.out BK640.out (by decide)) (fun _ hk => hk.2) (.slice Ao13 t634.length co13)) (fun _ hk => hk.2) (.slice Ao17 t637.length co17)) (fun _ h_ => h_.1))) (Kd.R_base ho19) hb); have n2_ := Am_ (Kd.V_elder' (by (with_reducible repeat (first | apply Va_ | apply Vn_ | apply Vd_)); exact (Vm_ (Vf_ (p := ⟨gb640, 1, none⟩) (Vf_ (p := ⟨gb640, 0, none⟩) (Vm_ HO639.out (fun k_ hk => (⟨hk, hk.2⟩ : _ ∧ k_ ≠ gb640))) (fun _ hk => hk.2) (.slice Ao13 t634.length co13)) (fun _ hk => hk.2) (.slice Ao17 t637.length co17)) (fun _ h_ => h_.1))) (Kd.R_base ho19) hb); have n3_ := Am_ (Kd.R_lower (Kd.R_new' (Kd.R_newM (M := fun k_ => (w.heap.size ≤ k_)) ho19 (Bz_ (Pb3_ HB.out GE632.out GE633.out GE640.out)) (fun k_ h_ => h_)) (Kd.R_lt (by (with_reducible repeat (first | apply Ra_ | apply Rn_ | apply Rd_)); exact (Kd.R_mono (Kd.R_far (p := ⟨gb640, 1, none⟩) (Kd.R_far (p := ⟨gb640, 0, none⟩) (Kd.R_types HO636.out BK640.out (by decide)) (fun _ hk => hk.2) (.slice Ao13 t634.length co13)) (fun _ hk => hk.2) (.slice Ao17 t637.length co17)) (fun _ h_ => h_.1))))) (Bz_ (Pb3_ HB.out GE632.out GE633.out GE640.out))); have n4_ := Am_ (Bb_ (g := gb632) (o := .cells #[.slice A0_0 l0_0.length c0_0, .slice A0_1 l0_1.length c0_1] 25 (0, 0)) (by (with_reducible repeat (first | refine Bn_ ?_ _ | refine Bd_ ?_ | refine Ba_ ?_ _)); refine blk_far ?_ NB632_640.out _; (with_reducible repeat (first | refine Bn_ ?_ _ | refine Bd_ ?_ | refine Ba_ ?_ _)); refine blk_far ?_ NB632_640.out _; (with_reducible repeat (first | refine Bn_ ?_ _ | refine Bd_ ?_ | refine Ba_ ?_ _)); exact BK632.out) hb); have n5_ := Am_ (Bb_ (g := gb633) (o := .cells #[.slice none 0 0, .slice none 0 0] 31 (0, 0)) (by (with_reducible repeat (first | refine Bn_ ?_ _ | refine Bd_ ?_ | refine Ba_ ?_ _)); refine blk_far ?_ NB633_640.out _; (with_reducible repeat (first | refine Bn_ ?_ _ | refine Bd_ ?_ | refine Ba_ ?_ _)); refine blk_far ?_ NB633_640.out _; (with_reducible repeat (first | refine Bn_ ?_ _ | refine Bd_ ?_ | refine Ba_ ?_ _)); exact BK633.out) hb); have n6_ := Am_ (Bb_ (g := gb640) (o := .cells #[.slice Ao13 t634.length co13, .slice Ao17 t637.length co17] 31 (0, 0)) (by (with_reducible repeat (first | refine Bn_ ?_ _ | refine Bd_ ?_ | refine Ba_ ?_ _)); refine Bp_ (cs := #[.slice Ao13 t634.length co13, .slice none 0 0]) ?_ 1 _ rfl; (with_reducible repeat (first | refine Bn_ ?_ _ | refine Bd_ ?_ | refine Ba_ ?_ _)); refine Bp_ (cs := #[.slice none 0 0, .slice none 0 0]) ?_ 0 _ rfl; (with_reducible repeat (first | refine Bn_ ?_ _ | refine Bd_ ?_ | refine Ba_ ?_ _)); exact BK640.out) hb); have n7_ := Am_ (Be_ (Pb3_ HB.out GE632.out GE633.out GE640.out) hb); clear HO0_1; clear HO636; clear HO639; clear BK632; clear BK633; clear BK640; clear HB; have HO0_1 := n0_; have HO636 := n1_; have HO639 := n2_; have HO643 := n3_; have BK632 := n4_; have BK633 := n5_; have BK640 := n6_; have HB := n7_; clear n0_ n1_ n2_ n3_ n4_ n5_ n6_ n7_; clear hb ho19; obtain ⟨hcz20_0, hcz20_1, hfz20_0, hfz20_1⟩ := Ce2_ BK640.out) | ((with_reducible refine gate_builtin (b := .append) (xs := #[.tmp 15, .tmp 17]) rfl ?_); at_builtin; refine Kd.R_append_rows k54 (w0 := w) w.heap.size rfl (.tmp 15) (.tmp 17) 29 54 (.agg #[(.int .i64 0), (.int .i64 0), (.bool false), (.bool false), (.int .i64 0), (.int .i64 0)]) 40 rfl Try.underlying29 info54 rfl (by decide) (by omega) v642 y641 t634 _ _ _ (fun k_ => (w.heap.size ≤ k_) ∧ some k_ ≠ (.slice Ao13 t634.length co13 : Value).ownBlock) (fun _ => False) rfl rfl ?aO ?aR (fun _ _ h => h) (fun _ h => h.elim) ?aF ?aB ?aS ?aL ?_; (case aR => repeat (first | exact (Kd.R_reads' HO636.out).2.2 | (with_reducible refine Kd.C_alloc ?_ _) | (with_reducible refine Kd.C_drewN ?_ _) | (with_reducible refine Kd.C_drew ?_))); (case aB => exact (Pb3_ HB.out GE632.out GE633.out GE640.out)); (case aF => exact (fun k_ hk => ⟨(Nat.le_trans (Bz_ (Pb3_ HB.out GE632.out GE633.out GE640.out)) hk), Kd.fresh' (Kd.R_lt (Px_ HO636.out)) k_ hk⟩)); (case aO => exact (by (with_reducible repeat (first | apply Ra_ | apply Rn_ | apply Rd_)); exact Kd.R_mono HO643.out (fun _ hk => ⟨hk.1.1, hk.2⟩))); (case aS => exact (Bz_ (Pb3_ HB.out GE632.out GE633.out GE640.out))); (case aL => have := LMc5.out; omega); intro v645 w21 ho hb hg hat; rw [← Ny644.out] at ho; have n0_ := Am_ (Kd.V_afterv (ok := (fun k_ => (P0_1_ k_ ∨ w.heap.size ≤ k_) ∧ some k_ ≠ (.slice Ao13 t634.length co13 : Value).ownBlock ∧ k_ ≠ gb632 ∧ k_ ≠ gb633 ∧ k_ ≠ gb640)) (by (with_reducible repeat (first | apply Va_ | apply Vn_ | apply Vd_)); exact Vm_ HO0_1.out (fun _ hk => ⟨⟨hk.1.1.1.1.1, ⟨hk.1.1.2, ⟨hk.1.1.1.1.2, ⟨hk.1.1.1.2, hk.1.2⟩⟩⟩⟩, hk.2⟩)) hg hat); have n1_ := Am_ (Bg_ (g := gb632) (o := .cells #[.slice A0_0 l0_0.length c0_0, .slice A0_1 l0_1.length c0_1] 25 (0, 0)) (Pk_ BK632.out) hg (Kd.R_ne HO643.out BK632.out (by decide))); have n2_ := Am_ (Bg_ (g := gb633) (o := .cells #[.slice none 0 0, .slice none 0 0] 31 (0, 0)) (Pk_ BK633.out) hg (Kd.R_ne HO643.out BK633.out (by decide))); have n3_ := Am_ (Kd.R_after (ok := (fun k_ => (w.heap.size ≤ k_))) (by (with_reducible repeat (first | apply Ra_ | apply Rn_ | apply Rd_)); exact Kd.R_mono HO636.out (fun _ hk => ⟨hk.1.1, hk.2⟩)) hg hat); have n4_ := Am_ (Kd.V_afterv (ok := (fun k_ => (P0_1_ k_ ∨ w.heap.size ≤ k_) ∧ some k_ ≠ (.slice Ao13 t634.length co13 : Value).ownBlock ∧ k_ ≠ gb632 ∧ k_ ≠ gb633 ∧ k_ ≠ gb640)) (by (with_reducible repeat (first | apply Va_ | apply Vn_ | apply Vd_)); exact Vm_ HO639.out (fun _ hk => ⟨⟨hk.1.1.1, ⟨hk.1.1.2.1, ⟨hk.1.1.2.2.1, ⟨hk.1.1.2.2.2, hk.1.2⟩⟩⟩⟩, hk.2⟩)) hg hat); have n5_ := Am_ (Bg_ (g := gb640) (o := .cells #[.slice Ao13 t634.length co13, .slice Ao17 t637.length co17] 31 (0, 0)) (Pk_ BK640.out) hg (Kd.R_ne HO643.out BK640.out (by decide))); have n6_ := Am_ (hb); have n7_ := Am_ (ho); clear HO0_1; clear BK632; clear BK633; clear HO636; clear HO639; clear BK640; clear HB; clear HO643; have HO0_1 := n0_; have BK632 := n1_; have BK633 := n2_; have HO636 := n3_; have HO639 := n4_; have BK640 := n5_; have HB := n6_; have HO646 := n7_; clear n0_ n1_ n2_ n3_ n4_ n5_ n6_ n7_; clear ho hb hg hat))
    have n0_ := Am_ (Vd_ HO0_1.out)
    have n1_ := Am_ (Rd_ HO636.out)
    have n2_ := Am_ (Vd_ HO639.out)
    have n3_ := Am_ (Rd_ HO646.out)
    have n4_ := Am_ (Bd_ BK632.out)
    have n5_ := Am_ (Bd_ BK633.out)
    have n6_ := Am_ (Bd_ BK640.out)
    have n7_ := Am_ (Pd_ HB.out)
    clear HO0_1
    clear HO636
    clear HO639
    clear HO646
    clear BK632
    clear BK633
    clear BK640
    clear HB
    have HO0_1 := n0_
    have HO636 := n1_
    have HO639 := n2_
    have HO646 := n3_
    have BK632 := n4_
    have BK633 := n5_
    have BK640 := n6_
    have HB := n7_
    clear n0_ n1_ n2_ n3_ n4_ n5_ n6_ n7_
    refine start_ (n := 8) (S := fun w' => w'.cell? ⟨gb632, 0, none⟩ = some (.slice A0_0 l0_0.length c0_0) ∧ w'.cell? ⟨gb632, 1, none⟩ = some (.slice A0_1 l0_1.length c0_1)) (ds := []) #[f_,f_,f_,f_,f_,f_,f_,f_] (by kernel_rfl) rfl rfl ⟨(Bc_ BK632.out 0).trans rfl, (Bc_ BK632.out 1).trans rfl⟩ (fun hHeld => ?_); refine with_tabW flagstonelaw10_padded.tab5 flagstonelaw10_padded.bits5 (fun HT_ HW_ => ?_)
    generalize w21.drew = w22 at HO0_1 HO636 HO639 HO646 BK632 BK633 BK640 HB hHeld ⊢
    refine pure_ (i := 0) (N := some 19) (v := ?_) (a' := ?_) #[t_,f_,f_,f_,f_,f_,f_,f_] rfl rfl (any_of HT_.out (by kernel_rfl)) (fun _ _ _ h => h) (Or.inl ⟨by rfl, ?_⟩) ?_ ?_
    rotate_left
    ·intro w'
     go_simp
     with_reducible rfl
    rotate_left
    ·simp only [Act.put, La_, Lb_, Lc_, i64_w, i32_w]
     rfl
    refine pure_ (i := 1) (N := some 20) (v := ?_) (a' := ?_) #[t_,t_,f_,f_,f_,f_,f_,f_] rfl rfl (any_of HT_.out (by kernel_rfl)) (fun _ _ _ h => h) (Or.inl ⟨by rfl, ?_⟩) ?_ ?_
    rotate_left
    ·intro w'
     go_simp
     with_reducible rfl
    rotate_left
    ·simp only [Act.put, La_, Lb_, Lc_, i64_w, i32_w]
     rfl
    refine pure_ (i := 4) (N := some 23) (v := ?_) (a' := ?_) #[t_,t_,f_,f_,t_,f_,f_,f_] rfl rfl (any_of HT_.out (by kernel_rfl)) (fun _ _ _ h => h) (Or.inl ⟨by rfl, ?_⟩) ?_ ?_
    rotate_left
    ·intro w'
     go_simp
     with_reducible rfl
    rotate_left
    ·simp only [Act.put, La_, Lb_, Lc_, i64_w, i32_w]
     rfl
    refine take_ (i := 5) (N := some 24) (v := ?_) (a' := ?_) #[t_,t_,f_,f_,t_,t_,f_,f_] rfl rfl (take_ofW HT_.out HW_.out (by kernel_rfl)) (fun _ _ _ h => h) (Or.inl ⟨by rfl, ?_⟩) hHeld ?_ ?_
    rotate_left
    ·rintro w' ⟨s0, s1⟩
     go_simp
     with_reducible rfl
    rotate_left
    ·simp only [Act.put, La_, Lb_, Lc_, i64_w, i32_w]
     rfl
    refine one_ (i := 2) (N := some 21) #[t_,t_,t_,f_,t_,t_,f_,f_] rfl rfl (one_of HT_.out (by kernel_rfl)) (by decide) (fun K hK => ?_)
    refine value_ (w1 := ?_) (v := ?_) (by rfl) rfl ?_ ?_
    rotate_left 2
    ·go_simp
     constructor
     ·rfl
     ·rfl
    refine hK.out _ _ ⟨(Bc_ (Ba_ BK632.out _) 0).trans rfl, (Bc_ (Ba_ BK632.out _) 1).trans rfl⟩ (fun hHeld => ?_)
    clear hK K
    refine norm_ (a' := ?_) ?_ ?_
    rotate_left
    ·show Act.put _ (some 21) _ = _
     simp only [Act.put, La_, Lb_, Lc_, i64_w, i32_w]
     rfl
    refine one_ (i := 3) (N := some 22) #[t_,t_,t_,t_,t_,t_,f_,f_] rfl rfl (one_of HT_.out (by kernel_rfl)) (by decide) (fun K hK => ?_)
    refine Kd.R_append_step k54 (w0 := w) w.heap.size (by rfl) (.tmp 19) (.tmp 21) 29 54 (.agg #[(.int .i64 0), (.int .i64 0), (.bool false), (.bool false), (.int .i64 0), (.int .i64 0)]) 40 rfl Try.underlying29 info54 rfl (by decide) (by omega) v645 y644 (⟨0, 0, false, false, 0, 0⟩ : S54) [.int .i64 0, .int .i64 0, .bool false, .bool false, .int .i64 0, .int .i64 0] (fun k_ => (w.heap.size ≤ k_) ∧ some k_ ≠ (.slice Ao13 t634.length co13 : Value).ownBlock) (fun _ => False) rfl rfl ?aP (fun _ hk => hk.elim) ?aF ?aO ?aB ?aS ?aL ?_
    (case aP => exact k54_mkM _ _ _ (⟨0, 0, false, false, 0, 0⟩ : S54))
    (case aB => exact (Pb3_ HB.out GE632.out GE633.out GE640.out))
    (case aF => exact (fun k_ hk => ⟨(Nat.le_trans (Bz_ (Pb3_ HB.out GE632.out GE633.out GE640.out)) hk), Kd.fresh' (Kd.R_lt (Px_ HO636.out)) k_ hk⟩))
    (case aO => exact (Px_ HO646.out))
    (case aS => exact (Bz_ (Pb3_ HB.out GE632.out GE633.out GE640.out)))
    (case aL => have := LMc6.out; omega)
    intro v648 w23 ho hb hg hat
    rw [← Ny647.out] at ho
    have n0_ := Am_ (Kd.V_afterv (ok := (fun k_ => (P0_1_ k_ ∨ w.heap.size ≤ k_) ∧ some k_ ≠ (.slice Ao13 t634.length co13 : Value).ownBlock ∧ k_ ≠ gb632 ∧ k_ ≠ gb633 ∧ k_ ≠ gb640)) (Pv_ HO0_1.out) hg hat)
    have n1_ := Am_ (Bg_ (g := gb632) (o := .cells #[.slice A0_0 l0_0.length c0_0, .slice A0_1 l0_1.length c0_1] 25 (0, 0)) (Pk_ BK632.out) hg (Kd.R_ne HO646.out BK632.out (by decide)))
    have n2_ := Am_ (Bg_ (g := gb633) (o := .cells #[.slice none 0 0, .slice none 0 0] 31 (0, 0)) (Pk_ BK633.out) hg (Kd.R_ne HO646.out BK633.out (by decide)))
    have n3_ := Am_ (Kd.R_after (ok := (fun k_ => (w.heap.size ≤ k_))) (Px_ HO636.out) hg hat)
    have n4_ := Am_ (Kd.V_afterv (ok := (fun k_ => (P0_1_ k_ ∨ w.heap.size ≤ k_) ∧ some k_ ≠ (.slice Ao13 t634.length co13 : Value).ownBlock ∧ k_ ≠ gb632 ∧ k_ ≠ gb633 ∧ k_ ≠ gb640)) (Pv_ HO639.out) hg hat)
    have n5_ := Am_ (Bg_ (g := gb640) (o := .cells #[.slice Ao13 t634.length co13, .slice Ao17 t637.length co17] 31 (0, 0)) (Pk_ BK640.out) hg (Kd.R_ne HO646.out BK640.out (by decide)))
    have n6_ := Am_ (hb)
    have n7_ := Am_ (ho)
    clear HO0_1
    clear BK632
    clear BK633
    clear HO636
    clear HO639
    clear BK640
    clear HB
    clear HO646
    have HO0_1 := n0_
    have BK632 := n1_
    have BK633 := n2_
    have HO636 := n3_
    have HO639 := n4_
    have BK640 := n5_
    have HB := n6_
    have HO649 := n7_
    clear n0_ n1_ n2_ n3_ n4_ n5_ n6_ n7_
    clear ho hb hg hat
    obtain ⟨Ao24, co24, eo24⟩ := Kd.R_slice HO649.out
    (first | subst eo24 | (injection eo24 with f1_ f2_ f3_; have f4_ := f1_.symm; have f5_ := f3_.symm; clear f1_ f2_ f3_; subst f4_; subst f5_))
    refine hK.out _ _ ⟨(Bc_ BK632.out 0).trans rfl, (Bc_ BK632.out 1).trans rfl⟩ (fun hHeld => ?_)
    clear hK K
    refine norm_ (a' := ?_) ?_ ?_
    rotate_left
    ·show Act.put _ (some 22) _ = _
     simp only [Act.put, La_, Lb_, Lc_, i64_w, i32_w]
     rfl
    refine pure_ (i := 6) (N := some 25) (v := ?_) (a' := ?_) #[t_,t_,t_,t_,t_,t_,t_,f_] rfl rfl (any_of HT_.out (by kernel_rfl)) (fun _ _ _ h => h) (Or.inl ⟨by rfl, ?_⟩) ?_ ?_
    rotate_left
    ·intro w'
     go_simp
     with_reducible rfl
    rotate_left
    ·simp only [Act.put, La_, Lb_, Lc_, i64_w, i32_w]
     rfl
    refine one_ (i := 7) (N := none) #[t_,t_,t_,t_,t_,t_,t_,t_] rfl rfl (one_of HT_.out (by kernel_rfl)) (by decide) (fun K hK => ?_)
    have hs25 : w23.cell? ⟨gb633, 0, none⟩ = some (.slice none 0 0) := (Bc_ BK633.out 0).trans rfl
    have hfs25 := Bf_ BK633.out 0
    have hns25_0 := NB632_633.out
    have hns25_2 := NB640_633.out
    have hms25_0 := NB633_632.out
    have hms25_2 := NB633_640.out
    have hs26 : w23.cell? ⟨gb633, 1, none⟩ = some (.slice none 0 0) := (Bc_ BK633.out 1).trans rfl
    have hfs26 := Bf_ BK633.out 1
    have hns26_0 := NB632_633.out
    have hns26_2 := NB640_633.out
    have hms26_0 := NB633_632.out
    have hms26_2 := NB633_640.out
    refine skip_ (w1 := ?_) (by rfl) rfl ?_ ?_
    rotate_left
    ·go_simp
     rfl
    refine hK.out _ _ ⟨((Cf_ (p := ⟨gb633, _, none⟩) NB632_633.out _).trans (((Cf_ (p := ⟨gb633, _, none⟩) NB632_633.out _).trans (hHeld.1)))), ((Cf_ (p := ⟨gb633, _, none⟩) NB632_633.out _).trans (((Cf_ (p := ⟨gb633, _, none⟩) NB632_633.out _).trans (hHeld.2))))⟩ (fun hHeld => ?_)
    clear hK K
    refine done_ (done_of HT_.out (by kernel_rfl)) ?_
    try go_wp2
    refine bodyPost_ret (results_cell_row rfl _ _ gb633 31 #[.slice Ao24 y647.length co24, .slice A0_1 l0_1.length c0_1] (0, 0) _ rfl (by (with_reducible repeat (first | refine Bn_ ?_ _ | refine Bd_ ?_ | refine Ba_ ?_ _)); refine Bp_ (cs := #[.slice Ao24 y647.length co24, .slice none 0 0]) ?_ 1 _ rfl; (with_reducible repeat (first | refine Bn_ ?_ _ | refine Bd_ ?_ | refine Ba_ ?_ _)); refine Bp_ (cs := #[.slice none 0 0, .slice none 0 0]) ?_ 0 _ rfl; (with_reducible repeat (first | refine Bn_ ?_ _ | refine Bd_ ?_ | refine Ba_ ?_ _)); exact BK633.out) Try.underlying31 rfl (by kernel_rfl)) rfl ?_
    exact ⟨_, _, by first | rfl | (simp [errW_none, errW_some] <;> rfl) | (simp [*, errW_none, errW_some] <;> rfl), by (with_reducible repeat (first | apply Ra_ | apply Rn_ | apply Rd_)); exact Kd.R_mono (Kd.R_far (p := ⟨gb633, 1, none⟩) (Kd.R_far (p := ⟨gb633, 0, none⟩) (Kd.R_types HO649.out BK633.out (by decide)) (fun _ hk => hk.2) (.slice Ao24 y647.length co24)) (fun _ hk => hk.2) (.slice A0_1 l0_1.length c0_1)) (fun _ hk => hk.1.1), by (with_reducible repeat (first | apply Va_ | apply Vn_ | apply Vd_)); exact Vm_ (Vf_ (p := ⟨gb633, 1, none⟩) (Vf_ (p := ⟨gb633, 0, none⟩) (Vm_ HO0_1.out (fun k_ hk => (⟨hk, hk.1.2.2.2.1⟩ : _ ∧ k_ ≠ gb633))) (fun _ hk => hk.2) (.slice Ao24 y647.length co24)) (fun _ hk => hk.2) (.slice A0_1 l0_1.length c0_1)) (fun _ hk => ⟨hk.1.1.1, hk.1.2⟩), by repeat (first | (with_reducible first | exact HB.out | apply Pa_ | apply Pn_ | apply Pd_ | refine Bs_ ?_ GE632.out | refine Bs_ ?_ GE633.out | refine Bs_ ?_ GE640.out) | exact HB.out)⟩
   ·rw [if_neg c6] at H
    exact absurd H (by simp)
  ·rw [if_neg c5] at H
   exact absurd H (by simp)
 ·rw [if_neg c4] at H
  have c4b0 : (a1 == (t634.length : Int)) = false := beq_eq_false_iff_ne.mpr c4
  have c4b1 : (a1 != (t634.length : Int)) = true := bne_iff_ne.mpr c4
  simp only [Option.some.injEq, Prod.mk.injEq] at H
  obtain ⟨rfl, rfl⟩ := H
  go_enter Try.func23, Try.ntmps23
  go_wp2_with (first | ((with_reducible refine gate_dst (N := 2) rfl ?_); refine box_event ?hg (N := 2) ?hd (cs := #[.slice A0_0 l0_0.length c0_0, .slice A0_1 l0_1.length c0_1]) (t := 25) ?hr ?_; (case hd => rfl); (case hg => rfl); (case hr => go_simp; try rfl); intro gb632 hg w27 hbox hb; have n0_ := Am_ (Vb_ (Ke_ (Pv_ HO0_1.out) gb632 (Nat.le_of_eq hg.symm)) hb); have n1_ := Am_ (Be_ (Pb0_ HB.out) hb); have n2_ := Am_ (hbox); have n3_ := Am_ ((by rw [hg]; exact (Bz_ (Pb0_ HB.out)) : w.heap.size ≤ gb632)); have n4_ := Am_ ((by rw [hg]; exact (Bz_ (Pb0_ HB.out)) : w.heap.size ≤ gb632)); clear HO0_1; clear HB; have HO0_1 := n0_; have HB := n1_; have BK632 := n2_; have GW632 := n3_; have GE632 := n4_; clear n0_ n1_ n2_ n3_ n4_; clear hb hbox hg) | ((with_reducible refine gate_dst (N := 4) rfl ?_); refine box_event ?hg (N := 4) ?hd (cs := #[.slice none 0 0, .slice none 0 0]) (t := 31) ?hr ?_; (case hd => rfl); (case hg => rfl); (case hr => go_simp; try rfl); intro gb633 hg w28 hbox hb; have n0_ := Am_ (Vb_ (Ke_ (Pv_ HO0_1.out) gb633 (Nat.le_of_eq hg.symm)) hb); have n1_ := Am_ (Bb_ (g := gb632) (o := .cells #[.slice A0_0 l0_0.length c0_0, .slice A0_1 l0_1.length c0_1] 25 (0, 0)) (Pk_ BK632.out) hb); have n2_ := Am_ (Be_ (Pb1_ HB.out GE632.out) hb); have n3_ := Am_ (hbox); have n4_ := Am_ ((by rw [hg]; exact (Bz_ (Pb1_ HB.out GE632.out)) : w.heap.size ≤ gb633)); have n5_ := Am_ ((by rw [hg]; exact (Bz_ (Pb1_ HB.out GE632.out)) : w.heap.size ≤ gb633)); have n6_ := Am_ ((by rw [hg]; exact Nat.ne_of_lt (blk_lt (g := gb632) (o := .cells #[.slice A0_0 l0_0.length c0_0, .slice A0_1 l0_1.length c0_1] 25 (0, 0)) (Pk_ BK632.out)) : gb632 ≠ gb633)); have n7_ := Am_ ((by rw [hg]; exact Nat.ne_of_gt (blk_lt (g := gb632) (o := .cells #[.slice A0_0 l0_0.length c0_0, .slice A0_1 l0_1.length c0_1] 25 (0, 0)) (Pk_ BK632.out)) : gb633 ≠ gb632)); clear HO0_1; clear BK632; clear HB; have HO0_1 := n0_; have BK632 := n1_; have HB := n2_; have BK633 := n3_; have GW633 := n4_; have GE633 := n5_; have NB632_633 := n6_; have NB633_632 := n7_; clear n0_ n1_ n2_ n3_ n4_ n5_ n6_ n7_; clear hb hbox hg; have hnb29 := NB632_633.out; have hnc29 := NB633_632.out; obtain ⟨hcz30_0, hcz30_1, hfz30_0, hfz30_1⟩ := Ce2_ BK632.out) | ((with_reducible refine gate_callee (f := 14) rfl ?_); refine goesL_ (some 8) rfl rfl Try.func14 (by kernel_rfl) rfl #[.agg #[.slice A0_0 l0_0.length c0_0, .slice A0_1 l0_1.length c0_1]] rfl (by (try simp only [List.map_toArray, List.map_cons, List.map_nil]); first | done | rfl | (simp only [List.length_drop, List.length_take]; rfl)) ?_; (with_reducible refine (flagstonelaw10_its.calls k _ _ l0_0 (fun k_ => (((P0_1_ k_ ∨ w.heap.size ≤ k_) ∧ k_ ≠ gb632) ∧ k_ ≠ gb633)) _ _ l0_1 t634 t637 _ ?side1 ?side2 ?side3 A3.out).mono ?_); (case side1 => repeat (first | exact (Kd.C_below HR0_0.out HB.out) | (with_reducible refine Kd.C_alloc ?_ _) | (with_reducible refine Kd.C_drewN ?_ _) | (with_reducible refine Kd.C_drew ?_))); (case side2 => exact HC0_0.out); (case side3 => exact HO0_1.out); rintro e w31 ⟨v635, v638, rfl, ho0, ho1, hb⟩; refine ⟨_, rfl, ?_⟩; have n0_ := Am_ (Kd.V_elder' (Pv_ HO0_1.out) (Kd.R_base ho0) hb); have n1_ := Am_ (Kd.R_lower (Kd.R_newM (M := fun k_ => (w.heap.size ≤ k_)) (Kd.R_mono (ok' := fun k_ => True) ho0 (fun _ hk_ => trivial)) (Bz_ (Pb2_ HB.out GE632.out GE633.out)) (fun k_ h_ => h_)) (Bz_ (Pb2_ HB.out GE632.out GE633.out))); have n2_ := Am_ (Vl_ (Vm_ (ok' := fun k_ => (P0_1_ k_ ∨ w.heap.size ≤ k_) ∧ some k_ ≠ (v635 : Value).ownBlock ∧ k_ ≠ gb632 ∧ k_ ≠ gb633) ho1 (fun k_ hk_ => ⟨Or.elim hk_.1 (fun hs_ => hs_.1.1) (fun hn_ => (.inr (Nat.le_trans (Bz_ (Pb2_ HB.out GE632.out GE633.out)) hn_))), hk_.2, Or.elim hk_.1 (fun hs_ => hs_.1.2) (fun hn_ => (Kd.freshB (g := gb632) (o := .cells #[.slice A0_0 l0_0.length c0_0, .slice A0_1 l0_1.length c0_1] 25 (0, 0)) (Pk_ BK632.out) k_ hn_)), Or.elim hk_.1 (fun hs_ => hs_.2) (fun hn_ => (Kd.freshB (g := gb633) (o := .cells #[.slice none 0 0, .slice none 0 0] 31 (0, 0)) (Pk_ BK633.out) k_ hn_))⟩)) (Bz_ (Pb2_ HB.out GE632.out GE633.out))); have n3_ := Am_ (Bb_ (g := gb632) (o := .cells #[.slice A0_0 l0_0.length c0_0, .slice A0_1 l0_1.length c0_1] 25 (0, 0)) (Pk_ BK632.out) hb); have n4_ := Am_ (Bb_ (g := gb633) (o := .cells #[.slice none 0 0, .slice none 0 0] 31 (0, 0)) (Pk_ BK633.out) hb); have n5_ := Am_ (Be_ (Pb2_ HB.out GE632.out GE633.out) hb); clear HO0_1; clear BK632; clear BK633; clear HB; have HO0_1 := n0_; have HO636 := n1_; have HO639 := n2_; have BK632 := n3_; have BK633 := n4_; have HB := n5_; clear n0_ n1_ n2_ n3_ n4_ n5_; (try clear hb); (try clear hb2); (try clear hk); (try clear hi); (try clear ho0); (try clear ho1)) | ((with_reducible refine gate_dst (N := 5) rfl ?_); refine box_event ?hg (N := 5) ?hd (cs := #[.slice none 0 0, .slice none 0 0]) (t := 31) ?hr ?_; (case hd => rfl); (case hg => rfl); (case hr => go_simp; try rfl); intro gb640 hg w32 hbox hb; have n0_ := Am_ (Vb_ (Ke_ (Pv_ HO0_1.out) gb640 (Nat.le_of_eq hg.symm)) hb); have n1_ := Am_ (Rb_ (Px_ HO636.out) hb); have n2_ := Am_ (Vb_ (Ke_ (Pv_ HO639.out) gb640 (Nat.le_of_eq hg.symm)) hb); have n3_ := Am_ (Bb_ (g := gb632) (o := .cells #[.slice A0_0 l0_0.length c0_0, .slice A0_1 l0_1.length c0_1] 25 (0, 0)) (Pk_ BK632.out) hb); have n4_ := Am_ (Bb_ (g := gb633) (o := .cells #[.slice none 0 0, .slice none 0 0] 31 (0, 0)) (Pk_ BK633.out) hb); have n5_ := Am_ (Be_ (Pb2_ HB.out GE632.out GE633.out) hb); have n6_ := Am_ (hbox); have n7_ := Am_ ((by rw [hg]; exact (Bz_ (Pb2_ HB.out GE632.out GE633.out)) : w.heap.size ≤ gb640)); have n8_ := Am_ ((by rw [hg]; exact (Bz_ (Pb2_ HB.out GE632.out GE633.out)) : w.heap.size ≤ gb640)); have n9_ := Am_ ((by rw [hg]; exact Nat.ne_of_lt (blk_lt (g := gb632) (o := .cells #[.slice A0_0 l0_0.length c0_0, .slice A0_1 l0_1.length c0_1] 25 (0, 0)) (Pk_ BK632.out)) : gb632 ≠ gb640)); have n10_ := Am_ ((by rw [hg]; exact Nat.ne_of_gt (blk_lt (g := gb632) (o := .cells #[.slice A0_0 l0_0.length c0_0, .slice A0_1 l0_1.length c0_1] 25 (0, 0)) (Pk_ BK632.out)) : gb640 ≠ gb632)); have n11_ := Am_ ((by rw [hg]; exact Nat.ne_of_lt (blk_lt (g := gb633) (o := .cells #[.slice none 0 0, .slice none 0 0] 31 (0, 0)) (Pk_ BK633.out)) : gb633 ≠ gb640)); have n12_ := Am_ ((by rw [hg]; exact Nat.ne_of_gt (blk_lt (g := gb633) (o := .cells #[.slice none 0 0, .slice none 0 0] 31 (0, 0)) (Pk_ BK633.out)) : gb640 ≠ gb633)); clear HO0_1; clear HO636; clear HO639; clear BK632; clear BK633; clear HB; have HO0_1 := n0_; have HO636 := n1_; have HO639 := n2_; have BK632 := n3_; have BK633 := n4_; have HB := n5_; have BK640 := n6_; have GW640 := n7_; have GE640 := n8_; have NB632_640 := n9_; have NB640_632 := n10_; have NB633_640 := n11_; have NB640_633 := n12_; clear n0_ n1_ n2_ n3_ n4_ n5_ n6_ n7_ n8_ n9_ n10_ n11_ n12_; clear hb hbox hg; obtain ⟨Ao33, co33, eo33⟩ := Kd.R_slice HO636.out; subst eo33; have hnb34 := NB640_632.out; have hnc34 := NB632_640.out; have hnb35 := NB640_633.out; have hnc35 := NB633_640.out; obtain ⟨hcz36_0, hcz36_1, hfz36_0, hfz36_1⟩ := Ce2_ BK640.out; obtain ⟨Ao37, co37, eo37⟩ := Vx_ HO639.out; subst eo37; obtain ⟨hcz38_0, hcz38_1, hfz38_0, hfz38_1⟩ := Ce2_ BK633.out))
  refine bodyPost_ret (results_cell_row rfl _ _ gb633 31 #[.slice Ao33 t634.length co33, .slice Ao37 t637.length co37] (0, 0) _ rfl (by (with_reducible repeat (first | refine Bn_ ?_ _ | refine Bd_ ?_ | refine Ba_ ?_ _)); refine Bp_ (cs := #[.slice Ao33 t634.length co33, .slice none 0 0]) ?_ 1 _ rfl; (with_reducible repeat (first | refine Bn_ ?_ _ | refine Bd_ ?_ | refine Ba_ ?_ _)); refine Bp_ (cs := #[.slice none 0 0, .slice none 0 0]) ?_ 0 _ rfl; (with_reducible repeat (first | refine Bn_ ?_ _ | refine Bd_ ?_ | refine Ba_ ?_ _)); refine blk_far ?_ NB633_640.out _; (with_reducible repeat (first | refine Bn_ ?_ _ | refine Bd_ ?_ | refine Ba_ ?_ _)); refine blk_far ?_ NB633_640.out _; (with_reducible repeat (first | refine Bn_ ?_ _ | refine Bd_ ?_ | refine Ba_ ?_ _)); exact BK633.out) Try.underlying31 rfl (by kernel_rfl)) rfl ?_
  exact ⟨_, _, by first | rfl | (simp [errW_none, errW_some] <;> rfl) | (simp [*, errW_none, errW_some] <;> rfl), by (with_reducible repeat (first | apply Ra_ | apply Rn_ | apply Rd_)); exact Kd.R_mono (Kd.R_far (p := ⟨gb633, 1, none⟩) (Kd.R_far (p := ⟨gb633, 0, none⟩) (Kd.R_far (p := ⟨gb640, 1, none⟩) (Kd.R_far (p := ⟨gb640, 0, none⟩) (Kd.R_types (Kd.R_types HO636.out BK640.out (by decide)) BK633.out (by decide)) (fun _ hk => hk.1.2) (.slice Ao33 t634.length co33)) (fun _ hk => hk.1.2) (.slice Ao37 t637.length co37)) (fun _ hk => hk.2) (.slice Ao33 t634.length co33)) (fun _ hk => hk.2) (.slice Ao37 t637.length co37)) (fun _ hk => hk.1.1.1), by (with_reducible repeat (first | apply Va_ | apply Vn_ | apply Vd_)); exact Vm_ (Vf_ (p := ⟨gb633, 1, none⟩) (Vf_ (p := ⟨gb633, 0, none⟩) (Vf_ (p := ⟨gb640, 1, none⟩) (Vf_ (p := ⟨gb640, 0, none⟩) (Vm_ (Vm_ HO639.out (fun k_ hk => (⟨hk, hk.2⟩ : _ ∧ k_ ≠ gb640))) (fun k_ hk => (⟨hk, hk.1.1.2.2.2⟩ : _ ∧ k_ ≠ gb633))) (fun _ hk => hk.1.2) (.slice Ao33 t634.length co33)) (fun _ hk => hk.1.2) (.slice Ao37 t637.length co37)) (fun _ hk => hk.2) (.slice Ao33 t634.length co33)) (fun _ hk => hk.2) (.slice Ao37 t637.length co37)) (fun _ hk => ⟨hk.1.1.1.1, hk.1.1.1.2.1⟩), by repeat (first | (with_reducible first | exact HB.out | apply Pa_ | apply Pn_ | apply Pd_ | refine Bs_ ?_ GE632.out | refine Bs_ ?_ GE633.out | refine Bs_ ?_ GE640.out) | exact HB.out)⟩

end Go.Proofs.Ytkecfdljodiifaa.P
