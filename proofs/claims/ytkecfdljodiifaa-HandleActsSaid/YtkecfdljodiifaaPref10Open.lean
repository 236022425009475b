-- Printed by a program of this session (inject.py) over the kit's print, with functions that were proved by hand in their places.
import Derived.Test.YtkecfdljodiifaaPK
import Derived.Test.YtkecfdljodiifaaPref10first
import Derived.Test.YtkecfdljodiifaaPref10copied
namespace Go.Proofs.Ytkecfdljodiifaa.P
open Go.RowKit Go.Proofs.YtkecfdljodiifaaW.PrintWords Go.Proofs.YtkecfdljodiifaaW.PrintLast Go.Proofs.YtkecfdljodiifaaW.PrintMore
attribute [local go_sem] max2_int min2_int max_two min_two max_three min_three max_four min_four   -- for this text's walks alone
set_option linter.unusedVariables false
set_option linter.unusedSimpArgs false

/-! ### flagstoneref10_Open: function 25 -/
mutual
def flagstoneref10_Open.j0 : Nat → Int → Bool → List (S54) → List (List Int) → Int → Int → Bool → Bool → Int → Int → Option ((List (S54)) × (List (List Int)) × Int × Int)
 | 0, _, _, _, _, _, _, _, _, _, _ => none
 | k + 1, x1, x20, x279000, x279001, x280000, x280001, x280002, x280003, x280004, x280005 => if x20 = true then (some (x279000, x279001, 0, 1)) else ((flagstoneref10_first.f k x279000 x279001 x1).bind fun t281 => (if t281 < 0 then (some (x279000, x279001, 0, 13)) else ((flagstoneref10_copied.f k x279000 x279001).bind fun bt282 => (flagstoneref10_Open.l0 k x1 t281 0 x280000 x280001 x280002 x280003 1 x280005 bt282.1 bt282.2))))
def flagstoneref10_Open.l0 : Nat → Int → Int → Int → Int → Int → Bool → Bool → Int → Int → List (S54) → List (List Int) → Option ((List (S54)) × (List (List Int)) × Int × Int)
 | 0, _, _, _, _, _, _, _, _, _, _, _ => none
 | k + 1, x1, x9, x11, x280000, x280001, x280002, x280003, x280004, x280005, x289000, x289001 => if x11 < (x289000.length : Int) then (if 0 ≤ x11 then (if ((rd_T54 x289000 x11).f4) > 0 then (flagstoneref10_Open.l0 k x1 x9 (wrap64 (x11 + 1)) x280000 x280001 x280002 x280003 x280004 x280005 x289000 x289001) else (if x11 = (x289000.length : Int) then (if x289000.length < 3518437208883 then ((some (x289000 ++ [(⟨x280000, x280001, x280002, x280003, x280004, x280005⟩ : S54)] : List (S54))).bind fun y290 => (if x11 < (y290.length : Int) then (if 0 ≤ x1 then (if x1 < (x289001.length : Int) then (if 0 ≤ x9 then (if x9 < ((rd_L1 x289001 x1).length : Int) then (some ((y290.set (x11 : Int).toNat (⟨x280000, x280001, x280002, x280003, x280004, x280005⟩ : S54)), (x289001.set (x1 : Int).toNat ((rd_L1 x289001 x1).set (x9 : Int).toNat x11)), x9, 0)) else (none)) else (none)) else (none)) else (none)) else (none))) else (none)) else (if 0 ≤ x1 then (if x1 < (x289001.length : Int) then (if 0 ≤ x9 then (if x9 < ((rd_L1 x289001 x1).length : Int) then (some ((x289000.set (x11 : Int).toNat (⟨x280000, x280001, x280002, x280003, x280004, x280005⟩ : S54)), (x289001.set (x1 : Int).toNat ((rd_L1 x289001 x1).set (x9 : Int).toNat x11)), x9, 0)) else (none)) else (none)) else (none)) else (none)))) else (none)) else (if x11 = (x289000.length : Int) then (if x289000.length < 3518437208883 then ((some (x289000 ++ [(⟨x280000, x280001, x280002, x280003, x280004, x280005⟩ : S54)] : List (S54))).bind fun y303 => (if 0 ≤ x11 then (if x11 < (y303.length : Int) then (if 0 ≤ x1 then (if x1 < (x289001.length : Int) then (if 0 ≤ x9 then (if x9 < ((rd_L1 x289001 x1).length : Int) then (some ((y303.set (x11 : Int).toNat (⟨x280000, x280001, x280002, x280003, x280004, x280005⟩ : S54)), (x289001.set (x1 : Int).toNat ((rd_L1 x289001 x1).set (x9 : Int).toNat x11)), x9, 0)) else (none)) else (none)) else (none)) else (none)) else (none)) else (none))) else (none)) else (if 0 ≤ x11 then (none) else (none)))
end
def flagstoneref10_Open.f (k : Nat) (l0_0 : List (S54)) (l0_1 : List (List Int)) (a1 : Int) (a2_0 : Int) (a2_1 : Int) (a2_2 : Bool) (a2_3 : Bool) (a2_4 : Int) (a2_5 : Int) : Option ((List (S54)) × (List (List Int)) × Int × Int) := if a1 < 0 then (flagstoneref10_Open.j0 k a1 true l0_0 l0_1 a2_0 a2_1 a2_2 a2_3 a2_4 a2_5) else (flagstoneref10_Open.j0 k a1 (decide (a1 ≥ (l0_1.length : Int))) l0_0 l0_1 a2_0 a2_1 a2_2 a2_3 a2_4 a2_5)
theorem flagstoneref10_Open.mono_l : ∀ k, (∀ y0 y1 y2 y3 y4 y5 y6 y7 y8 y9, LeO (flagstoneref10_Open.j0 k y0 y1 y2 y3 y4 y5 y6 y7 y8 y9) (flagstoneref10_Open.j0 (k + 1) y0 y1 y2 y3 y4 y5 y6 y7 y8 y9)) ∧ (∀ y0 y1 y2 y3 y4 y5 y6 y7 y8 y9 y10, LeO (flagstoneref10_Open.l0 k y0 y1 y2 y3 y4 y5 y6 y7 y8 y9 y10) (flagstoneref10_Open.l0 (k + 1) y0 y1 y2 y3 y4 y5 y6 y7 y8 y9 y10))
 | 0 => ⟨fun _ _ _ _ _ _ _ _ _ _ r h => by simp [flagstoneref10_Open.j0] at h, fun _ _ _ _ _ _ _ _ _ _ _ r h => by simp [flagstoneref10_Open.l0] at h⟩
 | k + 1 => by
  obtain ⟨ih0, ih1⟩ := flagstoneref10_Open.mono_l k
  refine ⟨?_, ?_⟩
  ·intro y0 y1 y2 y3 y4 y5 y6 y7 y8 y9
   unfold flagstoneref10_Open.j0
   repeat' first
   | (with_reducible exact ih0 _ _ _ _ _ _ _ _ _ _)
   | (with_reducible exact ih1 _ _ _ _ _ _ _ _ _ _ _)
   | (with_reducible exact flagstoneref10_copied.mono _ _ _)
   | (with_reducible exact flagstoneref10_first.mono _ _ _ _)
   | (with_reducible exact LeO.refl _)
   | (with_reducible exact LeO.none _)
   | (with_reducible refine LeO.ite ?_ ?_)
   | (with_reducible refine LeO.bind ?_ (fun _ => ?_))
   | exact ih0 _ _ _ _ _ _ _ _ _ _
   | exact ih1 _ _ _ _ _ _ _ _ _ _ _
   | exact flagstoneref10_copied.mono _ _ _
   | exact flagstoneref10_first.mono _ _ _ _
   | exact LeO.none _
   | refine LeO.ite ?_ ?_
   | refine LeO.bind ?_ (fun _ => ?_)
  ·intro y0 y1 y2 y3 y4 y5 y6 y7 y8 y9 y10
   unfold flagstoneref10_Open.l0
   repeat' first
   | (with_reducible exact ih0 _ _ _ _ _ _ _ _ _ _)
   | (with_reducible exact ih1 _ _ _ _ _ _ _ _ _ _ _)
   | (with_reducible exact flagstoneref10_copied.mono _ _ _)
   | (with_reducible exact flagstoneref10_first.mono _ _ _ _)
   | (with_reducible exact LeO.refl _)
   | (with_reducible exact LeO.none _)
   | (with_reducible refine LeO.ite ?_ ?_)
   | (with_reducible refine LeO.bind ?_ (fun _ => ?_))
   | exact ih0 _ _ _ _ _ _ _ _ _ _
   | exact ih1 _ _ _ _ _ _ _ _ _ _ _
   | exact flagstoneref10_copied.mono _ _ _
   | exact flagstoneref10_first.mono _ _ _ _
   | exact LeO.none _
   | refine LeO.ite ?_ ?_
   | refine LeO.bind ?_ (fun _ => ?_)
theorem flagstoneref10_Open.mono : ∀ a0 a1 a2 a3 a4 a5 a6 a7 a8 k, LeO (flagstoneref10_Open.f k a0 a1 a2 a3 a4 a5 a6 a7 a8) (flagstoneref10_Open.f (k + 1) a0 a1 a2 a3 a4 a5 a6 a7 a8) := by
 intro a0 a1 a2 a3 a4 a5 a6 a7 a8 k
 obtain ⟨ih0, ih1⟩ := flagstoneref10_Open.mono_l k
 unfold flagstoneref10_Open.f
 repeat' first
   | (with_reducible exact ih0 _ _ _ _ _ _ _ _ _ _)
   | (with_reducible exact ih1 _ _ _ _ _ _ _ _ _ _ _)
   | (with_reducible exact flagstoneref10_copied.mono _ _ _)
   | (with_reducible exact flagstoneref10_first.mono _ _ _ _)
   | (with_reducible exact LeO.refl _)
   | (with_reducible exact LeO.none _)
   | (with_reducible refine LeO.ite ?_ ?_)
   | (with_reducible refine LeO.bind ?_ (fun _ => ?_))
   | exact ih0 _ _ _ _ _ _ _ _ _ _
   | exact ih1 _ _ _ _ _ _ _ _ _ _ _
   | exact flagstoneref10_copied.mono _ _ _
   | exact flagstoneref10_first.mono _ _ _ _
   | exact LeO.none _
   | refine LeO.ite ?_ ?_
   | refine LeO.bind ?_ (fun _ => ?_)
set_option maxHeartbeats 8000000 in
set_option maxRecDepth 100000 in
theorem flagstoneref10_Open.calls (k : Nat) (P0_0_ : Nat → Prop) (A0_0 : Option Addr) (c0_0 : Nat) (l0_0 : List (S54)) (P0_1_ : Nat → Prop) (A0_1 : Option Addr) (c0_1 : Nat) (l0_1 : List (List Int)) (a1 : Int) (a2_0 : Int) (a2_1 : Int) (a2_2 : Bool) (a2_3 : Bool) (a2_4 : Int) (a2_5 : Int) (r1 : List (S54)) (r2 : List (List Int)) (r3 : Int) (r4 : Int) (w : World) (hs0_0 : Kd.V k54 54 w w.heap.size (fun k_ => P0_0_ k_) (.slice A0_0 l0_0.length c0_0) l0_0) (hs0_1 : Kd.V (Kd.slice 3 (Kd.int .i64)) 64 w w.heap.size (fun k_ => P0_1_ k_) (.slice A0_1 l0_1.length c0_1) l0_1) (h : flagstoneref10_Open.f k l0_0 l0_1 a1 a2_0 a2_1 a2_2 a2_3 a2_4 a2_5 = some (r1, r2, r3, r4)) :
  Calls Try.prog 25 #[.agg #[.slice A0_0 l0_0.length c0_0, .slice A0_1 l0_1.length c0_1], .int .i64 a1, .agg #[.int .i64 a2_0, .int .i64 a2_1, .bool a2_2, .bool a2_3, .int .i64 a2_4, .int .i64 a2_5]] w fun e w' => ∃ v0_ v1_ : Value, e = .returned (.tuple #[.agg #[v0_, v1_], .int .i64 r3, .int .i64 r4]) ∧ Kd.V k54 54 w' w.heap.size (fun k_ => ((P0_0_ k_ ∨ P0_1_ k_) ∨ w.heap.size ≤ k_)) v0_ r1 ∧ Kd.V (Kd.slice 3 (Kd.int .i64)) 64 w' w.heap.size (fun k_ => ((P0_0_ k_ ∨ P0_1_ k_) ∨ w.heap.size ≤ k_)) v1_ r2 ∧ Below w.heap.size w w' := by
 have hu31 := Try.underlying31
 have hu54 := Try.underlying54
 have HO0_0 := Am_ (show Kd.V k54 54 w w.heap.size (fun k_ => ((P0_0_ k_ ∨ P0_1_ k_) ∨ w.heap.size ≤ k_)) (.slice A0_0 l0_0.length c0_0) l0_0 from Vm_ hs0_0 (fun k_ hk => .inl (.inl hk)))
 have HO0_1 := Am_ (show Kd.V (Kd.slice 3 (Kd.int .i64)) 64 w w.heap.size (fun k_ => ((P0_0_ k_ ∨ P0_1_ k_) ∨ w.heap.size ≤ k_)) (.slice A0_1 l0_1.length c0_1) l0_1 from Vm_ hs0_1 (fun k_ hk => .inl (.inr hk)))
 have HB := Am_ (Below.refl w.heap.size w)
 have H : (if a1 < 0 then (flagstoneref10_Open.j0 k a1 true l0_0 l0_1 a2_0 a2_1 a2_2 a2_3 a2_4 a2_5) else (flagstoneref10_Open.j0 k a1 (decide (a1 ≥ (l0_1.length : Int))) l0_0 l0_1 a2_0 a2_1 a2_2 a2_3 a2_4 a2_5)) = some (r1, r2, r3, r4) := h
 clear h
 have HC4 := Am_ H
 clear H
 go_enter Try.func25, Try.ntmps25
 go_upto_region 1 with (first | ((with_reducible refine gate_dst (N := 3) rfl ?_); (try (refine gate_guard (by rfl) ?_; dsimp only)); refine box_event ?hg (N := 3) ?hd (cs := #[.slice A0_0 l0_0.length c0_0, .slice A0_1 l0_1.length c0_1]) (t := 31) ?hr ?_; (case hd => rfl); (case hg => rfl); (case hr => go_simp; try rfl); intro gb278 hg w5 hbox hb; have n0_ := Am_ (Vb_ (Ke_ (Pv_ HO0_0.out) gb278 (Nat.le_of_eq hg.symm)) hb); have n1_ := Am_ (Vb_ (Ke_ (Pv_ HO0_1.out) gb278 (Nat.le_of_eq hg.symm)) hb); have n2_ := Am_ (Be_ (Pb0_ HB.out) hb); have n3_ := Am_ (hbox); have n4_ := Am_ ((by rw [hg]; exact (Bz_ (Pb0_ HB.out)) : w.heap.size ≤ gb278)); have n5_ := Am_ ((by rw [hg]; exact (Bz_ (Pb0_ HB.out)) : w.heap.size ≤ gb278)); clear HO0_0; clear HO0_1; clear HB; have HO0_0 := n0_; have HO0_1 := n1_; have HB := n2_; have BK278 := n3_; have GW278 := n4_; have GE278 := n5_; clear n0_ n1_ n2_ n3_ n4_ n5_; clear hb hbox hg) | ((with_reducible refine gate_dst (N := 5) rfl ?_); (try (refine gate_guard (by rfl) ?_; dsimp only)); refine box_event ?hg (N := 5) ?hd (cs := #[.int .i64 a2_0, .int .i64 a2_1, .bool a2_2, .bool a2_3, .int .i64 a2_4, .int .i64 a2_5]) (t := 54) ?hr ?_; (case hd => rfl); (case hg => rfl); (case hr => go_simp; try rfl); intro gb279 hg w6 hbox hb; have n0_ := Am_ (Vb_ (Ke_ (Pv_ HO0_0.out) gb279 (Nat.le_of_eq hg.symm)) hb); have n1_ := Am_ (Vb_ (Ke_ (Pv_ HO0_1.out) gb279 (Nat.le_of_eq hg.symm)) hb); have n2_ := Am_ (Bb_ (g := gb278) (o := .cells #[.slice A0_0 l0_0.length c0_0, .slice A0_1 l0_1.length c0_1] 31 (0, 0)) (Pk_ BK278.out) hb); have n3_ := Am_ (Be_ (Pb1_ HB.out GE278.out) hb); have n4_ := Am_ (hbox); have n5_ := Am_ ((by rw [hg]; exact (Bz_ (Pb1_ HB.out GE278.out)) : w.heap.size ≤ gb279)); have n6_ := Am_ ((by rw [hg]; exact (Bz_ (Pb1_ HB.out GE278.out)) : w.heap.size ≤ gb279)); have n7_ := Am_ ((by rw [hg]; exact Nat.ne_of_lt (blk_lt (g := gb278) (o := .cells #[.slice A0_0 l0_0.length c0_0, .slice A0_1 l0_1.length c0_1] 31 (0, 0)) (Pk_ BK278.out)) : gb278 ≠ gb279)); have n8_ := Am_ ((by rw [hg]; exact Nat.ne_of_gt (blk_lt (g := gb278) (o := .cells #[.slice A0_0 l0_0.length c0_0, .slice A0_1 l0_1.length c0_1] 31 (0, 0)) (Pk_ BK278.out)) : gb279 ≠ gb278)); clear HO0_0; clear HO0_1; clear BK278; clear HB; have HO0_0 := n0_; have HO0_1 := n1_; have BK278 := n2_; have HB := n3_; have BK279 := n4_; have GW279 := n5_; have GE279 := n6_; have NB278_279 := n7_; have NB279_278 := n8_; clear n0_ n1_ n2_ n3_ n4_ n5_ n6_ n7_ n8_; clear hb hbox hg) | ((with_reducible refine gate_dst (N := 6) rfl ?_); (try (refine gate_guard (by rfl) ?_; dsimp only)); refine box_event ?hg (N := 6) ?hd (cs := #[.slice none 0 0, .slice none 0 0]) (t := 31) ?hr ?_; (case hd => rfl); (case hg => rfl); (case hr => go_simp; try rfl); intro gb280 hg w7 hbox hb; have n0_ := Am_ (Vb_ (Ke_ (Pv_ HO0_0.out) gb280 (Nat.le_of_eq hg.symm)) hb); have n1_ := Am_ (Vb_ (Ke_ (Pv_ HO0_1.out) gb280 (Nat.le_of_eq hg.symm)) hb); have n2_ := Am_ (Bb_ (g := gb278) (o := .cells #[.slice A0_0 l0_0.length c0_0, .slice A0_1 l0_1.length c0_1] 31 (0, 0)) (Pk_ BK278.out) hb); have n3_ := Am_ (Bb_ (g := gb279) (o := .cells #[.int .i64 a2_0, .int .i64 a2_1, .bool a2_2, .bool a2_3, .int .i64 a2_4, .int .i64 a2_5] 54 (0, 0)) (Pk_ BK279.out) hb); have n4_ := Am_ (Be_ (Pb2_ HB.out GE278.out GE279.out) hb); have n5_ := Am_ (hbox); have n6_ := Am_ ((by rw [hg]; exact (Bz_ (Pb2_ HB.out GE278.out GE279.out)) : w.heap.size ≤ gb280)); have n7_ := Am_ ((by rw [hg]; exact (Bz_ (Pb2_ HB.out GE278.out GE279.out)) : w.heap.size ≤ gb280)); have n8_ := Am_ ((by rw [hg]; exact Nat.ne_of_lt (blk_lt (g := gb278) (o := .cells #[.slice A0_0 l0_0.length c0_0, .slice A0_1 l0_1.length c0_1] 31 (0, 0)) (Pk_ BK278.out)) : gb278 ≠ gb280)); have n9_ := Am_ ((by rw [hg]; exact Nat.ne_of_gt (blk_lt (g := gb278) (o := .cells #[.slice A0_0 l0_0.length c0_0, .slice A0_1 l0_1.length c0_1] 31 (0, 0)) (Pk_ BK278.out)) : gb280 ≠ gb278)); have n10_ := Am_ ((by rw [hg]; exact Nat.ne_of_lt (blk_lt (g := gb279) (o := .cells #[.int .i64 a2_0, .int .i64 a2_1, .bool a2_2, .bool a2_3, .int .i64 a2_4, .int .i64 a2_5] 54 (0, 0)) (Pk_ BK279.out)) : gb279 ≠ gb280)); have n11_ := Am_ ((by rw [hg]; exact Nat.ne_of_gt (blk_lt (g := gb279) (o := .cells #[.int .i64 a2_0, .int .i64 a2_1, .bool a2_2, .bool a2_3, .int .i64 a2_4, .int .i64 a2_5] 54 (0, 0)) (Pk_ BK279.out)) : gb280 ≠ gb279)); clear HO0_0; clear HO0_1; clear BK278; clear BK279; clear HB; have HO0_0 := n0_; have HO0_1 := n1_; have BK278 := n2_; have BK279 := n3_; have HB := n4_; have BK280 := n5_; have GW280 := n6_; have GE280 := n7_; have NB278_280 := n8_; have NB280_278 := n9_; have NB279_280 := n10_; have NB280_279 := n11_; clear n0_ n1_ n2_ n3_ n4_ n5_ n6_ n7_ n8_ n9_ n10_ n11_; clear hb hbox hg))
 (try simp only [Act.put, La_, Lb_, Lc_])
 go_cut [20] (fun v20 wc => ∃ (kq : Nat) (x20_3 : Bool), v20 = .bool x20_3 ∧ Aside0 (flagstoneref10_Open.j0 kq a1 x20_3 l0_0 l0_1 a2_0 a2_1 a2_2 a2_3 a2_4 a2_5 = some (r1, r2, r3, r4)) ∧ Aside0 (kq ≤ k) ∧ Aside0 (Kd.V k54 54 wc w.heap.size (fun k_ => ((P0_0_ k_ ∨ P0_1_ k_) ∨ w.heap.size ≤ k_) ∧ k_ ≠ gb278 ∧ k_ ≠ gb279 ∧ k_ ≠ gb280) (.slice A0_0 l0_0.length c0_0) l0_0) ∧ Aside0 (Kd.V (Kd.slice 3 (Kd.int .i64)) 64 wc w.heap.size (fun k_ => ((P0_0_ k_ ∨ P0_1_ k_) ∨ w.heap.size ≤ k_) ∧ k_ ≠ gb278 ∧ k_ ≠ gb279 ∧ k_ ≠ gb280) (.slice A0_1 l0_1.length c0_1) l0_1) ∧ Aside0 (wc.heap[gb278]? = some (.cells #[(.slice A0_0 l0_0.length c0_0), (.slice A0_1 l0_1.length c0_1)] 31 (0, 0))) ∧ Aside0 (wc.heap[gb279]? = some (.cells #[.int .i64 a2_0, .int .i64 a2_1, .bool a2_2, .bool a2_3, .int .i64 a2_4, .int .i64 a2_5] 54 (0, 0))) ∧ Aside0 (wc.heap[gb280]? = some (.cells #[(.slice none 0 0), (.slice none 0 0)] 31 (0, 0))) ∧ Aside0 (Below w.heap.size w wc))
 case first =>
  have H := HC4.out
  clear HC4
  by_cases c8 : a1 < 0
  ·rw [if_pos c8] at H
   have c8b0 : decide (a1 < 0) = true := Dt_ c8
   clear c8
   (first | rw [c8b0] | (simp only [i64_w, i32_w]; rw [c8b0]) | skip)
   have H' := Am_ H
   clear H
   go_wp2
   go_meet
   case rel => exact ⟨_, (true), (by first | rfl | (simp; done) | (simp [*]; done)), H', ⟨by first | omega | exact Nat.le_refl _⟩, ⟨by (with_reducible repeat (first | apply Va_ | apply Vn_ | apply Vd_)); exact Vm_ HO0_0.out (fun _ hk => ⟨hk.1.1.1, ⟨hk.1.1.2, ⟨hk.1.2, hk.2⟩⟩⟩)⟩, ⟨by (with_reducible repeat (first | apply Va_ | apply Vn_ | apply Vd_)); exact Vm_ HO0_1.out (fun _ hk => ⟨hk.1.1.1, ⟨hk.1.1.2, ⟨hk.1.2, hk.2⟩⟩⟩)⟩, ⟨by (with_reducible repeat (first | refine Bn_ ?_ _ | refine Bd_ ?_ | refine Ba_ ?_ _)); exact BK278.out⟩, ⟨by (with_reducible repeat (first | refine Bn_ ?_ _ | refine Bd_ ?_ | refine Ba_ ?_ _)); exact BK279.out⟩, ⟨by (with_reducible repeat (first | refine Bn_ ?_ _ | refine Bd_ ?_ | refine Ba_ ?_ _)); exact BK280.out⟩, ⟨by repeat (first | (with_reducible first | exact HB.out | apply Pa_ | apply Pn_ | apply Pd_ | refine Bs_ ?_ GE278.out | refine Bs_ ?_ GE279.out | refine Bs_ ?_ GE280.out) | exact HB.out)⟩⟩
  ·rw [if_neg c8] at H
   have c8b0 : decide (a1 < 0) = false := Df_ c8
   clear c8
   (first | rw [c8b0] | (simp only [i64_w, i32_w]; rw [c8b0]) | skip)
   have H' := Am_ H
   clear H
   have hnb9 := NB278_279.out
   have hnc9 := NB279_278.out
   have hnb10 := NB278_280.out
   have hnc10 := NB280_278.out
   obtain ⟨hcz11_0, hcz11_1, hfz11_0, hfz11_1⟩ := Ce2_ BK278.out
   go_wp2
   go_meet
   case rel => exact ⟨_, (decide (a1 ≥ (l0_1.length : Int))), (by first | rfl | (simp; done) | (simp [*]; done)), H', ⟨by first | omega | exact Nat.le_refl _⟩, ⟨by (with_reducible repeat (first | apply Va_ | apply Vn_ | apply Vd_)); exact Vm_ HO0_0.out (fun _ hk => ⟨hk.1.1.1, ⟨hk.1.1.2, ⟨hk.1.2, hk.2⟩⟩⟩)⟩, ⟨by (with_reducible repeat (first | apply Va_ | apply Vn_ | apply Vd_)); exact Vm_ HO0_1.out (fun _ hk => ⟨hk.1.1.1, ⟨hk.1.1.2, ⟨hk.1.2, hk.2⟩⟩⟩)⟩, ⟨by (with_reducible repeat (first | refine Bn_ ?_ _ | refine Bd_ ?_ | refine Ba_ ?_ _)); exact BK278.out⟩, ⟨by (with_reducible repeat (first | refine Bn_ ?_ _ | refine Bd_ ?_ | refine Ba_ ?_ _)); exact BK279.out⟩, ⟨by (with_reducible repeat (first | refine Bn_ ?_ _ | refine Bd_ ?_ | refine Ba_ ?_ _)); exact BK280.out⟩, ⟨by repeat (first | (with_reducible first | exact HB.out | apply Pa_ | apply Pn_ | apply Pd_ | refine Bs_ ?_ GE278.out | refine Bs_ ?_ GE279.out | refine Bs_ ?_ GE280.out) | exact HB.out)⟩⟩
 case rest =>
  clear HC4
  try clear c1
  try clear c2
  try clear p2
  try clear c8
  try clear c8b0
  try clear c9
  try clear c10
  try clear hcz11_0
  try clear hcz11_1
  try clear hfz11_0
  try clear hfz11_1
  obtain ⟨kq, x20_3, rfl, HA, HJ3, HO_279000, HO_279001, BK278, BK279, BK280, HB⟩ := hcut
  cases kq with
  | zero => exact absurd HA.out (by simp [flagstoneref10_Open.j0])
  | succ kj3 =>
   have H := HA.out
   clear HA
   simp only [flagstoneref10_Open.j0] at H
   by_cases c12 : x20_3 = true
   ·subst c12
    have H1 : (some (l0_0, l0_1, 0, 1)) = some (r1, r2, r3, r4) := by rw [if_pos rfl] at H; exact H
    clear H
    have H := H1
    clear H1
    simp only [Option.some.injEq, Prod.mk.injEq] at H
    obtain ⟨rfl, rfl, rfl, rfl⟩ := H
    have hnb13 := NB278_279.out
    have hnc13 := NB279_278.out
    have hnb14 := NB278_280.out
    have hnc14 := NB280_278.out
    obtain ⟨hcz15_0, hcz15_1, hfz15_0, hfz15_1⟩ := Ce2_ BK278.out
    have hnb16 := NB280_279.out
    have hnc16 := NB279_280.out
    obtain ⟨hcz17_0, hcz17_1, hfz17_0, hfz17_1⟩ := Ce2_ BK280.out
    go_wp2
    refine bodyPost_ret (results_ctt rfl _ _ gb280 31 #[.slice A0_0 l0_0.length c0_0, .slice A0_1 l0_1.length c0_1] (0, 0) _ rfl (by (with_reducible repeat (first | refine Bn_ ?_ _ | refine Bd_ ?_ | refine Ba_ ?_ _)); refine Bp_ (cs := #[.slice A0_0 l0_0.length c0_0, .slice none 0 0]) ?_ 1 _ rfl; (with_reducible repeat (first | refine Bn_ ?_ _ | refine Bd_ ?_ | refine Ba_ ?_ _)); refine Bp_ (cs := #[.slice none 0 0, .slice none 0 0]) ?_ 0 _ rfl; (with_reducible repeat (first | refine Bn_ ?_ _ | refine Bd_ ?_ | refine Ba_ ?_ _)); exact BK280.out) Try.underlying31 rfl (by kernel_rfl)) rfl ?_
    exact ⟨_, _, by first | rfl | (simp [errW_none, errW_some] <;> rfl) | (simp [*, errW_none, errW_some] <;> rfl), by (with_reducible repeat (first | apply Va_ | apply Vn_ | apply Vd_)); exact Vm_ (Vf_ (p := ⟨gb280, 1, none⟩) (Vf_ (p := ⟨gb280, 0, none⟩) (Vm_ HO_279000.out (fun k_ hk => (⟨hk, hk.2.2.2⟩ : _ ∧ k_ ≠ gb280))) (fun _ hk => hk.2) (.slice A0_0 l0_0.length c0_0)) (fun _ hk => hk.2) (.slice A0_1 l0_1.length c0_1)) (fun _ hk => hk.1.1), by (with_reducible repeat (first | apply Va_ | apply Vn_ | apply Vd_)); exact Vm_ (Vf_ (p := ⟨gb280, 1, none⟩) (Vf_ (p := ⟨gb280, 0, none⟩) (Vm_ HO_279001.out (fun k_ hk => (⟨hk, hk.2.2.2⟩ : _ ∧ k_ ≠ gb280))) (fun _ hk => hk.2) (.slice A0_0 l0_0.length c0_0)) (fun _ hk => hk.2) (.slice A0_1 l0_1.length c0_1)) (fun _ hk => hk.1.1), by repeat (first | (with_reducible first | exact HB.out | apply Pa_ | apply Pn_ | apply Pd_ | refine Bs_ ?_ GE278.out | refine Bs_ ?_ GE279.out | refine Bs_ ?_ GE280.out) | exact HB.out)⟩
   ·replace c12 := Bool.eq_false_iff.mpr c12
    subst c12
    have H1 : ((flagstoneref10_first.f kj3 l0_0 l0_1 a1).bind fun t281 => (if t281 < 0 then (some (l0_0, l0_1, 0, 13)) else ((flagstoneref10_copied.f kj3 l0_0 l0_1).bind fun bt282 => (flagstoneref10_Open.l0 kj3 a1 t281 0 a2_0 a2_1 a2_2 a2_3 1 a2_5 bt282.1 bt282.2)))) = some (r1, r2, r3, r4) := by rw [if_neg (show ¬ (false = true) by decide)] at H; exact H
    clear H
    have H := H1
    clear H1
    replace H := Option.bind_eq_some_iff.mp H
    obtain ⟨t281, A180, H⟩ := H
    replace H : (if t281 < 0 then (some (l0_0, l0_1, 0, 13)) else ((flagstoneref10_copied.f kj3 l0_0 l0_1).bind fun bt282 => (flagstoneref10_Open.l0 kj3 a1 t281 0 a2_0 a2_1 a2_2 a2_3 1 a2_5 bt282.1 bt282.2))) = some (r1, r2, r3, r4) := H
    have A18 := Am_ A180
    clear A180
    by_cases c19 : t281 < 0
    ·rw [if_pos c19] at H
     have c19b0 : decide (t281 < 0) = true := Dt_ c19
     clear c19
     simp only [Option.some.injEq, Prod.mk.injEq] at H
     obtain ⟨rfl, rfl, rfl, rfl⟩ := H
     have hnb20 := NB278_279.out
     have hnc20 := NB279_278.out
     have hnb21 := NB278_280.out
     have hnc21 := NB280_278.out
     obtain ⟨hcz22_0, hcz22_1, hfz22_0, hfz22_1⟩ := Ce2_ BK278.out
     go_wp2_with (first | ((with_reducible refine gate_callee (f := 39) rfl ?_); refine goesL_ (some 24) rfl rfl Try.func39 (by kernel_rfl) rfl #[.agg #[.slice A0_0 l0_0.length c0_0, .slice A0_1 l0_1.length c0_1], .int .i64 a1] rfl (by (try simp only [List.map_toArray, List.map_cons, List.map_nil]); first | done | rfl | (simp only [List.length_drop, List.length_take]; rfl)) ?_; (with_reducible refine (flagstoneref10_first.calls kj3 _ _ l0_0 _ _ l0_1 a1 t281 _ ?side1 ?side2 ?side3 ?side4 A18.out).mono ?_); (case side1 => repeat (first | exact (Vr_ HO_279000.out).2.2 | (with_reducible refine Kd.C_alloc ?_ _) | (with_reducible refine Kd.C_drewN ?_ _) | (with_reducible refine Kd.C_drew ?_))); (case side2 => exact (Vr_ HO_279000.out).2.1); (case side3 => repeat (first | exact (Vr_ HO_279001.out).2.2 | (with_reducible refine Kd.C_alloc ?_ _) | (with_reducible refine Kd.C_drewN ?_ _) | (with_reducible refine Kd.C_drew ?_))); (case side4 => exact (Vr_ HO_279001.out).2.1); rintro e w23 ⟨rfl, hb⟩; refine ⟨_, rfl, ?_⟩; have n0_ := Am_ (Vb_ (Pv_ HO_279000.out) hb); have n1_ := Am_ (Vb_ (Pv_ HO_279001.out) hb); have n2_ := Am_ (Bb_ (g := gb278) (o := .cells #[.slice A0_0 l0_0.length c0_0, .slice A0_1 l0_1.length c0_1] 31 (0, 0)) (Pk_ BK278.out) hb); have n3_ := Am_ (Bb_ (g := gb279) (o := .cells #[.int .i64 a2_0, .int .i64 a2_1, .bool a2_2, .bool a2_3, .int .i64 a2_4, .int .i64 a2_5] 54 (0, 0)) (Pk_ BK279.out) hb); have n4_ := Am_ (Bb_ (g := gb280) (o := .cells #[.slice none 0 0, .slice none 0 0] 31 (0, 0)) (Pk_ BK280.out) hb); have n5_ := Am_ (Be_ (Pb3_ HB.out GE278.out GE279.out GE280.out) hb); clear HO_279000; clear HO_279001; clear BK278; clear BK279; clear BK280; clear HB; have HO_279000 := n0_; have HO_279001 := n1_; have BK278 := n2_; have BK279 := n3_; have BK280 := n4_; have HB := n5_; clear n0_ n1_ n2_ n3_ n4_ n5_; (try clear hb); (try clear hb2); (try clear hk); (try clear hi); obtain ⟨hcz24_0, hcz24_1, hfz24_0, hfz24_1⟩ := Ce2_ BK278.out; have hnb25 := NB280_279.out; have hnc25 := NB279_280.out; obtain ⟨hcz26_0, hcz26_1, hfz26_0, hfz26_1⟩ := Ce2_ BK280.out))
     refine bodyPost_ret (results_ctt rfl _ _ gb280 31 #[.slice A0_0 l0_0.length c0_0, .slice A0_1 l0_1.length c0_1] (0, 0) _ rfl (by (with_reducible repeat (first | refine Bn_ ?_ _ | refine Bd_ ?_ | refine Ba_ ?_ _)); refine Bp_ (cs := #[.slice A0_0 l0_0.length c0_0, .slice none 0 0]) ?_ 1 _ rfl; (with_reducible repeat (first | refine Bn_ ?_ _ | refine Bd_ ?_ | refine Ba_ ?_ _)); refine Bp_ (cs := #[.slice none 0 0, .slice none 0 0]) ?_ 0 _ rfl; (with_reducible repeat (first | refine Bn_ ?_ _ | refine Bd_ ?_ | refine Ba_ ?_ _)); exact BK280.out) Try.underlying31 rfl (by kernel_rfl)) rfl ?_
     exact ⟨_, _, by first | rfl | (simp [errW_none, errW_some] <;> rfl) | (simp [*, errW_none, errW_some] <;> rfl), by (with_reducible repeat (first | apply Va_ | apply Vn_ | apply Vd_)); exact Vm_ (Vf_ (p := ⟨gb280, 1, none⟩) (Vf_ (p := ⟨gb280, 0, none⟩) (Vm_ HO_279000.out (fun k_ hk => (⟨hk, hk.2.2.2⟩ : _ ∧ k_ ≠ gb280))) (fun _ hk => hk.2) (.slice A0_0 l0_0.length c0_0)) (fun _ hk => hk.2) (.slice A0_1 l0_1.length c0_1)) (fun _ hk => hk.1.1), by (with_reducible repeat (first | apply Va_ | apply Vn_ | apply Vd_)); exact Vm_ (Vf_ (p := ⟨gb280, 1, none⟩) (Vf_ (p := ⟨gb280, 0, none⟩) (Vm_ HO_279001.out (fun k_ hk => (⟨hk, hk.2.2.2⟩ : _ ∧ k_ ≠ gb280))) (fun _ hk => hk.2) (.slice A0_0 l0_0.length c0_0)) (fun _ hk => hk.2) (.slice A0_1 l0_1.length c0_1)) (fun _ hk => hk.1.1), by repeat (first | (with_reducible first | exact HB.out | apply Pa_ | apply Pn_ | apply Pd_ | refine Bs_ ?_ GE278.out | refine Bs_ ?_ GE279.out | refine Bs_ ?_ GE280.out) | exact HB.out)⟩
    ·rw [if_neg c19] at H
     have c19b0 : decide (t281 < 0) = false := Df_ c19
     clear c19
     replace H := Option.bind_eq_some_iff.mp H
     obtain ⟨⟨t282, t285⟩, A270, H⟩ := H
     replace H : (flagstoneref10_Open.l0 kj3 a1 t281 0 a2_0 a2_1 a2_2 a2_3 1 a2_5 t282 t285) = some (r1, r2, r3, r4) := H
     have A27 := Am_ A270
     clear A270
     have H' := Am_ H
     clear H
     have hnb28 := NB278_279.out
     have hnc28 := NB279_278.out
     have hnb29 := NB278_280.out
     have hnc29 := NB280_278.out
     obtain ⟨hcz30_0, hcz30_1, hfz30_0, hfz30_1⟩ := Ce2_ BK278.out
     go_wp2_with (first | ((with_reducible refine gate_callee (f := 39) rfl ?_); refine goesL_ (some 24) rfl rfl Try.func39 (by kernel_rfl) rfl #[.agg #[.slice A0_0 l0_0.length c0_0, .slice A0_1 l0_1.length c0_1], .int .i64 a1] rfl (by (try simp only [List.map_toArray, List.map_cons, List.map_nil]); first | done | rfl | (simp only [List.length_drop, List.length_take]; rfl)) ?_; (with_reducible refine (flagstoneref10_first.calls kj3 _ _ l0_0 _ _ l0_1 a1 t281 _ ?side1 ?side2 ?side3 ?side4 A18.out).mono ?_); (case side1 => repeat (first | exact (Vr_ HO_279000.out).2.2 | (with_reducible refine Kd.C_alloc ?_ _) | (with_reducible refine Kd.C_drewN ?_ _) | (with_reducible refine Kd.C_drew ?_))); (case side2 => exact (Vr_ HO_279000.out).2.1); (case side3 => repeat (first | exact (Vr_ HO_279001.out).2.2 | (with_reducible refine Kd.C_alloc ?_ _) | (with_reducible refine Kd.C_drewN ?_ _) | (with_reducible refine Kd.C_drew ?_))); (case side4 => exact (Vr_ HO_279001.out).2.1); rintro e w31 ⟨rfl, hb⟩; refine ⟨_, rfl, ?_⟩; have n0_ := Am_ (Vb_ (Pv_ HO_279000.out) hb); have n1_ := Am_ (Vb_ (Pv_ HO_279001.out) hb); have n2_ := Am_ (Bb_ (g := gb278) (o := .cells #[.slice A0_0 l0_0.length c0_0, .slice A0_1 l0_1.length c0_1] 31 (0, 0)) (Pk_ BK278.out) hb); have n3_ := Am_ (Bb_ (g := gb279) (o := .cells #[.int .i64 a2_0, .int .i64 a2_1, .bool a2_2, .bool a2_3, .int .i64 a2_4, .int .i64 a2_5] 54 (0, 0)) (Pk_ BK279.out) hb); have n4_ := Am_ (Bb_ (g := gb280) (o := .cells #[.slice none 0 0, .slice none 0 0] 31 (0, 0)) (Pk_ BK280.out) hb); have n5_ := Am_ (Be_ (Pb3_ HB.out GE278.out GE279.out GE280.out) hb); clear HO_279000; clear HO_279001; clear BK278; clear BK279; clear BK280; clear HB; have HO_279000 := n0_; have HO_279001 := n1_; have BK278 := n2_; have BK279 := n3_; have BK280 := n4_; have HB := n5_; clear n0_ n1_ n2_ n3_ n4_ n5_; (try clear hb); (try clear hb2); (try clear hk); (try clear hi); obtain ⟨hcz32_0, hcz32_1, hfz32_0, hfz32_1⟩ := Ce2_ BK278.out) | ((with_reducible refine gate_callee (f := 40) rfl ?_); refine goesL_ (some 29) rfl rfl Try.func40 (by kernel_rfl) rfl #[.agg #[.slice A0_0 l0_0.length c0_0, .slice A0_1 l0_1.length c0_1]] rfl (by (try simp only [List.map_toArray, List.map_cons, List.map_nil]); first | done | rfl | (simp only [List.length_drop, List.length_take]; rfl)) ?_; (with_reducible refine (flagstoneref10_copied.calls kj3 _ _ l0_0 _ _ l0_1 t282 t285 _ ?side1 ?side2 ?side3 ?side4 A27.out).mono ?_); (case side1 => repeat (first | exact (Vr_ HO_279000.out).2.2 | (with_reducible refine Kd.C_alloc ?_ _) | (with_reducible refine Kd.C_drewN ?_ _) | (with_reducible refine Kd.C_drew ?_))); (case side2 => exact (Vr_ HO_279000.out).2.1); (case side3 => repeat (first | exact (Vr_ HO_279001.out).2.2 | (with_reducible refine Kd.C_alloc ?_ _) | (with_reducible refine Kd.C_drewN ?_ _) | (with_reducible refine Kd.C_drew ?_))); (case side4 => exact (Vr_ HO_279001.out).2.1); rintro e w33 ⟨v283, v286, rfl, ho0, ho1, hb⟩; refine ⟨_, rfl, ?_⟩; have n0_ := Am_ (Vm_ (Kd.V_told (Kd.V_told (Kd.V_old (Pv_ HO_279000.out) hb) (Kd.R_base ho0)) (Kd.S_base ho1)) (fun _ h_ => h_.1)); have n1_ := Am_ (Vm_ (Kd.V_told (Kd.V_told (Kd.V_old (Pv_ HO_279001.out) hb) (Kd.R_base ho0)) (Kd.S_base ho1)) (fun _ h_ => h_.1)); have n2_ := Am_ (Kd.R_lower (Kd.R_newB (Kd.R_newM (M := fun k_ => (w.heap.size ≤ k_)) ho0 (Bz_ (Pb3_ HB.out GE278.out GE279.out GE280.out)) (fun k_ h_ => h_)) (g := gb279) (o := .cells #[.int .i64 a2_0, .int .i64 a2_1, .bool a2_2, .bool a2_3, .int .i64 a2_4, .int .i64 a2_5] 54 (0, 0)) (Pk_ BK279.out)) (Bz_ (Pb3_ HB.out GE278.out GE279.out GE280.out))); have n3_ := Am_ (Kd.S_lower (Kd.S_newM (M := fun k_ => (w.heap.size ≤ k_)) ho1 (Bz_ (Pb3_ HB.out GE278.out GE279.out GE280.out)) (fun k_ h_ => h_)) (Bz_ (Pb3_ HB.out GE278.out GE279.out GE280.out))); have n4_ := Am_ (Bb_ (g := gb278) (o := .cells #[.slice A0_0 l0_0.length c0_0, .slice A0_1 l0_1.length c0_1] 31 (0, 0)) (Pk_ BK278.out) hb); have n5_ := Am_ (Bb_ (g := gb279) (o := .cells #[.int .i64 a2_0, .int .i64 a2_1, .bool a2_2, .bool a2_3, .int .i64 a2_4, .int .i64 a2_5] 54 (0, 0)) (Pk_ BK279.out) hb); have n6_ := Am_ (Bb_ (g := gb280) (o := .cells #[.slice none 0 0, .slice none 0 0] 31 (0, 0)) (Pk_ BK280.out) hb); have n7_ := Am_ (Be_ (Pb3_ HB.out GE278.out GE279.out GE280.out) hb); clear HO_279000; clear HO_279001; clear BK278; clear BK279; clear BK280; clear HB; have HO_279000 := n0_; have HO_279001 := n1_; have HO284 := n2_; have HO287 := n3_; have BK278 := n4_; have BK279 := n5_; have BK280 := n6_; have HB := n7_; clear n0_ n1_ n2_ n3_ n4_ n5_ n6_ n7_; (try clear hb); (try clear hb2); (try clear hk); (try clear hi); (try clear ho0); (try clear ho1)) | ((with_reducible refine gate_dst (N := 10) rfl ?_); (try (refine gate_guard (by rfl) ?_; dsimp only)); refine box_event ?hg (N := 10) ?hd (cs := #[.slice none 0 0, .slice none 0 0]) (t := 31) ?hr ?_; (case hd => rfl); (case hg => rfl); (case hr => go_simp; try rfl); intro gb288 hg w34 hbox hb; have n0_ := Am_ (Vb_ (Ke_ (Pv_ HO_279000.out) gb288 (Nat.le_of_eq hg.symm)) hb); have n1_ := Am_ (Vb_ (Ke_ (Pv_ HO_279001.out) gb288 (Nat.le_of_eq hg.symm)) hb); have n2_ := Am_ (Rb_ (Px_ HO284.out) hb); have n3_ := Am_ (Kd.S_below (Py_ HO287.out) hb); have n4_ := Am_ (Bb_ (g := gb278) (o := .cells #[.slice A0_0 l0_0.length c0_0, .slice A0_1 l0_1.length c0_1] 31 (0, 0)) (Pk_ BK278.out) hb); have n5_ := Am_ (Bb_ (g := gb279) (o := .cells #[.int .i64 a2_0, .int .i64 a2_1, .bool a2_2, .bool a2_3, .int .i64 a2_4, .int .i64 a2_5] 54 (0, 0)) (Pk_ BK279.out) hb); have n6_ := Am_ (Bb_ (g := gb280) (o := .cells #[.slice none 0 0, .slice none 0 0] 31 (0, 0)) (Pk_ BK280.out) hb); have n7_ := Am_ (Be_ (Pb3_ HB.out GE278.out GE279.out GE280.out) hb); have n8_ := Am_ (hbox); have n9_ := Am_ ((by rw [hg]; exact (Bz_ (Pb3_ HB.out GE278.out GE279.out GE280.out)) : w.heap.size ≤ gb288)); have n10_ := Am_ ((by rw [hg]; exact (Bz_ (Pb3_ HB.out GE278.out GE279.out GE280.out)) : w.heap.size ≤ gb288)); have n11_ := Am_ ((by rw [hg]; exact Nat.ne_of_lt (blk_lt (g := gb278) (o := .cells #[.slice A0_0 l0_0.length c0_0, .slice A0_1 l0_1.length c0_1] 31 (0, 0)) (Pk_ BK278.out)) : gb278 ≠ gb288)); have n12_ := Am_ ((by rw [hg]; exact Nat.ne_of_gt (blk_lt (g := gb278) (o := .cells #[.slice A0_0 l0_0.length c0_0, .slice A0_1 l0_1.length c0_1] 31 (0, 0)) (Pk_ BK278.out)) : gb288 ≠ gb278)); have n13_ := Am_ ((by rw [hg]; exact Nat.ne_of_lt (blk_lt (g := gb279) (o := .cells #[.int .i64 a2_0, .int .i64 a2_1, .bool a2_2, .bool a2_3, .int .i64 a2_4, .int .i64 a2_5] 54 (0, 0)) (Pk_ BK279.out)) : gb279 ≠ gb288)); have n14_ := Am_ ((by rw [hg]; exact Nat.ne_of_gt (blk_lt (g := gb279) (o := .cells #[.int .i64 a2_0, .int .i64 a2_1, .bool a2_2, .bool a2_3, .int .i64 a2_4, .int .i64 a2_5] 54 (0, 0)) (Pk_ BK279.out)) : gb288 ≠ gb279)); have n15_ := Am_ ((by rw [hg]; exact Nat.ne_of_lt (blk_lt (g := gb280) (o := .cells #[.slice none 0 0, .slice none 0 0] 31 (0, 0)) (Pk_ BK280.out)) : gb280 ≠ gb288)); have n16_ := Am_ ((by rw [hg]; exact Nat.ne_of_gt (blk_lt (g := gb280) (o := .cells #[.slice none 0 0, .slice none 0 0] 31 (0, 0)) (Pk_ BK280.out)) : gb288 ≠ gb280)); clear HO_279000; clear HO_279001; clear HO284; clear HO287; clear BK278; clear BK279; clear BK280; clear HB; have HO_279000 := n0_; have HO_279001 := n1_; have HO284 := n2_; have HO287 := n3_; have BK278 := n4_; have BK279 := n5_; have BK280 := n6_; have HB := n7_; have BK288 := n8_; have GW288 := n9_; have GE288 := n10_; have NB278_288 := n11_; have NB288_278 := n12_; have NB279_288 := n13_; have NB288_279 := n14_; have NB280_288 := n15_; have NB288_280 := n16_; clear n0_ n1_ n2_ n3_ n4_ n5_ n6_ n7_ n8_ n9_ n10_ n11_ n12_ n13_ n14_ n15_ n16_; clear hb hbox hg; obtain ⟨Ao35, co35, eo35⟩ := Kd.R_slice HO284.out; subst eo35; have hnb36 := NB288_278.out; have hnc36 := NB278_288.out; have hnb37 := NB288_279.out; have hnc37 := NB279_288.out; have hnb38 := NB288_280.out; have hnc38 := NB280_288.out; obtain ⟨hcz39_0, hcz39_1, hfz39_0, hfz39_1⟩ := Ce2_ BK288.out; obtain ⟨Ao40, co40, eo40⟩ := Kd.S_slice HO287.out; subst eo40; have hnb41 := NB279_280.out; have hnc41 := NB280_279.out; obtain ⟨hcz42_0, hcz42_1, hcz42_2, hcz42_3, hcz42_4, hcz42_5, hfz42_0, hfz42_1, hfz42_2, hfz42_3, hfz42_4, hfz42_5⟩ := Ce6_ BK279.out))
     go_loopg [11] kj3 (fun kq v11 w' => ∃ (x11_2 : Int), v11 = .int .i64 x11_2 ∧ Aside0 (flagstoneref10_Open.l0 kq a1 t281 x11_2 a2_0 a2_1 a2_2 a2_3 1 a2_5 t282 t285 = some (r1, r2, r3, r4)) ∧ Aside0 (kq ≤ kj3) ∧ Aside0 (Kd.V k54 54 w' w.heap.size (fun k_ => ((P0_0_ k_ ∨ P0_1_ k_) ∨ w.heap.size ≤ k_) ∧ some k_ ≠ ((.slice Ao35 t282.length co35) : Value).ownBlock ∧ some k_ ≠ ((.slice Ao40 t285.length co40) : Value).ownBlock ∧ k_ ≠ gb278 ∧ k_ ≠ gb279 ∧ k_ ≠ gb280 ∧ k_ ≠ gb288) (.slice A0_0 l0_0.length c0_0) l0_0) ∧ Aside0 (Kd.V (Kd.slice 3 (Kd.int .i64)) 64 w' w.heap.size (fun k_ => ((P0_0_ k_ ∨ P0_1_ k_) ∨ w.heap.size ≤ k_) ∧ some k_ ≠ ((.slice Ao35 t282.length co35) : Value).ownBlock ∧ some k_ ≠ ((.slice Ao40 t285.length co40) : Value).ownBlock ∧ k_ ≠ gb278 ∧ k_ ≠ gb279 ∧ k_ ≠ gb280 ∧ k_ ≠ gb288) (.slice A0_1 l0_1.length c0_1) l0_1) ∧ Aside0 (Kd.R k54 54 w' w.heap.size (fun k_ => (w.heap.size ≤ k_) ∧ k_ ≠ gb279) (.slice Ao35 t282.length co35) t282) ∧ Aside0 (Kd.S (Kd.slice 3 (Kd.int .i64)) 64 w' w.heap.size (fun k_ => (w.heap.size ≤ k_)) (.slice Ao40 t285.length co40) t285) ∧ Aside0 (w'.heap[gb278]? = some (.cells #[(.slice A0_0 l0_0.length c0_0), (.slice A0_1 l0_1.length c0_1)] 31 (0, 0))) ∧ Aside0 (w'.heap[gb279]? = some (.cells #[.int .i64 a2_0, .int .i64 a2_1, .bool a2_2, .bool a2_3, .int .i64 1, .int .i64 a2_5] 54 (0, 0))) ∧ Aside0 (w'.heap[gb280]? = some (.cells #[(.slice none 0 0), (.slice none 0 0)] 31 (0, 0))) ∧ Aside0 (w'.heap[gb288]? = some (.cells #[(.slice Ao35 t282.length co35), (.slice Ao40 t285.length co40)] 31 (0, 0))) ∧ Aside0 (Below w.heap.size w w'))
     case atStart => exact ⟨(0), (by first | rfl | (simp; done) | (simp [*]; done)), H', ⟨Nat.le_refl _⟩, ⟨by (with_reducible repeat (first | apply Va_ | apply Vn_ | apply Vd_)); exact Vm_ (Vf_ (p := ⟨gb279, 4, none⟩) (Vf_ (p := ⟨gb288, 1, none⟩) (Vf_ (p := ⟨gb288, 0, none⟩) (Vm_ (Vm_ HO_279000.out (fun k_ hk => (⟨hk, hk.2⟩ : _ ∧ k_ ≠ gb288))) (fun k_ hk => (⟨hk, hk.1.1.1.1.2.2.1⟩ : _ ∧ k_ ≠ gb279))) (fun _ hk => hk.1.2) (.slice Ao35 t282.length co35)) (fun _ hk => hk.1.2) (.slice Ao40 t285.length co40)) (fun _ hk => hk.2) (.int .i64 1)) (fun _ hk => ⟨hk.1.1.1.1.1.1, ⟨hk.1.1.1.1.2, ⟨hk.1.1.1.2, ⟨hk.1.1.1.1.1.2.1, ⟨hk.1.1.1.1.1.2.2.1, ⟨hk.1.1.1.1.1.2.2.2, hk.1.1.2⟩⟩⟩⟩⟩⟩)⟩, ⟨by (with_reducible repeat (first | apply Va_ | apply Vn_ | apply Vd_)); exact Vm_ (Vf_ (p := ⟨gb279, 4, none⟩) (Vf_ (p := ⟨gb288, 1, none⟩) (Vf_ (p := ⟨gb288, 0, none⟩) (Vm_ (Vm_ HO_279001.out (fun k_ hk => (⟨hk, hk.2⟩ : _ ∧ k_ ≠ gb288))) (fun k_ hk => (⟨hk, hk.1.1.1.1.2.2.1⟩ : _ ∧ k_ ≠ gb279))) (fun _ hk => hk.1.2) (.slice Ao35 t282.length co35)) (fun _ hk => hk.1.2) (.slice Ao40 t285.length co40)) (fun _ hk => hk.2) (.int .i64 1)) (fun _ hk => ⟨hk.1.1.1.1.1.1, ⟨hk.1.1.1.1.2, ⟨hk.1.1.1.2, ⟨hk.1.1.1.1.1.2.1, ⟨hk.1.1.1.1.1.2.2.1, ⟨hk.1.1.1.1.1.2.2.2, hk.1.1.2⟩⟩⟩⟩⟩⟩)⟩, ⟨by (with_reducible repeat (first | apply Ra_ | apply Rn_ | apply Rd_)); exact Kd.R_mono (Kd.R_far (p := ⟨gb279, 4, none⟩) (Kd.R_far (p := ⟨gb288, 1, none⟩) (Kd.R_far (p := ⟨gb288, 0, none⟩) (Kd.R_mono (Kd.R_types HO284.out BK288.out (by decide)) (fun k_ hk => (⟨hk, hk.1.2⟩ : _ ∧ k_ ≠ gb279))) (fun _ hk => hk.1.2) (.slice Ao35 t282.length co35)) (fun _ hk => hk.1.2) (.slice Ao40 t285.length co40)) (fun _ hk => hk.2) (.int .i64 1)) (fun _ hk => ⟨hk.1.1.1.1, hk.1.1.2⟩)⟩, ⟨by (with_reducible repeat (first | apply Kd.S_alloc | apply Kd.S_drewN | apply Kd.S_drew)); exact Kd.S_mono (Kd.S_far (p := ⟨gb279, 4, none⟩) (Kd.S_far (p := ⟨gb288, 1, none⟩) (Kd.S_far (p := ⟨gb288, 0, none⟩) (Kd.S_types (Kd.S_types HO287.out BK288.out (by decide)) BK279.out (by decide)) (fun _ hk => hk.1.2) (.slice Ao35 t282.length co35)) (fun _ hk => hk.1.2) (.slice Ao40 t285.length co40)) (fun _ hk => hk.2) (.int .i64 1)) (fun _ hk => hk.1.1.1)⟩, ⟨by (with_reducible repeat (first | refine Bn_ ?_ _ | refine Bd_ ?_ | refine Ba_ ?_ _)); refine blk_far ?_ NB278_279.out _; (with_reducible repeat (first | refine Bn_ ?_ _ | refine Bd_ ?_ | refine Ba_ ?_ _)); refine blk_far ?_ NB278_288.out _; (with_reducible repeat (first | refine Bn_ ?_ _ | refine Bd_ ?_ | refine Ba_ ?_ _)); refine blk_far ?_ NB278_288.out _; (with_reducible repeat (first | refine Bn_ ?_ _ | refine Bd_ ?_ | refine Ba_ ?_ _)); exact BK278.out⟩, ⟨by (with_reducible repeat (first | refine Bn_ ?_ _ | refine Bd_ ?_ | refine Ba_ ?_ _)); refine Bp_ (cs := #[.int .i64 a2_0, .int .i64 a2_1, .bool a2_2, .bool a2_3, .int .i64 a2_4, .int .i64 a2_5]) ?_ 4 _ rfl; (with_reducible repeat (first | refine Bn_ ?_ _ | refine Bd_ ?_ | refine Ba_ ?_ _)); refine blk_far ?_ NB279_288.out _; (with_reducible repeat (first | refine Bn_ ?_ _ | refine Bd_ ?_ | refine Ba_ ?_ _)); refine blk_far ?_ NB279_288.out _; (with_reducible repeat (first | refine Bn_ ?_ _ | refine Bd_ ?_ | refine Ba_ ?_ _)); exact BK279.out⟩, ⟨by (with_reducible repeat (first | refine Bn_ ?_ _ | refine Bd_ ?_ | refine Ba_ ?_ _)); refine blk_far ?_ NB280_279.out _; (with_reducible repeat (first | refine Bn_ ?_ _ | refine Bd_ ?_ | refine Ba_ ?_ _)); refine blk_far ?_ NB280_288.out _; (with_reducible repeat (first | refine Bn_ ?_ _ | refine Bd_ ?_ | refine Ba_ ?_ _)); refine blk_far ?_ NB280_288.out _; (with_reducible repeat (first | refine Bn_ ?_ _ | refine Bd_ ?_ | refine Ba_ ?_ _)); exact BK280.out⟩, ⟨by (with_reducible repeat (first | refine Bn_ ?_ _ | refine Bd_ ?_ | refine Ba_ ?_ _)); refine blk_far ?_ NB288_279.out _; (with_reducible repeat (first | refine Bn_ ?_ _ | refine Bd_ ?_ | refine Ba_ ?_ _)); refine Bp_ (cs := #[.slice Ao35 t282.length co35, .slice none 0 0]) ?_ 1 _ rfl; (with_reducible repeat (first | refine Bn_ ?_ _ | refine Bd_ ?_ | refine Ba_ ?_ _)); refine Bp_ (cs := #[.slice none 0 0, .slice none 0 0]) ?_ 0 _ rfl; (with_reducible repeat (first | refine Bn_ ?_ _ | refine Bd_ ?_ | refine Ba_ ?_ _)); exact BK288.out⟩, ⟨by repeat (first | (with_reducible first | exact HB.out | apply Pa_ | apply Pn_ | apply Pd_ | refine Bs_ ?_ GE278.out | refine Bs_ ?_ GE279.out | refine Bs_ ?_ GE280.out | refine Bs_ ?_ GE288.out) | exact HB.out)⟩⟩
     case round =>
      clear H'
      try clear c1
      try clear c2
      try clear p2
      try clear c3
      try clear c4
      try clear c8
      try clear c8b0
      try clear c9
      try clear c10
      try clear c12
      try clear c13
      try clear c14
      try clear c16
      try clear c19
      try clear c19b0
      try clear c20
      try clear c21
      try clear c25
      try clear c28
      try clear c29
      try clear c36
      try clear c37
      try clear c38
      try clear c39
      try clear c40
      try clear c41
      try clear hcz11_0
      try clear hcz11_1
      try clear hcz15_0
      try clear hcz15_1
      try clear hcz17_0
      try clear hcz17_1
      try clear hcz22_0
      try clear hcz22_1
      try clear hcz24_0
      try clear hcz24_1
      try clear hcz26_0
      try clear hcz26_1
      try clear hcz30_0
      try clear hcz30_1
      try clear hcz32_0
      try clear hcz32_1
      try clear hcz39_0
      try clear hcz39_1
      try clear hcz42_0
      try clear hcz42_1
      try clear hcz42_2
      try clear hcz42_3
      try clear hcz42_4
      try clear hcz42_5
      try clear hfz11_0
      try clear hfz11_1
      try clear hfz15_0
      try clear hfz15_1
      try clear hfz17_0
      try clear hfz17_1
      try clear hfz22_0
      try clear hfz22_1
      try clear hfz24_0
      try clear hfz24_1
      try clear hfz26_0
      try clear hfz26_1
      try clear hfz30_0
      try clear hfz30_1
      try clear hfz32_0
      try clear hfz32_1
      try clear hfz39_0
      try clear hfz39_1
      try clear hfz42_0
      try clear hfz42_1
      try clear hfz42_2
      try clear hfz42_3
      try clear hfz42_4
      try clear hfz42_5
      try clear p2
      obtain ⟨x11_2, rfl, HA, HK2, HO_279000, HO_279001, HO_289000, HO_289001, BK278, BK279, BK280, BK288, HB⟩ := hrel
      cases gk with
      | zero => exact absurd HA.out (by simp [flagstoneref10_Open.l0])
      | succ k2 =>
       have H := HA.out
       clear HA
       simp only [flagstoneref10_Open.l0] at H
       by_cases c43 : x11_2 < (t282.length : Int)
       ·rw [if_pos c43] at H
        have c43b0 : decide (x11_2 < (t282.length : Int)) = true := Dt_ c43
        clear c43
        by_cases c44 : 0 ≤ x11_2
        ·rw [if_pos c44] at H
         have c44b0 : decide (0 ≤ x11_2) = true := Dt_ c44
         clear c44
         by_cases c45 : ((rd_T54 t282 x11_2).f4) > 0
         ·rw [if_pos c45] at H
          have c45b0 : decide (0 < ((rd_T54 t282 x11_2).f4)) = true := Dt_ c45
          clear c45
          have H' := Am_ H
          clear H
          have hnb46 := NB288_278.out
          have hnc46 := NB278_288.out
          have hnb47 := NB288_279.out
          have hnc47 := NB279_288.out
          have hnb48 := NB288_280.out
          have hnc48 := NB280_288.out
          obtain ⟨hcz49_0, hcz49_1, hfz49_0, hfz49_1⟩ := Ce2_ BK288.out
          have p289 : 0 ≤ (x11_2 : Int) := Ot_ (by first | (with_reducible assumption) | assumption)
          have q289 : x11_2 < (t282.length : Int) := Ot_ (by first | (with_reducible assumption) | assumption)
          obtain ⟨ad289, e289, hx289_0, hx289_1, hx289_2, hx289_3, hx289_4, hx289_5⟩ := at_T54 (Kd.R_reads' HO_289000.out).2.2 x11_2 p289 q289
          cases e289
          replace p289 := eq_true p289
          replace q289 := eq_true q289
          go_wp2
          go_roundg k2
          case measure => have := HJ3.out; have := HK2.out; omega
          case rel => exact ⟨(wrap64 (x11_2 + 1)), (by first | rfl | (simp; done) | (simp [*]; done)), H', ⟨by have := HJ3.out; have := HK2.out; omega⟩, ⟨by (with_reducible repeat (first | apply Va_ | apply Vn_ | apply Vd_)); exact HO_279000.out⟩, ⟨by (with_reducible repeat (first | apply Va_ | apply Vn_ | apply Vd_)); exact HO_279001.out⟩, ⟨by (with_reducible repeat (first | apply Ra_ | apply Rn_ | apply Rd_)); exact HO_289000.out⟩, ⟨by (with_reducible repeat (first | apply Kd.S_alloc | apply Kd.S_drewN | apply Kd.S_drew)); exact HO_289001.out⟩, ⟨by (with_reducible repeat (first | refine Bn_ ?_ _ | refine Bd_ ?_ | refine Ba_ ?_ _)); exact BK278.out⟩, ⟨by (with_reducible repeat (first | refine Bn_ ?_ _ | refine Bd_ ?_ | refine Ba_ ?_ _)); exact BK279.out⟩, ⟨by (with_reducible repeat (first | refine Bn_ ?_ _ | refine Bd_ ?_ | refine Ba_ ?_ _)); exact BK280.out⟩, ⟨by (with_reducible repeat (first | refine Bn_ ?_ _ | refine Bd_ ?_ | refine Ba_ ?_ _)); exact BK288.out⟩, ⟨by repeat (first | (with_reducible first | exact HB.out | apply Pa_ | apply Pn_ | apply Pd_ | refine Bs_ ?_ GE278.out | refine Bs_ ?_ GE279.out | refine Bs_ ?_ GE280.out | refine Bs_ ?_ GE288.out) | exact HB.out)⟩⟩
         ·rw [if_neg c45] at H
          have c45b0 : decide (0 < ((rd_T54 t282 x11_2).f4)) = false := Df_ c45
          clear c45
          by_cases c50 : x11_2 = (t282.length : Int)
          ·exact absurd (of_decide_eq_true c43b0) (by omega)
          ·rw [if_neg c50] at H
           have c50b0 : (x11_2 == (t282.length : Int)) = false := beq_eq_false_iff_ne.mpr c50
           have c50b1 : (x11_2 != (t282.length : Int)) = true := bne_iff_ne.mpr c50
           obtain ⟨y298, hy298⟩ : ∃ y_ : List (S54), y_ = (t282.set (x11_2 : Int).toNat (⟨a2_0, a2_1, a2_2, a2_3, 1, a2_5⟩ : S54)) := ⟨_, rfl⟩
           replace H : (if 0 ≤ a1 then (if a1 < (t285.length : Int) then (if 0 ≤ t281 then (if t281 < ((rd_L1 t285 a1).length : Int) then (some (y298, (t285.set (a1 : Int).toNat ((rd_L1 t285 a1).set (t281 : Int).toNat x11_2)), t281, 0)) else (none)) else (none)) else (none)) else (none)) = some (r1, r2, r3, r4) := by first | (rw [hy298]; with_reducible exact H) | (have H2_ := (Option.bind_some _ _).symm.trans H; rw [hy298]; with_reducible exact H2_) | (have H2_ := (Option.bind_some _ _).symm.trans H; with_reducible exact H2_) | with_reducible exact H | (rw [hy298]; exact H) | exact H
           have Ny298 := Am_ hy298
           clear hy298
           by_cases c81 : 0 ≤ a1
           ·rw [if_pos c81] at H
            have c81b0 : decide (0 ≤ a1) = true := Dt_ c81
            clear c81
            by_cases c82 : a1 < (t285.length : Int)
            ·rw [if_pos c82] at H
             have c82b0 : decide (a1 < (t285.length : Int)) = true := Dt_ c82
             clear c82
             by_cases c83 : 0 ≤ t281
             ·rw [if_pos c83] at H
              have c83b0 : decide (0 ≤ t281) = true := Dt_ c83
              clear c83
              by_cases c84 : t281 < ((rd_L1 t285 a1).length : Int)
              ·rw [if_pos c84] at H
               have c84b0 : decide (t281 < ((rd_L1 t285 a1).length : Int)) = true := Dt_ c84
               clear c84
               obtain ⟨y300, hy300⟩ : ∃ y_ : List Int, y_ = ((rd_L1 t285 a1).set (t281 : Int).toNat x11_2) := ⟨_, rfl⟩
               replace H : (some (y298, (t285.set (a1 : Int).toNat y300), t281, 0)) = some (r1, r2, r3, r4) := by first | (rw [hy300]; with_reducible exact H) | (have H2_ := (Option.bind_some _ _).symm.trans H; rw [hy300]; with_reducible exact H2_) | (have H2_ := (Option.bind_some _ _).symm.trans H; with_reducible exact H2_) | with_reducible exact H | (rw [hy300]; exact H) | exact H
               have Ny300 := Am_ hy300
               clear hy300
               obtain ⟨y302, hy302⟩ : ∃ y_ : List (List Int), y_ = (t285.set (a1 : Int).toNat y300) := ⟨_, rfl⟩
               replace H : (some (y298, y302, t281, 0)) = some (r1, r2, r3, r4) := by first | (rw [hy302]; with_reducible exact H) | (have H2_ := (Option.bind_some _ _).symm.trans H; rw [hy302]; with_reducible exact H2_) | (have H2_ := (Option.bind_some _ _).symm.trans H; with_reducible exact H2_) | with_reducible exact H | (rw [hy302]; exact H) | exact H
               have Ny302 := Am_ hy302
               clear hy302
               simp only [Option.some.injEq, Prod.mk.injEq] at H
               obtain ⟨rfl, rfl, rfl, rfl⟩ := H
               have hnb86 := NB288_278.out
               have hnc86 := NB278_288.out
               have hnb87 := NB288_279.out
               have hnc87 := NB279_288.out
               have hnb88 := NB288_280.out
               have hnc88 := NB280_288.out
               obtain ⟨hcz89_0, hcz89_1, hfz89_0, hfz89_1⟩ := Ce2_ BK288.out
               have p289 : 0 ≤ (x11_2 : Int) := Ot_ (by first | (with_reducible assumption) | assumption)
               have q289 : x11_2 < (t282.length : Int) := Ot_ (by first | (with_reducible assumption) | assumption)
               obtain ⟨ad289, e289, hx289_0, hx289_1, hx289_2, hx289_3, hx289_4, hx289_5⟩ := at_T54 (Kd.R_reads' HO_289000.out).2.2 x11_2 p289 q289
               cases e289
               replace p289 := eq_true p289
               replace q289 := eq_true q289
               have hnb90 := NB279_278.out
               have hnc90 := NB278_279.out
               have hnb91 := NB279_280.out
               have hnc91 := NB280_279.out
               obtain ⟨hcz92_0, hcz92_1, hcz92_2, hcz92_3, hcz92_4, hcz92_5, hfz92_0, hfz92_1, hfz92_2, hfz92_3, hfz92_4, hfz92_5⟩ := Ce6_ BK279.out
               have p80 : 0 ≤ (x11_2 : Int) := Ot_ (by first | (with_reducible assumption) | assumption)
               have q80 : (x11_2 : Int) < ((t282.length : Int) : Int) := Ot_ (by first | (with_reducible assumption) | assumption)
               obtain ⟨go80, co80, eo80, gb80, gl80, cl80, HG80⟩ := Kd.R_form HO_289000.out (by omega)
               (first | cases eo80 | (injection eo80 with ea_ en_ ec_; (first | subst ea_ | (injection ea_ with ea_; subst ea_)); subst ec_; clear en_))
               have GB80 := Am_ gb80
               have GG80 := Am_ HG80
               clear gb80 gl80 HG80
               (first | simp only [add_plain] at hx289_0 | skip)
               (first | simp only [add_plain] at hx289_1 | skip)
               (first | simp only [add_plain] at hx289_2 | skip)
               (first | simp only [add_plain] at hx289_3 | skip)
               (first | simp only [add_plain] at hx289_4 | skip)
               (first | simp only [add_plain] at hx289_5 | skip)
               obtain ⟨ce80, hcl80, hM80, hcc80, hfr80⟩ := Kd.R_elem HO_289000.out z54 (x11_2 : Int) p80 q80
               obtain rfl := k54_openM hM80
               have hx80_0 : wr.cell? ⟨go80, (x11_2 : Int).toNat * 6, none⟩ = some (.int .i64 ((rd_T54 t282 x11_2).f0)) := hcc80 0 _ rfl
               have hx80_1 : wr.cell? ⟨go80, (x11_2 : Int).toNat * 6 + 1, none⟩ = some (.int .i64 ((rd_T54 t282 x11_2).f1)) := hcc80 1 _ rfl
               have hx80_2 : wr.cell? ⟨go80, (x11_2 : Int).toNat * 6 + 2, none⟩ = some (.bool ((rd_T54 t282 x11_2).f2)) := hcc80 2 _ rfl
               have hx80_3 : wr.cell? ⟨go80, (x11_2 : Int).toNat * 6 + 3, none⟩ = some (.bool ((rd_T54 t282 x11_2).f3)) := hcc80 3 _ rfl
               have hx80_4 : wr.cell? ⟨go80, (x11_2 : Int).toNat * 6 + 4, none⟩ = some (.int .i64 ((rd_T54 t282 x11_2).f4)) := hcc80 4 _ rfl
               have hx80_5 : wr.cell? ⟨go80, (x11_2 : Int).toNat * 6 + 5, none⟩ = some (.int .i64 ((rd_T54 t282 x11_2).f5)) := hcc80 5 _ rfl
               have hf80_0 : wr.frozen? ⟨go80, (x11_2 : Int).toNat * 6, none⟩ = false := hfr80 0
               have hf80_1 : wr.frozen? ⟨go80, (x11_2 : Int).toNat * 6 + 1, none⟩ = false := hfr80 1
               have hf80_2 : wr.frozen? ⟨go80, (x11_2 : Int).toNat * 6 + 2, none⟩ = false := hfr80 2
               have hf80_3 : wr.frozen? ⟨go80, (x11_2 : Int).toNat * 6 + 3, none⟩ = false := hfr80 3
               have hf80_4 : wr.frozen? ⟨go80, (x11_2 : Int).toNat * 6 + 4, none⟩ = false := hfr80 4
               have hf80_5 : wr.frozen? ⟨go80, (x11_2 : Int).toNat * 6 + 5, none⟩ = false := hfr80 5
               clear hcl80 hcc80 hfr80 hM80
               replace p80 := eq_true p80
               replace q80 := eq_true q80
               have HX93 := Am_ (show Kd.R k54 54 wr w.heap.size (fun k_ => (w.heap.size ≤ k_) ∧ k_ ≠ gb279) (.slice (some ⟨go80, 0, none⟩) t282.length co35) t282 from (Px_ HO_289000.out))
               obtain ⟨ce93, hcl93, hM93, hcc93, hfr93⟩ := Kd.R_elem HX93.out z54 (x11_2 : Int) (Ot_ (by first | (with_reducible assumption) | assumption)) (by have h_ : (x11_2 : Int) < ((t282.length : Int) : Int) := Ot_ (by first | (with_reducible assumption) | assumption); first | exact h_ | (have e_ := (Kd.R_reads' HO_289000.out).1; omega) | simpa using h_)
               obtain rfl := k54_openM hM93
               have HP93 := Kd.R_seg HX93.out (x11_2 : Int) (Ot_ (by first | (with_reducible assumption) | assumption)) (by have h_ : (x11_2 : Int) < ((t282.length : Int) : Int) := Ot_ (by first | (with_reducible assumption) | assumption); first | exact h_ | (have e_ := (Kd.R_reads' HO_289000.out).1; omega) | simpa using h_) (seg := [.int .i64 a2_0, .int .i64 a2_1, .bool a2_2, .bool a2_3, .int .i64 1, .int .i64 a2_5]) (j := 0) hcl93 hcc93 (show 6 ≤ 6 from by decide) (x' := (⟨a2_0, a2_1, a2_2, a2_3, 1, a2_5⟩ : S54)) (k54_mkM _ _ _ (⟨a2_0, a2_1, a2_2, a2_3, 1, a2_5⟩ : S54) ) (fun _ hk => hk)
               have hx93_0 := hcc93 0 _ rfl
               (try simp only [show (k54).sz = 6 from rfl, Nat.mul_one, Nat.add_zero] at hx93_0)
               have hf93_0 := hfr93 0
               (try simp only [show (k54).sz = 6 from rfl, Nat.mul_one, Nat.add_zero] at hf93_0)
               have hx93_1 := hcc93 1 _ rfl
               (try simp only [show (k54).sz = 6 from rfl, Nat.mul_one, Nat.add_zero] at hx93_1)
               have hf93_1 := hfr93 1
               (try simp only [show (k54).sz = 6 from rfl, Nat.mul_one, Nat.add_zero] at hf93_1)
               have hx93_2 := hcc93 2 _ rfl
               (try simp only [show (k54).sz = 6 from rfl, Nat.mul_one, Nat.add_zero] at hx93_2)
               have hf93_2 := hfr93 2
               (try simp only [show (k54).sz = 6 from rfl, Nat.mul_one, Nat.add_zero] at hf93_2)
               have hx93_3 := hcc93 3 _ rfl
               (try simp only [show (k54).sz = 6 from rfl, Nat.mul_one, Nat.add_zero] at hx93_3)
               have hf93_3 := hfr93 3
               (try simp only [show (k54).sz = 6 from rfl, Nat.mul_one, Nat.add_zero] at hf93_3)
               have hx93_4 := hcc93 4 _ rfl
               (try simp only [show (k54).sz = 6 from rfl, Nat.mul_one, Nat.add_zero] at hx93_4)
               have hf93_4 := hfr93 4
               (try simp only [show (k54).sz = 6 from rfl, Nat.mul_one, Nat.add_zero] at hf93_4)
               have hx93_5 := hcc93 5 _ rfl
               (try simp only [show (k54).sz = 6 from rfl, Nat.mul_one, Nat.add_zero] at hx93_5)
               have hf93_5 := hfr93 5
               (try simp only [show (k54).sz = 6 from rfl, Nat.mul_one, Nat.add_zero] at hf93_5)
               clear hcl93 hcc93 hfr93 hM93
               go_wp2_with (first | ((with_reducible refine gate_store (t := 54) (p := 62) rfl ?_); refine store_event (t := 54) (p := 62) (v := ?vo_w94) (w1 := ((((((wr.setCell ⟨go80, (x11_2 : Int).toNat * 6, none⟩ (.int .i64 a2_0)).setCell ⟨go80, (x11_2 : Int).toNat * 6 + 1, none⟩ (.int .i64 a2_1)).setCell ⟨go80, (x11_2 : Int).toNat * 6 + 2, none⟩ (.bool a2_2)).setCell ⟨go80, (x11_2 : Int).toNat * 6 + 3, none⟩ (.bool a2_3)).setCell ⟨go80, (x11_2 : Int).toNat * 6 + 4, none⟩ (.int .i64 1)).setCell ⟨go80, (x11_2 : Int).toNat * 6 + 5, none⟩ (.int .i64 a2_5))) ?hg ?ho ?hn ?hr ?_; (case ho => rfl); (case hg => rfl); (case hn => rfl); (case hr => go_simp; try rfl); intro w94 hw; have hg : wr.grownBy w94 (some go80) := (by rw [hw]; exact HP93.2); have hp_ : Kd.R k54 54 w94 w.heap.size (fun k_ => (w.heap.size ≤ k_) ∧ k_ ≠ gb279) (.slice (some ⟨go80, 0, none⟩) t282.length co35) y298 := (by rw [hw, Ny298.out]; exact HP93.1); clear HP93; have n0_ := Am_ (Kd.V_afterv (v := (.slice (some ⟨go80, 0, none⟩) t282.length co35)) (v1 := (.slice (some ⟨go80, 0, none⟩) t282.length co35)) (ok := (fun k_ => ((P0_0_ k_ ∨ P0_1_ k_) ∨ w.heap.size ≤ k_) ∧ some k_ ≠ (.slice Ao40 t285.length co40 : Value).ownBlock ∧ k_ ≠ gb278 ∧ k_ ≠ gb279 ∧ k_ ≠ gb280 ∧ k_ ≠ gb288)) (by (with_reducible repeat (first | apply Va_ | apply Vn_ | apply Vd_)); exact Vm_ HO_279000.out (fun _ hk => ⟨⟨hk.1, ⟨hk.2.2.1, ⟨hk.2.2.2.1, ⟨hk.2.2.2.2.1, ⟨hk.2.2.2.2.2.1, hk.2.2.2.2.2.2⟩⟩⟩⟩⟩, hk.2.1⟩)) hg (.inl rfl)); have n1_ := Am_ (Kd.V_afterv (v := (.slice (some ⟨go80, 0, none⟩) t282.length co35)) (v1 := (.slice (some ⟨go80, 0, none⟩) t282.length co35)) (ok := (fun k_ => ((P0_0_ k_ ∨ P0_1_ k_) ∨ w.heap.size ≤ k_) ∧ some k_ ≠ (.slice Ao40 t285.length co40 : Value).ownBlock ∧ k_ ≠ gb278 ∧ k_ ≠ gb279 ∧ k_ ≠ gb280 ∧ k_ ≠ gb288)) (by (with_reducible repeat (first | apply Va_ | apply Vn_ | apply Vd_)); exact Vm_ HO_279001.out (fun _ hk => ⟨⟨hk.1, ⟨hk.2.2.1, ⟨hk.2.2.2.1, ⟨hk.2.2.2.2.1, ⟨hk.2.2.2.2.2.1, hk.2.2.2.2.2.2⟩⟩⟩⟩⟩, hk.2.1⟩)) hg (.inl rfl)); have n2_ := Am_ (hp_); have n3_ := Am_ (Kd.S_over' (v := (.slice (some ⟨go80, 0, none⟩) t282.length co35)) (Py_ HO_289001.out) (Kd.R_typed HO_289000.out) (by decide) hg); have n4_ := Am_ (Bg_ (g := gb278) (o := .cells #[.slice A0_0 l0_0.length c0_0, .slice A0_1 l0_1.length c0_1] 31 (0, 0)) (Pk_ BK278.out) hg (Kd.R_ne HO_289000.out BK278.out (by decide))); have n5_ := Am_ (Bg_ (g := gb279) (o := .cells #[.int .i64 a2_0, .int .i64 a2_1, .bool a2_2, .bool a2_3, .int .i64 1, .int .i64 a2_5] 54 (0, 0)) (Pk_ BK279.out) hg (Kd.R_away HO_289000.out (fun _ hk => hk.2))); have n6_ := Am_ (Bg_ (g := gb280) (o := .cells #[.slice none 0 0, .slice none 0 0] 31 (0, 0)) (Pk_ BK280.out) hg (Kd.R_ne HO_289000.out BK280.out (by decide))); have n7_ := Am_ (Bg_ (g := gb288) (o := .cells #[.slice (some ⟨go80, 0, none⟩) t282.length co35, .slice Ao40 t285.length co40] 31 (0, 0)) (Pk_ BK288.out) hg (Kd.R_ne HO_289000.out BK288.out (by decide))); have n8_ := Am_ ((by rw [hw]; exact Bs_ (Bs_ (Bs_ (Bs_ (Bs_ (Bs_ (HB.out) GB80.out) GB80.out) GB80.out) GB80.out) GB80.out) GB80.out : Below w.heap.size w w94)); clear HO_279000; clear HO_279001; clear HO_289000; clear HO_289001; clear BK278; clear BK279; clear BK280; clear BK288; clear HB; have HO_279000 := n0_; have HO_279001 := n1_; have HO_289000 := n2_; have HO_289001 := n3_; have BK278 := n4_; have BK279 := n5_; have BK280 := n6_; have BK288 := n7_; have HB := n8_; clear n0_ n1_ n2_ n3_ n4_ n5_ n6_ n7_ n8_; clear hg hw hp_; obtain ⟨hcz95_0, hcz95_1, hfz95_0, hfz95_1⟩ := Ce2_ BK288.out; have p299 : 0 ≤ (a1 : Int) := Ot_ (by first | (with_reducible assumption) | assumption); have q299 : a1 < (t285.length : Int) := Ot_ (by first | (with_reducible assumption) | assumption); obtain ⟨ad299, A299_0, c299_0, e299, hx299_0, hl299_0, hi299_0⟩ := at_L1 (Kd.S_reads' HO_289001.out).2.2 a1 p299 q299; cases e299; obtain ⟨ce299, hce299, hMe299, hcc299⟩ := Kd.S_get HO_289001.out [] a1 p299 (by first | exact q299 | exact Ot_ (by first | (with_reducible assumption) | assumption) | (have e_ := (Kd.S_reads' HO_289001.out).1; omega)); obtain ⟨ve299_0, rfl, ge299_0⟩ := hMe299; have hv299_0 := hcc299 0 _ rfl; rw [Nat.add_zero, show ((Kd.slice 3 (Kd.int .i64))).sz = 1 from rfl, Nat.mul_one] at hv299_0; replace hv299_0 := Option.some.inj (hv299_0.symm.trans hx299_0); rw [hv299_0] at ge299_0; have HL299_0 := Am_ (show Kd.R (Kd.int .i64) 3 _ _ _ _ (rd_L1 t285 a1) from ge299_0); clear hv299_0 ge299_0; have HX299_0 := Am_ hx299_0; clear hcc299 hce299; have HR299_0 := Am_ hi299_0; have HC299_0 := Am_ hl299_0; clear hi299_0 hl299_0; replace p299 := eq_true p299; replace q299 := eq_true q299; have p85 : 0 ≤ (t281 : Int) := Ot_ (by first | (with_reducible assumption) | assumption); have q85 : (t281 : Int) < (((rd_L1 t285 a1).length : Int) : Int) := Ot_ (by first | (with_reducible assumption) | assumption); obtain ⟨go85, co85, eo85, gb85, gl85, cl85, HG85⟩ := Kd.R_form HL299_0.out (by omega); (first | cases eo85 | (injection eo85 with ea_ en_ ec_; (first | subst ea_ | (injection ea_ with ea_; subst ea_)); subst ec_; clear en_)); have GB85 := Am_ gb85; have GG85 := Am_ HG85; clear gb85 gl85 HG85; obtain ⟨hx85_0, hf85_0⟩ := Kd.R_celln 0 HL299_0.out (t281 : Int) p85 q85; replace p85 := eq_true p85; replace q85 := eq_true q85; have hq96 : (a1 : Int) < (t285.length : Int) := (by have h_ : (a1 : Int) < ((t285.length : Int) : Int) := Ot_ (by first | (with_reducible assumption) | assumption); first | exact h_ | (have e_ := (Kd.S_reads' HO_289001.out).1; omega) | simpa only [List.length_set, List.length_set] using h_); obtain ⟨oki96, ce96, hcl96, hM96, hcc96, hok96, hbk96⟩ := Kd.S_borrow HO_289001.out [] (a1 : Int) (Ot_ (by first | (with_reducible assumption) | assumption)) hq96; obtain ⟨ve96_0, rfl, ge96_0⟩ := hM96; have hv96 := hcc96 0 _ rfl; rw [Nat.add_zero, show ((Kd.slice 3 (Kd.int .i64))).sz = 1 from rfl, Nat.mul_one] at hv96; replace hv96 := Option.some.inj (hv96.symm.trans HX299_0.out); subst hv96; clear hcc96 hcl96; replace ge96_0 := (show Kd.R (Kd.int .i64) 3 _ _ _ _ (rd_L1 t285 a1) from ge96_0); have HP96 := Kd.R_putg ge96_0 (t281 : Int) x11_2) | ((with_reducible refine gate_store (t := 3) (p := 70) rfl ?_); refine store_event (t := 3) (p := 70) (v := ?vo_w97) (w1 := (w94.setCell ⟨go85, (t281 : Int).toNat, none⟩ (.int .i64 x11_2))) ?hg ?ho ?hn ?hr ?_; (case ho => rfl); (case hg => rfl); (case hn => rfl); (case hr => go_simp; try rfl); intro w97 hw; have hg : w94.grownBy w97 (some go85) := (by rw [hw]; exact HP96.2); have hz_ : Kd.R (Kd.int .i64) 3 w97 w.heap.size oki96 (.slice (some ⟨go85, 0, none⟩) (rd_L1 t285 a1).length c299_0) y300 := (by rw [hw, Ny300.out]; exact HP96.1); have hp_ : Kd.S (Kd.slice 3 (Kd.int .i64)) 64 w97 w.heap.size (fun k_ => (w.heap.size ≤ k_)) (.slice (some ad299) t285.length co40) y302 := (by rw [Ny302.out]; exact hbk96 hg (fun k_ e_ => by injection e_ with e_; subst e_; exact ge96_0.1 _ rfl) (Kd.M_row hz_)); have hm_ := Kd.R_mono hz_ hok96; clear HP96 hbk96; have n0_ := Am_ (Kd.R_over' (v := (.slice (some ⟨go85, 0, none⟩) (rd_L1 t285 a1).length c299_0)) (Px_ HO_289000.out) (Kd.R_typed HL299_0.out) (by decide) hg); have n1_ := Am_ (hp_); have n2_ := Am_ (Bg_ (g := gb278) (o := .cells #[.slice A0_0 l0_0.length c0_0, .slice A0_1 l0_1.length c0_1] 31 (0, 0)) (Pk_ BK278.out) hg (Kd.R_ne HL299_0.out BK278.out (by decide))); have n3_ := Am_ (Bg_ (g := gb279) (o := .cells #[.int .i64 a2_0, .int .i64 a2_1, .bool a2_2, .bool a2_3, .int .i64 1, .int .i64 a2_5] 54 (0, 0)) (Pk_ BK279.out) hg (Kd.R_ne HL299_0.out BK279.out (by decide))); have n4_ := Am_ (Bg_ (g := gb280) (o := .cells #[.slice none 0 0, .slice none 0 0] 31 (0, 0)) (Pk_ BK280.out) hg (Kd.R_ne HL299_0.out BK280.out (by decide))); have n5_ := Am_ (Bg_ (g := gb288) (o := .cells #[.slice (some ⟨go80, 0, none⟩) t282.length co35, .slice (some ad299) t285.length co40] 31 (0, 0)) (Pk_ BK288.out) hg (Kd.R_ne HL299_0.out BK288.out (by decide))); have n6_ := Am_ ((by rw [hw]; exact Bs_ (HB.out) GB85.out : Below w.heap.size w w97)); have n7_ := Am_ (hm_); have n8_ := Am_ ((Kd.R_reads' hm_).2.1); clear HO_289000; clear HO_289001; clear BK278; clear BK279; clear BK280; clear BK288; clear HB; clear HO_279000; clear HO_279001; clear HL299_0; have HO_289000 := n0_; have HO_289001 := n1_; have BK278 := n2_; have BK279 := n3_; have BK280 := n4_; have BK288 := n5_; have HB := n6_; have HL312 := n7_; have HC301 := n8_; clear n0_ n1_ n2_ n3_ n4_ n5_ n6_ n7_ n8_; clear hg hw hp_ hz_ hm_ hok96; obtain ⟨hcz98_0, hcz98_1, hfz98_0, hfz98_1⟩ := Ce2_ BK288.out; have hnb99 := NB280_278.out; have hnc99 := NB278_280.out; obtain ⟨hcz100_0, hcz100_1, hfz100_0, hfz100_1⟩ := Ce2_ BK280.out))
               refine bodyPost_ret (results_ctt rfl _ _ gb280 31 #[.slice (some ⟨go80, 0, none⟩) t282.length co35, .slice (some ad299) t285.length co40] (0, 0) _ rfl (by (with_reducible repeat (first | refine Bn_ ?_ _ | refine Bd_ ?_ | refine Ba_ ?_ _)); refine Bp_ (cs := #[.slice (some ⟨go80, 0, none⟩) t282.length co35, .slice none 0 0]) ?_ 1 _ rfl; (with_reducible repeat (first | refine Bn_ ?_ _ | refine Bd_ ?_ | refine Ba_ ?_ _)); refine Bp_ (cs := #[.slice none 0 0, .slice none 0 0]) ?_ 0 _ rfl; (with_reducible repeat (first | refine Bn_ ?_ _ | refine Bd_ ?_ | refine Ba_ ?_ _)); exact BK280.out) Try.underlying31 rfl (by kernel_rfl)) rfl ?_
               exact ⟨_, _, by first | rfl | (simp [errW_none, errW_some] <;> rfl) | (simp [*, errW_none, errW_some] <;> rfl), Vm_ (Kd.R_V (by (with_reducible repeat (first | apply Ra_ | apply Rn_ | apply Rd_)); exact Kd.R_mono (Kd.R_far (p := ⟨gb280, 1, none⟩) (Kd.R_far (p := ⟨gb280, 0, none⟩) (Kd.R_types HO_289000.out BK280.out (by decide)) (fun _ hk => hk.2) (.slice (some ⟨go80, 0, none⟩) t282.length co35)) (fun _ hk => hk.2) (.slice (some ad299) t285.length co40)) (fun _ hk => hk.1.1))) (fun k_ hk => by first | exact ⟨(.inr (hk.1)), hk.2⟩ | exact (.inr (hk))), Vm_ (Kd.S_V (by (with_reducible repeat (first | apply Kd.S_alloc | apply Kd.S_drewN | apply Kd.S_drew)); exact Kd.S_mono (Kd.S_far (p := ⟨gb280, 1, none⟩) (Kd.S_far (p := ⟨gb280, 0, none⟩) (Kd.S_types HO_289001.out BK280.out (by decide)) (fun _ hk => hk.2) (.slice (some ⟨go80, 0, none⟩) t282.length co35)) (fun _ hk => hk.2) (.slice (some ad299) t285.length co40)) (fun _ hk => hk.1))) (fun k_ hk => by first | exact ⟨(.inr (hk.1)), hk.2⟩ | exact (.inr (hk))), by repeat (first | (with_reducible first | exact HB.out | apply Pa_ | apply Pn_ | apply Pd_ | refine Bs_ ?_ GE278.out | refine Bs_ ?_ GE279.out | refine Bs_ ?_ GE280.out | refine Bs_ ?_ GE288.out) | exact HB.out)⟩
              ·rw [if_neg c84] at H
               exact absurd H (by simp)
             ·rw [if_neg c83] at H
              exact absurd H (by simp)
            ·rw [if_neg c82] at H
             exact absurd H (by simp)
           ·rw [if_neg c81] at H
            exact absurd H (by simp)
        ·rw [if_neg c44] at H
         exact absurd H (by simp)
       ·rw [if_neg c43] at H
        have c43b0 : decide (x11_2 < (t282.length : Int)) = false := Df_ c43
        clear c43
        by_cases c101 : x11_2 = (t282.length : Int)
        ·rw [if_pos c101] at H
         have c101b0 : (x11_2 == (t282.length : Int)) = true := beq_iff_eq.mpr c101
         have c101b1 : (x11_2 != (t282.length : Int)) = false := bne_eq_false_iff_eq.mpr c101
         clear c101
         by_cases c102 : t282.length < 3518437208883
         ·rw [if_pos c102] at H
          have LMc102 := Am_ c102
          clear c102
          obtain ⟨y303, hy303⟩ : ∃ y_ : List (S54), y_ = (t282 ++ [(⟨a2_0, a2_1, a2_2, a2_3, 1, a2_5⟩ : S54)]) := ⟨_, rfl⟩
          replace H : (if 0 ≤ x11_2 then (if x11_2 < (y303.length : Int) then (if 0 ≤ a1 then (if a1 < (t285.length : Int) then (if 0 ≤ t281 then (if t281 < ((rd_L1 t285 a1).length : Int) then (some ((y303.set (x11_2 : Int).toNat (⟨a2_0, a2_1, a2_2, a2_3, 1, a2_5⟩ : S54)), (t285.set (a1 : Int).toNat ((rd_L1 t285 a1).set (t281 : Int).toNat x11_2)), t281, 0)) else (none)) else (none)) else (none)) else (none)) else (none)) else (none)) = some (r1, r2, r3, r4) := by first | (rw [hy303]; with_reducible exact H) | (have H2_ := (Option.bind_some _ _).symm.trans H; rw [hy303]; with_reducible exact H2_) | (have H2_ := (Option.bind_some _ _).symm.trans H; with_reducible exact H2_) | with_reducible exact H | (rw [hy303]; exact H) | exact H
          have Ny303 := Am_ hy303
          clear hy303
          by_cases c103 : 0 ≤ x11_2
          ·rw [if_pos c103] at H
           have c103b0 : decide (0 ≤ x11_2) = true := Dt_ c103
           clear c103
           by_cases c104 : x11_2 < (y303.length : Int)
           ·rw [if_pos c104] at H
            have c104b0 : decide (x11_2 < (y303.length : Int)) = true := Dt_ c104
            clear c104
            obtain ⟨y306, hy306⟩ : ∃ y_ : List (S54), y_ = (y303.set (x11_2 : Int).toNat (⟨a2_0, a2_1, a2_2, a2_3, 1, a2_5⟩ : S54)) := ⟨_, rfl⟩
            replace H : (if 0 ≤ a1 then (if a1 < (t285.length : Int) then (if 0 ≤ t281 then (if t281 < ((rd_L1 t285 a1).length : Int) then (some (y306, (t285.set (a1 : Int).toNat ((rd_L1 t285 a1).set (t281 : Int).toNat x11_2)), t281, 0)) else (none)) else (none)) else (none)) else (none)) = some (r1, r2, r3, r4) := by first | (rw [hy306]; with_reducible exact H) | (have H2_ := (Option.bind_some _ _).symm.trans H; rw [hy306]; with_reducible exact H2_) | (have H2_ := (Option.bind_some _ _).symm.trans H; with_reducible exact H2_) | with_reducible exact H | (rw [hy306]; exact H) | exact H
            have Ny306 := Am_ hy306
            clear hy306
            by_cases c106 : 0 ≤ a1
            ·rw [if_pos c106] at H
             have c106b0 : decide (0 ≤ a1) = true := Dt_ c106
             clear c106
             by_cases c107 : a1 < (t285.length : Int)
             ·rw [if_pos c107] at H
              have c107b0 : decide (a1 < (t285.length : Int)) = true := Dt_ c107
              clear c107
              by_cases c108 : 0 ≤ t281
              ·rw [if_pos c108] at H
               have c108b0 : decide (0 ≤ t281) = true := Dt_ c108
               clear c108
               by_cases c109 : t281 < ((rd_L1 t285 a1).length : Int)
               ·rw [if_pos c109] at H
                have c109b0 : decide (t281 < ((rd_L1 t285 a1).length : Int)) = true := Dt_ c109
                clear c109
                obtain ⟨y308, hy308⟩ : ∃ y_ : List Int, y_ = ((rd_L1 t285 a1).set (t281 : Int).toNat x11_2) := ⟨_, rfl⟩
                replace H : (some (y306, (t285.set (a1 : Int).toNat y308), t281, 0)) = some (r1, r2, r3, r4) := by first | (rw [hy308]; with_reducible exact H) | (have H2_ := (Option.bind_some _ _).symm.trans H; rw [hy308]; with_reducible exact H2_) | (have H2_ := (Option.bind_some _ _).symm.trans H; with_reducible exact H2_) | with_reducible exact H | (rw [hy308]; exact H) | exact H
                have Ny308 := Am_ hy308
                clear hy308
                obtain ⟨y310, hy310⟩ : ∃ y_ : List (List Int), y_ = (t285.set (a1 : Int).toNat y308) := ⟨_, rfl⟩
                replace H : (some (y306, y310, t281, 0)) = some (r1, r2, r3, r4) := by first | (rw [hy310]; with_reducible exact H) | (have H2_ := (Option.bind_some _ _).symm.trans H; rw [hy310]; with_reducible exact H2_) | (have H2_ := (Option.bind_some _ _).symm.trans H; with_reducible exact H2_) | with_reducible exact H | (rw [hy310]; exact H) | exact H
                have Ny310 := Am_ hy310
                clear hy310
                simp only [Option.some.injEq, Prod.mk.injEq] at H
                obtain ⟨rfl, rfl, rfl, rfl⟩ := H
                have hnb111 := NB288_278.out
                have hnc111 := NB278_288.out
                have hnb112 := NB288_279.out
                have hnc112 := NB279_288.out
                have hnb113 := NB288_280.out
                have hnc113 := NB280_288.out
                obtain ⟨hcz114_0, hcz114_1, hfz114_0, hfz114_1⟩ := Ce2_ BK288.out
                have hnb115 := NB279_278.out
                have hnc115 := NB278_279.out
                have hnb116 := NB279_280.out
                have hnc116 := NB280_279.out
                obtain ⟨hcz117_0, hcz117_1, hcz117_2, hcz117_3, hcz117_4, hcz117_5, hfz117_0, hfz117_1, hfz117_2, hfz117_3, hfz117_4, hfz117_5⟩ := Ce6_ BK279.out
                go_wp2_with (first | ((with_reducible refine gate_builtin (b := .append) (xs := #[.tmp 53, .tmp 55]) rfl ?_); (try (refine gate_guard (by rfl) ?_; dsimp only)); at_builtin; refine Kd.R_append k54 (w0 := w) w.heap.size rfl (.tmp 53) (.tmp 55) 29 54 (.agg #[(.int .i64 0), (.int .i64 0), (.bool false), (.bool false), (.int .i64 0), (.int .i64 0)]) 40 rfl Try.underlying29 info54 rfl (by decide) (by omega) (.slice Ao35 t282.length co35) t282 (⟨a2_0, a2_1, a2_2, a2_3, 1, a2_5⟩ : S54) [.int .i64 a2_0, .int .i64 a2_1, .bool a2_2, .bool a2_3, .int .i64 1, .int .i64 a2_5] (fun k_ => (w.heap.size ≤ k_) ∧ k_ ≠ gb279) (fun _ => False) rfl rfl ?aP (fun _ hk => hk.elim) ?aF ?aO ?aB ?aS ?aL ?_; (case aP => exact k54_mkM _ _ _ (⟨a2_0, a2_1, a2_2, a2_3, 1, a2_5⟩ : S54)); (case aB => exact (Pb4_ HB.out GE278.out GE279.out GE280.out GE288.out)); (case aF => exact (fun k_ hk => ⟨(Nat.le_trans (Bz_ (Pb4_ HB.out GE278.out GE279.out GE280.out GE288.out)) hk), Kd.freshB (g := gb279) (o := .cells #[.int .i64 a2_0, .int .i64 a2_1, .bool a2_2, .bool a2_3, .int .i64 1, .int .i64 a2_5] 54 (0, 0)) (Pk_ BK279.out) k_ hk⟩)); (case aO => exact (Px_ HO_289000.out)); (case aS => exact (Bz_ (Pb4_ HB.out GE278.out GE279.out GE280.out GE288.out))); (case aL => have := LMc102.out; omega); intro v304 w118 ho hb hg hat; rw [← Ny303.out] at ho; have n0_ := Am_ (Kd.V_afterv (ok := (fun k_ => ((P0_0_ k_ ∨ P0_1_ k_) ∨ w.heap.size ≤ k_) ∧ some k_ ≠ (.slice Ao40 t285.length co40 : Value).ownBlock ∧ k_ ≠ gb278 ∧ k_ ≠ gb279 ∧ k_ ≠ gb280 ∧ k_ ≠ gb288)) (by (with_reducible repeat (first | apply Va_ | apply Vn_ | apply Vd_)); exact Vm_ HO_279000.out (fun _ hk => ⟨⟨hk.1, ⟨hk.2.2.1, ⟨hk.2.2.2.1, ⟨hk.2.2.2.2.1, ⟨hk.2.2.2.2.2.1, hk.2.2.2.2.2.2⟩⟩⟩⟩⟩, hk.2.1⟩)) hg hat); have n1_ := Am_ (Kd.V_afterv (ok := (fun k_ => ((P0_0_ k_ ∨ P0_1_ k_) ∨ w.heap.size ≤ k_) ∧ some k_ ≠ (.slice Ao40 t285.length co40 : Value).ownBlock ∧ k_ ≠ gb278 ∧ k_ ≠ gb279 ∧ k_ ≠ gb280 ∧ k_ ≠ gb288)) (by (with_reducible repeat (first | apply Va_ | apply Vn_ | apply Vd_)); exact Vm_ HO_279001.out (fun _ hk => ⟨⟨hk.1, ⟨hk.2.2.1, ⟨hk.2.2.2.1, ⟨hk.2.2.2.2.1, ⟨hk.2.2.2.2.2.1, hk.2.2.2.2.2.2⟩⟩⟩⟩⟩, hk.2.1⟩)) hg hat); have n2_ := Am_ (Kd.S_over' (Py_ HO_289001.out) (Kd.R_typed (Px_ HO_289000.out)) (by decide) hg); have n3_ := Am_ (Bg_ (g := gb278) (o := .cells #[.slice A0_0 l0_0.length c0_0, .slice A0_1 l0_1.length c0_1] 31 (0, 0)) (Pk_ BK278.out) hg (Kd.R_ne HO_289000.out BK278.out (by decide))); have n4_ := Am_ (Bg_ (g := gb279) (o := .cells #[.int .i64 a2_0, .int .i64 a2_1, .bool a2_2, .bool a2_3, .int .i64 1, .int .i64 a2_5] 54 (0, 0)) (Pk_ BK279.out) hg (Kd.R_away HO_289000.out (fun _ hk => hk.2))); have n5_ := Am_ (Bg_ (g := gb280) (o := .cells #[.slice none 0 0, .slice none 0 0] 31 (0, 0)) (Pk_ BK280.out) hg (Kd.R_ne HO_289000.out BK280.out (by decide))); have n6_ := Am_ (Bg_ (g := gb288) (o := .cells #[.slice Ao35 t282.length co35, .slice Ao40 t285.length co40] 31 (0, 0)) (Pk_ BK288.out) hg (Kd.R_ne HO_289000.out BK288.out (by decide))); have n7_ := Am_ (hb); have n8_ := Am_ (ho); clear HO_279000; clear HO_279001; clear HO_289001; clear BK278; clear BK279; clear BK280; clear BK288; clear HB; clear HO_289000; have HO_279000 := n0_; have HO_279001 := n1_; have HO_289001 := n2_; have BK278 := n3_; have BK279 := n4_; have BK280 := n5_; have BK288 := n6_; have HB := n7_; have HO305 := n8_; clear n0_ n1_ n2_ n3_ n4_ n5_ n6_ n7_ n8_; clear ho hb hg hat; obtain ⟨Ao119, co119, eo119⟩ := Kd.R_slice HO305.out; subst eo119; obtain ⟨hcz120_0, hcz120_1, hfz120_0, hfz120_1⟩ := Ce2_ BK288.out) | ((with_reducible refine gate_store (t := 29) (p := 57) rfl ?_); refine store_event (t := 29) (p := 57) (v := ?vo_w121) (w1 := (w118.setCell ⟨gb288, 0, none⟩ (.slice Ao119 y303.length co119))) ?hg ?ho ?hn ?hr ?_; (case ho => rfl); (case hg => rfl); (case hn => rfl); (case hr => go_simp; try rfl); intro w121 hw; have n0_ : Aside0 (Kd.V k54 54 w121 w.heap.size (fun k_ => ((P0_0_ k_ ∨ P0_1_ k_) ∨ w.heap.size ≤ k_) ∧ some k_ ≠ (.slice Ao40 t285.length co40 : Value).ownBlock ∧ some k_ ≠ (.slice Ao119 y303.length co119 : Value).ownBlock ∧ k_ ≠ gb278 ∧ k_ ≠ gb279 ∧ k_ ≠ gb280 ∧ k_ ≠ gb288) (.slice A0_0 l0_0.length c0_0) l0_0) := ⟨(by rw [hw]; exact (by (with_reducible repeat (first | apply Va_ | apply Vn_ | apply Vd_)); exact Vm_ (Vf_ (p := ⟨gb288, 0, none⟩) (Vm_ HO_279000.out (fun k_ hk => (⟨hk, hk.1.2.2.2.2.2⟩ : _ ∧ k_ ≠ gb288))) (fun _ hk => hk.2) (.slice Ao119 y303.length co119)) (fun _ hk => ⟨hk.1.1.1, ⟨hk.1.1.2.1, ⟨hk.1.2, ⟨hk.1.1.2.2.1, ⟨hk.1.1.2.2.2.1, ⟨hk.1.1.2.2.2.2.1, hk.1.1.2.2.2.2.2⟩⟩⟩⟩⟩⟩)))⟩; have n1_ : Aside0 (Kd.V (Kd.slice 3 (Kd.int .i64)) 64 w121 w.heap.size (fun k_ => ((P0_0_ k_ ∨ P0_1_ k_) ∨ w.heap.size ≤ k_) ∧ some k_ ≠ (.slice Ao40 t285.length co40 : Value).ownBlock ∧ some k_ ≠ (.slice Ao119 y303.length co119 : Value).ownBlock ∧ k_ ≠ gb278 ∧ k_ ≠ gb279 ∧ k_ ≠ gb280 ∧ k_ ≠ gb288) (.slice A0_1 l0_1.length c0_1) l0_1) := ⟨(by rw [hw]; exact (by (with_reducible repeat (first | apply Va_ | apply Vn_ | apply Vd_)); exact Vm_ (Vf_ (p := ⟨gb288, 0, none⟩) (Vm_ HO_279001.out (fun k_ hk => (⟨hk, hk.1.2.2.2.2.2⟩ : _ ∧ k_ ≠ gb288))) (fun _ hk => hk.2) (.slice Ao119 y303.length co119)) (fun _ hk => ⟨hk.1.1.1, ⟨hk.1.1.2.1, ⟨hk.1.2, ⟨hk.1.1.2.2.1, ⟨hk.1.1.2.2.2.1, ⟨hk.1.1.2.2.2.2.1, hk.1.1.2.2.2.2.2⟩⟩⟩⟩⟩⟩)))⟩; have n2_ : Aside0 (Kd.S (Kd.slice 3 (Kd.int .i64)) 64 w121 w.heap.size (fun k_ => (w.heap.size ≤ k_)) (.slice Ao40 t285.length co40) t285) := ⟨(by rw [hw]; exact (by (with_reducible repeat (first | apply Kd.S_alloc | apply Kd.S_drewN | apply Kd.S_drew)); exact Kd.S_mono (Kd.S_far (p := ⟨gb288, 0, none⟩) (Kd.S_types HO_289001.out BK288.out (by decide)) (fun _ hk => hk.2) (.slice Ao119 y303.length co119)) (fun _ hk => hk.1)))⟩; have n3_ : Aside0 (Kd.R k54 54 w121 w.heap.size (fun k_ => (w.heap.size ≤ k_) ∧ k_ ≠ gb279) (.slice Ao119 y303.length co119) y303) := ⟨(by rw [hw]; exact (by (with_reducible repeat (first | apply Ra_ | apply Rn_ | apply Rd_)); exact Kd.R_mono (Kd.R_far (p := ⟨gb288, 0, none⟩) (Kd.R_types HO305.out BK288.out (by decide)) (fun _ hk => hk.2) (.slice Ao119 y303.length co119)) (fun _ hk => ⟨hk.1.1, hk.1.2⟩)))⟩; have n4_ : Aside0 (w121.heap[gb278]? = some (.cells #[.slice A0_0 l0_0.length c0_0, .slice A0_1 l0_1.length c0_1] 31 (0, 0))) := ⟨(by rw [hw]; exact (by (with_reducible repeat (first | refine Bn_ ?_ _ | refine Bd_ ?_ | refine Ba_ ?_ _)); refine blk_far ?_ NB278_288.out _; (with_reducible repeat (first | refine Bn_ ?_ _ | refine Bd_ ?_ | refine Ba_ ?_ _)); exact BK278.out))⟩; have n5_ : Aside0 (w121.heap[gb279]? = some (.cells #[.int .i64 a2_0, .int .i64 a2_1, .bool a2_2, .bool a2_3, .int .i64 1, .int .i64 a2_5] 54 (0, 0))) := ⟨(by rw [hw]; exact (by (with_reducible repeat (first | refine Bn_ ?_ _ | refine Bd_ ?_ | refine Ba_ ?_ _)); refine blk_far ?_ NB279_288.out _; (with_reducible repeat (first | refine Bn_ ?_ _ | refine Bd_ ?_ | refine Ba_ ?_ _)); exact BK279.out))⟩; have n6_ : Aside0 (w121.heap[gb280]? = some (.cells #[.slice none 0 0, .slice none 0 0] 31 (0, 0))) := ⟨(by rw [hw]; exact (by (with_reducible repeat (first | refine Bn_ ?_ _ | refine Bd_ ?_ | refine Ba_ ?_ _)); refine blk_far ?_ NB280_288.out _; (with_reducible repeat (first | refine Bn_ ?_ _ | refine Bd_ ?_ | refine Ba_ ?_ _)); exact BK280.out))⟩; have n7_ : Aside0 (w121.heap[gb288]? = some (.cells #[.slice Ao119 y303.length co119, .slice Ao40 t285.length co40] 31 (0, 0))) := ⟨(by rw [hw]; exact (by (with_reducible repeat (first | refine Bn_ ?_ _ | refine Bd_ ?_ | refine Ba_ ?_ _)); refine Bp_ (cs := #[.slice Ao35 t282.length co35, .slice Ao40 t285.length co40]) ?_ 0 _ rfl; (with_reducible repeat (first | refine Bn_ ?_ _ | refine Bd_ ?_ | refine Ba_ ?_ _)); exact BK288.out))⟩; have n8_ : Aside0 (Below w.heap.size w w121) := ⟨(by rw [hw]; exact (Pb4_ HB.out GE278.out GE279.out GE280.out GE288.out))⟩; clear hw; clear HO_279000; clear HO_279001; clear HO_289001; clear HO305; clear BK278; clear BK279; clear BK280; clear BK288; clear HB; have HO_279000 := n0_; have HO_279001 := n1_; have HO_289001 := n2_; have HO305 := n3_; have BK278 := n4_; have BK279 := n5_; have BK280 := n6_; have BK288 := n7_; have HB := n8_; clear n0_ n1_ n2_ n3_ n4_ n5_ n6_ n7_ n8_; obtain ⟨hcz122_0, hcz122_1, hfz122_0, hfz122_1⟩ := Ce2_ BK288.out; obtain ⟨hcz123_0, hcz123_1, hcz123_2, hcz123_3, hcz123_4, hcz123_5, hfz123_0, hfz123_1, hfz123_2, hfz123_3, hfz123_4, hfz123_5⟩ := Ce6_ BK279.out; have p105 : 0 ≤ (x11_2 : Int) := Ot_ (by first | (with_reducible assumption) | assumption); have q105 : (x11_2 : Int) < ((y303.length : Int) : Int) := Ot_ (by first | (with_reducible assumption) | assumption); obtain ⟨go105, co105, eo105, gb105, gl105, cl105, HG105⟩ := Kd.R_form HO305.out (by omega); (first | cases eo105 | (injection eo105 with ea_ en_ ec_; (first | subst ea_ | (injection ea_ with ea_; subst ea_)); subst ec_; clear en_)); have GB105 := Am_ gb105; have GG105 := Am_ HG105; clear gb105 gl105 HG105; obtain ⟨ce105, hcl105, hM105, hcc105, hfr105⟩ := Kd.R_elem HO305.out z54 (x11_2 : Int) p105 q105; obtain rfl := k54_openM hM105; have hx105_0 : w121.cell? ⟨go105, (x11_2 : Int).toNat * 6, none⟩ = some (.int .i64 ((rd_T54 y303 x11_2).f0)) := hcc105 0 _ rfl; have hx105_1 : w121.cell? ⟨go105, (x11_2 : Int).toNat * 6 + 1, none⟩ = some (.int .i64 ((rd_T54 y303 x11_2).f1)) := hcc105 1 _ rfl; have hx105_2 : w121.cell? ⟨go105, (x11_2 : Int).toNat * 6 + 2, none⟩ = some (.bool ((rd_T54 y303 x11_2).f2)) := hcc105 2 _ rfl; have hx105_3 : w121.cell? ⟨go105, (x11_2 : Int).toNat * 6 + 3, none⟩ = some (.bool ((rd_T54 y303 x11_2).f3)) := hcc105 3 _ rfl; have hx105_4 : w121.cell? ⟨go105, (x11_2 : Int).toNat * 6 + 4, none⟩ = some (.int .i64 ((rd_T54 y303 x11_2).f4)) := hcc105 4 _ rfl; have hx105_5 : w121.cell? ⟨go105, (x11_2 : Int).toNat * 6 + 5, none⟩ = some (.int .i64 ((rd_T54 y303 x11_2).f5)) := hcc105 5 _ rfl; have hf105_0 : w121.frozen? ⟨go105, (x11_2 : Int).toNat * 6, none⟩ = false := hfr105 0; have hf105_1 : w121.frozen? ⟨go105, (x11_2 : Int).toNat * 6 + 1, none⟩ = false := hfr105 1; have hf105_2 : w121.frozen? ⟨go105, (x11_2 : Int).toNat * 6 + 2, none⟩ = false := hfr105 2; have hf105_3 : w121.frozen? ⟨go105, (x11_2 : Int).toNat * 6 + 3, none⟩ = false := hfr105 3; have hf105_4 : w121.frozen? ⟨go105, (x11_2 : Int).toNat * 6 + 4, none⟩ = false := hfr105 4; have hf105_5 : w121.frozen? ⟨go105, (x11_2 : Int).toNat * 6 + 5, none⟩ = false := hfr105 5; clear hcl105 hcc105 hfr105 hM105; replace p105 := eq_true p105; replace q105 := eq_true q105; have HX124 := Am_ (show Kd.R k54 54 w121 w.heap.size (fun k_ => (w.heap.size ≤ k_) ∧ k_ ≠ gb279) (.slice (some ⟨go105, 0, none⟩) y303.length co119) y303 from (Px_ HO305.out)); obtain ⟨ce124, hcl124, hM124, hcc124, hfr124⟩ := Kd.R_elem HX124.out z54 (x11_2 : Int) (Ot_ (by first | (with_reducible assumption) | assumption)) (by have h_ : (x11_2 : Int) < ((y303.length : Int) : Int) := Ot_ (by first | (with_reducible assumption) | assumption); first | exact h_ | (have e_ := (Kd.R_reads' HO305.out).1; omega) | simpa using h_); obtain rfl := k54_openM hM124; have HP124 := Kd.R_seg HX124.out (x11_2 : Int) (Ot_ (by first | (with_reducible assumption) | assumption)) (by have h_ : (x11_2 : Int) < ((y303.length : Int) : Int) := Ot_ (by first | (with_reducible assumption) | assumption); first | exact h_ | (have e_ := (Kd.R_reads' HO305.out).1; omega) | simpa using h_) (seg := [.int .i64 a2_0, .int .i64 a2_1, .bool a2_2, .bool a2_3, .int .i64 1, .int .i64 a2_5]) (j := 0) hcl124 hcc124 (show 6 ≤ 6 from by decide) (x' := (⟨a2_0, a2_1, a2_2, a2_3, 1, a2_5⟩ : S54)) (k54_mkM _ _ _ (⟨a2_0, a2_1, a2_2, a2_3, 1, a2_5⟩ : S54) ) (fun _ hk => hk); have hx124_0 := hcc124 0 _ rfl; (try simp only [show (k54).sz = 6 from rfl, Nat.mul_one, Nat.add_zero] at hx124_0); have hf124_0 := hfr124 0; (try simp only [show (k54).sz = 6 from rfl, Nat.mul_one, Nat.add_zero] at hf124_0); have hx124_1 := hcc124 1 _ rfl; (try simp only [show (k54).sz = 6 from rfl, Nat.mul_one, Nat.add_zero] at hx124_1); have hf124_1 := hfr124 1; (try simp only [show (k54).sz = 6 from rfl, Nat.mul_one, Nat.add_zero] at hf124_1); have hx124_2 := hcc124 2 _ rfl; (try simp only [show (k54).sz = 6 from rfl, Nat.mul_one, Nat.add_zero] at hx124_2); have hf124_2 := hfr124 2; (try simp only [show (k54).sz = 6 from rfl, Nat.mul_one, Nat.add_zero] at hf124_2); have hx124_3 := hcc124 3 _ rfl; (try simp only [show (k54).sz = 6 from rfl, Nat.mul_one, Nat.add_zero] at hx124_3); have hf124_3 := hfr124 3; (try simp only [show (k54).sz = 6 from rfl, Nat.mul_one, Nat.add_zero] at hf124_3); have hx124_4 := hcc124 4 _ rfl; (try simp only [show (k54).sz = 6 from rfl, Nat.mul_one, Nat.add_zero] at hx124_4); have hf124_4 := hfr124 4; (try simp only [show (k54).sz = 6 from rfl, Nat.mul_one, Nat.add_zero] at hf124_4); have hx124_5 := hcc124 5 _ rfl; (try simp only [show (k54).sz = 6 from rfl, Nat.mul_one, Nat.add_zero] at hx124_5); have hf124_5 := hfr124 5; (try simp only [show (k54).sz = 6 from rfl, Nat.mul_one, Nat.add_zero] at hf124_5); clear hcl124 hcc124 hfr124 hM124) | ((with_reducible refine gate_store (t := 54) (p := 62) rfl ?_); refine store_event (t := 54) (p := 62) (v := ?vo_w125) (w1 := ((((((w121.setCell ⟨go105, (x11_2 : Int).toNat * 6, none⟩ (.int .i64 a2_0)).setCell ⟨go105, (x11_2 : Int).toNat * 6 + 1, none⟩ (.int .i64 a2_1)).setCell ⟨go105, (x11_2 : Int).toNat * 6 + 2, none⟩ (.bool a2_2)).setCell ⟨go105, (x11_2 : Int).toNat * 6 + 3, none⟩ (.bool a2_3)).setCell ⟨go105, (x11_2 : Int).toNat * 6 + 4, none⟩ (.int .i64 1)).setCell ⟨go105, (x11_2 : Int).toNat * 6 + 5, none⟩ (.int .i64 a2_5))) ?hg ?ho ?hn ?hr ?_; (case ho => rfl); (case hg => rfl); (case hn => rfl); (case hr => go_simp; try rfl); intro w125 hw; have hg : w121.grownBy w125 (some go105) := (by rw [hw]; exact HP124.2); have hp_ : Kd.R k54 54 w125 w.heap.size (fun k_ => (w.heap.size ≤ k_) ∧ k_ ≠ gb279) (.slice (some ⟨go105, 0, none⟩) y303.length co119) y306 := (by rw [hw, Ny306.out]; exact HP124.1); clear HP124; have n0_ := Am_ (Kd.V_afterv (v := (.slice (some ⟨go105, 0, none⟩) y303.length co119)) (v1 := (.slice (some ⟨go105, 0, none⟩) y303.length co119)) (ok := (fun k_ => ((P0_0_ k_ ∨ P0_1_ k_) ∨ w.heap.size ≤ k_) ∧ some k_ ≠ (.slice Ao40 t285.length co40 : Value).ownBlock ∧ k_ ≠ gb278 ∧ k_ ≠ gb279 ∧ k_ ≠ gb280 ∧ k_ ≠ gb288)) (by (with_reducible repeat (first | apply Va_ | apply Vn_ | apply Vd_)); exact Vm_ HO_279000.out (fun _ hk => ⟨⟨hk.1, ⟨hk.2.1, ⟨hk.2.2.2.1, ⟨hk.2.2.2.2.1, ⟨hk.2.2.2.2.2.1, hk.2.2.2.2.2.2⟩⟩⟩⟩⟩, hk.2.2.1⟩)) hg (.inl rfl)); have n1_ := Am_ (Kd.V_afterv (v := (.slice (some ⟨go105, 0, none⟩) y303.length co119)) (v1 := (.slice (some ⟨go105, 0, none⟩) y303.length co119)) (ok := (fun k_ => ((P0_0_ k_ ∨ P0_1_ k_) ∨ w.heap.size ≤ k_) ∧ some k_ ≠ (.slice Ao40 t285.length co40 : Value).ownBlock ∧ k_ ≠ gb278 ∧ k_ ≠ gb279 ∧ k_ ≠ gb280 ∧ k_ ≠ gb288)) (by (with_reducible repeat (first | apply Va_ | apply Vn_ | apply Vd_)); exact Vm_ HO_279001.out (fun _ hk => ⟨⟨hk.1, ⟨hk.2.1, ⟨hk.2.2.2.1, ⟨hk.2.2.2.2.1, ⟨hk.2.2.2.2.2.1, hk.2.2.2.2.2.2⟩⟩⟩⟩⟩, hk.2.2.1⟩)) hg (.inl rfl)); have n2_ := Am_ (Kd.S_over' (v := (.slice (some ⟨go105, 0, none⟩) y303.length co119)) (Py_ HO_289001.out) (Kd.R_typed HO305.out) (by decide) hg); have n3_ := Am_ (Bg_ (g := gb278) (o := .cells #[.slice A0_0 l0_0.length c0_0, .slice A0_1 l0_1.length c0_1] 31 (0, 0)) (Pk_ BK278.out) hg (Kd.R_ne HO305.out BK278.out (by decide))); have n4_ := Am_ (Bg_ (g := gb279) (o := .cells #[.int .i64 a2_0, .int .i64 a2_1, .bool a2_2, .bool a2_3, .int .i64 1, .int .i64 a2_5] 54 (0, 0)) (Pk_ BK279.out) hg (Kd.R_away HO305.out (fun _ hk => hk.2))); have n5_ := Am_ (Bg_ (g := gb280) (o := .cells #[.slice none 0 0, .slice none 0 0] 31 (0, 0)) (Pk_ BK280.out) hg (Kd.R_ne HO305.out BK280.out (by decide))); have n6_ := Am_ (Bg_ (g := gb288) (o := .cells #[.slice (some ⟨go105, 0, none⟩) y303.length co119, .slice Ao40 t285.length co40] 31 (0, 0)) (Pk_ BK288.out) hg (Kd.R_ne HO305.out BK288.out (by decide))); have n7_ := Am_ (hp_); have n8_ := Am_ ((by rw [hw]; exact Bs_ (Bs_ (Bs_ (Bs_ (Bs_ (Bs_ (HB.out) GB105.out) GB105.out) GB105.out) GB105.out) GB105.out) GB105.out : Below w.heap.size w w125)); clear HO_279000; clear HO_279001; clear HO_289001; clear BK278; clear BK279; clear BK280; clear BK288; clear HO305; clear HB; have HO_279000 := n0_; have HO_279001 := n1_; have HO_289001 := n2_; have BK278 := n3_; have BK279 := n4_; have BK280 := n5_; have BK288 := n6_; have HO305 := n7_; have HB := n8_; clear n0_ n1_ n2_ n3_ n4_ n5_ n6_ n7_ n8_; clear hg hw hp_; obtain ⟨hcz126_0, hcz126_1, hfz126_0, hfz126_1⟩ := Ce2_ BK288.out; have p307 : 0 ≤ (a1 : Int) := Ot_ (by first | (with_reducible assumption) | assumption); have q307 : a1 < (t285.length : Int) := Ot_ (by first | (with_reducible assumption) | assumption); obtain ⟨ad307, A307_0, c307_0, e307, hx307_0, hl307_0, hi307_0⟩ := at_L1 (Kd.S_reads' HO_289001.out).2.2 a1 p307 q307; cases e307; obtain ⟨ce307, hce307, hMe307, hcc307⟩ := Kd.S_get HO_289001.out [] a1 p307 (by first | exact q307 | exact Ot_ (by first | (with_reducible assumption) | assumption) | (have e_ := (Kd.S_reads' HO_289001.out).1; omega)); obtain ⟨ve307_0, rfl, ge307_0⟩ := hMe307; have hv307_0 := hcc307 0 _ rfl; rw [Nat.add_zero, show ((Kd.slice 3 (Kd.int .i64))).sz = 1 from rfl, Nat.mul_one] at hv307_0; replace hv307_0 := Option.some.inj (hv307_0.symm.trans hx307_0); rw [hv307_0] at ge307_0; have HL307_0 := Am_ (show Kd.R (Kd.int .i64) 3 _ _ _ _ (rd_L1 t285 a1) from ge307_0); clear hv307_0 ge307_0; have HX307_0 := Am_ hx307_0; clear hcc307 hce307; have HR307_0 := Am_ hi307_0; have HC307_0 := Am_ hl307_0; clear hi307_0 hl307_0; replace p307 := eq_true p307; replace q307 := eq_true q307; have p110 : 0 ≤ (t281 : Int) := Ot_ (by first | (with_reducible assumption) | assumption); have q110 : (t281 : Int) < (((rd_L1 t285 a1).length : Int) : Int) := Ot_ (by first | (with_reducible assumption) | assumption); obtain ⟨go110, co110, eo110, gb110, gl110, cl110, HG110⟩ := Kd.R_form HL307_0.out (by omega); (first | cases eo110 | (injection eo110 with ea_ en_ ec_; (first | subst ea_ | (injection ea_ with ea_; subst ea_)); subst ec_; clear en_)); have GB110 := Am_ gb110; have GG110 := Am_ HG110; clear gb110 gl110 HG110; obtain ⟨hx110_0, hf110_0⟩ := Kd.R_celln 0 HL307_0.out (t281 : Int) p110 q110; replace p110 := eq_true p110; replace q110 := eq_true q110; have hq127 : (a1 : Int) < (t285.length : Int) := (by have h_ : (a1 : Int) < ((t285.length : Int) : Int) := Ot_ (by first | (with_reducible assumption) | assumption); first | exact h_ | (have e_ := (Kd.S_reads' HO_289001.out).1; omega) | simpa only [List.length_set, List.length_set] using h_); obtain ⟨oki127, ce127, hcl127, hM127, hcc127, hok127, hbk127⟩ := Kd.S_borrow HO_289001.out [] (a1 : Int) (Ot_ (by first | (with_reducible assumption) | assumption)) hq127; obtain ⟨ve127_0, rfl, ge127_0⟩ := hM127; have hv127 := hcc127 0 _ rfl; rw [Nat.add_zero, show ((Kd.slice 3 (Kd.int .i64))).sz = 1 from rfl, Nat.mul_one] at hv127; replace hv127 := Option.some.inj (hv127.symm.trans HX307_0.out); subst hv127; clear hcc127 hcl127; replace ge127_0 := (show Kd.R (Kd.int .i64) 3 _ _ _ _ (rd_L1 t285 a1) from ge127_0); have HP127 := Kd.R_putg ge127_0 (t281 : Int) x11_2) | ((with_reducible refine gate_store (t := 3) (p := 70) rfl ?_); refine store_event (t := 3) (p := 70) (v := ?vo_w128) (w1 := (w125.setCell ⟨go110, (t281 : Int).toNat, none⟩ (.int .i64 x11_2))) ?hg ?ho ?hn ?hr ?_; (case ho => rfl); (case hg => rfl); (case hn => rfl); (case hr => go_simp; try rfl); intro w128 hw; have hg : w125.grownBy w128 (some go110) := (by rw [hw]; exact HP127.2); have hz_ : Kd.R (Kd.int .i64) 3 w128 w.heap.size oki127 (.slice (some ⟨go110, 0, none⟩) (rd_L1 t285 a1).length c307_0) y308 := (by rw [hw, Ny308.out]; exact HP127.1); have hp_ : Kd.S (Kd.slice 3 (Kd.int .i64)) 64 w128 w.heap.size (fun k_ => (w.heap.size ≤ k_)) (.slice (some ad307) t285.length co40) y310 := (by rw [Ny310.out]; exact hbk127 hg (fun k_ e_ => by injection e_ with e_; subst e_; exact ge127_0.1 _ rfl) (Kd.M_row hz_)); have hm_ := Kd.R_mono hz_ hok127; clear HP127 hbk127; have n0_ := Am_ (hp_); have n1_ := Am_ (Bg_ (g := gb278) (o := .cells #[.slice A0_0 l0_0.length c0_0, .slice A0_1 l0_1.length c0_1] 31 (0, 0)) (Pk_ BK278.out) hg (Kd.R_ne HL307_0.out BK278.out (by decide))); have n2_ := Am_ (Bg_ (g := gb279) (o := .cells #[.int .i64 a2_0, .int .i64 a2_1, .bool a2_2, .bool a2_3, .int .i64 1, .int .i64 a2_5] 54 (0, 0)) (Pk_ BK279.out) hg (Kd.R_ne HL307_0.out BK279.out (by decide))); have n3_ := Am_ (Bg_ (g := gb280) (o := .cells #[.slice none 0 0, .slice none 0 0] 31 (0, 0)) (Pk_ BK280.out) hg (Kd.R_ne HL307_0.out BK280.out (by decide))); have n4_ := Am_ (Bg_ (g := gb288) (o := .cells #[.slice (some ⟨go105, 0, none⟩) y303.length co119, .slice (some ad307) t285.length co40] 31 (0, 0)) (Pk_ BK288.out) hg (Kd.R_ne HL307_0.out BK288.out (by decide))); have n5_ := Am_ (Kd.R_over' (v := (.slice (some ⟨go110, 0, none⟩) (rd_L1 t285 a1).length c307_0)) (Px_ HO305.out) (Kd.R_typed HL307_0.out) (by decide) hg); have n6_ := Am_ ((by rw [hw]; exact Bs_ (HB.out) GB110.out : Below w.heap.size w w128)); have n7_ := Am_ (hm_); have n8_ := Am_ ((Kd.R_reads' hm_).2.1); clear HO_289001; clear BK278; clear BK279; clear BK280; clear BK288; clear HO305; clear HB; clear HO_279000; clear HO_279001; clear HL307_0; have HO_289001 := n0_; have BK278 := n1_; have BK279 := n2_; have BK280 := n3_; have BK288 := n4_; have HO305 := n5_; have HB := n6_; have HL313 := n7_; have HC309 := n8_; clear n0_ n1_ n2_ n3_ n4_ n5_ n6_ n7_ n8_; clear hg hw hp_ hz_ hm_ hok127; obtain ⟨hcz129_0, hcz129_1, hfz129_0, hfz129_1⟩ := Ce2_ BK288.out; have hnb130 := NB280_278.out; have hnc130 := NB278_280.out; obtain ⟨hcz131_0, hcz131_1, hfz131_0, hfz131_1⟩ := Ce2_ BK280.out))
                refine bodyPost_ret (results_ctt rfl _ _ gb280 31 #[.slice (some ⟨go105, 0, none⟩) y303.length co119, .slice (some ad307) t285.length co40] (0, 0) _ rfl (by (with_reducible repeat (first | refine Bn_ ?_ _ | refine Bd_ ?_ | refine Ba_ ?_ _)); refine Bp_ (cs := #[.slice (some ⟨go105, 0, none⟩) y303.length co119, .slice none 0 0]) ?_ 1 _ rfl; (with_reducible repeat (first | refine Bn_ ?_ _ | refine Bd_ ?_ | refine Ba_ ?_ _)); refine Bp_ (cs := #[.slice none 0 0, .slice none 0 0]) ?_ 0 _ rfl; (with_reducible repeat (first | refine Bn_ ?_ _ | refine Bd_ ?_ | refine Ba_ ?_ _)); exact BK280.out) Try.underlying31 rfl (by kernel_rfl)) rfl ?_
                exact ⟨_, _, by first | rfl | (simp [errW_none, errW_some] <;> rfl) | (simp [*, errW_none, errW_some] <;> rfl), Vm_ (Kd.R_V (by (with_reducible repeat (first | apply Ra_ | apply Rn_ | apply Rd_)); exact Kd.R_mono (Kd.R_far (p := ⟨gb280, 1, none⟩) (Kd.R_far (p := ⟨gb280, 0, none⟩) (Kd.R_types HO305.out BK280.out (by decide)) (fun _ hk => hk.2) (.slice (some ⟨go105, 0, none⟩) y303.length co119)) (fun _ hk => hk.2) (.slice (some ad307) t285.length co40)) (fun _ hk => hk.1.1))) (fun k_ hk => by first | exact ⟨(.inr (hk.1)), hk.2⟩ | exact (.inr (hk))), Vm_ (Kd.S_V (by (with_reducible repeat (first | apply Kd.S_alloc | apply Kd.S_drewN | apply Kd.S_drew)); exact Kd.S_mono (Kd.S_far (p := ⟨gb280, 1, none⟩) (Kd.S_far (p := ⟨gb280, 0, none⟩) (Kd.S_types HO_289001.out BK280.out (by decide)) (fun _ hk => hk.2) (.slice (some ⟨go105, 0, none⟩) y303.length co119)) (fun _ hk => hk.2) (.slice (some ad307) t285.length co40)) (fun _ hk => hk.1))) (fun k_ hk => by first | exact ⟨(.inr (hk.1)), hk.2⟩ | exact (.inr (hk))), by repeat (first | (with_reducible first | exact HB.out | apply Pa_ | apply Pn_ | apply Pd_ | refine Bs_ ?_ GE278.out | refine Bs_ ?_ GE279.out | refine Bs_ ?_ GE280.out | refine Bs_ ?_ GE288.out) | exact HB.out)⟩
               ·rw [if_neg c109] at H
                exact absurd H (by simp)
              ·rw [if_neg c108] at H
               exact absurd H (by simp)
             ·rw [if_neg c107] at H
              exact absurd H (by simp)
            ·rw [if_neg c106] at H
             exact absurd H (by simp)
           ·rw [if_neg c104] at H
            exact absurd H (by simp)
          ·rw [if_neg c103] at H
           exact absurd H (by simp)
         ·rw [if_neg c102] at H
          exact absurd H (by simp)
        ·rw [if_neg c101] at H
         have c101b0 : (x11_2 == (t282.length : Int)) = false := beq_eq_false_iff_ne.mpr c101
         have c101b1 : (x11_2 != (t282.length : Int)) = true := bne_iff_ne.mpr c101
         by_cases c132 : 0 ≤ x11_2
         ·rw [if_pos c132] at H
          exact absurd H (by simp)
         ·rw [if_neg c132] at H
          exact absurd H (by simp)

end Go.Proofs.Ytkecfdljodiifaa.P
