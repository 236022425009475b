-- Printed by a program of this session (inject.py) over the kit's print, with functions that were proved by hand in their places.
import Derived.Test.YtpeelfambaedkaaPK
import Derived.Test.YtpeelfambaedkaaPref09file
import Derived.Test.YtpeelfambaedkaaPref09noughts
import Derived.Test.YtpeelfambaedkaaPref09kept
namespace Go.Proofs.Ytpeelfambaedkaa.P
open Go.RowKit Go.Proofs.YtpeelfambaedkaaW.PrintWords Go.Proofs.YtpeelfambaedkaaW.PrintLast Go.Proofs.YtpeelfambaedkaaW.PrintMore
attribute [local go_sem] max2_int min2_int max_two min_two max_three min_three max_four min_four   -- for this text's walks alone
set_option linter.unusedVariables false
set_option linter.unusedSimpArgs false

/-! ### flagstoneref09_Write: function 17 -/
def flagstoneref09_Write.f (k : Nat) (l0_0 : List (S53)) (a0_1 : Int) (a0_2 : Int) (a1 : Int) (a2 : Int) (a3 : ByteArray) : Option ((List (S53)) × Int × Int × Int) := (flagstoneref09_file.f l0_0 a0_1 a0_2 a1).bind fun bt366 => (if bt366.2.2.2.2.2.2.2.2 = 0 then (if a2 < 0 then (some (l0_0, a0_1, a0_2, 1)) else (if a3.toList = ([] : List UInt8) then (some (l0_0, a0_1, a0_2, 0)) else (if a2 > 1000 then (some (l0_0, a0_1, a0_2, 10)) else ((flagstoneref09_noughts.f k (wrap64 (a2 - (bt366.2.2.2.2.2.2.1.size : Int)))).bind fun t378 => (if bt366.2.2.2.2.2.2.1.size + t378.size ≤ 9223372036854775807 then (if (wrap64 (a2 + (a3.size : Int))) < ((bt366.2.2.2.2.2.2.1 ++ t378).size : Int) then (if 0 ≤ (wrap64 (a2 + (a3.size : Int))) then (if (wrap64 (a2 + (a3.size : Int))) ≤ ((bt366.2.2.2.2.2.2.1 ++ t378).size : Int) then (if 0 ≤ a2 then (if a2 ≤ ((bt366.2.2.2.2.2.2.1 ++ t378).size : Int) then (if ((bt366.2.2.2.2.2.2.1 ++ t378).extract 0 (a2 : Int).toNat).size + a3.size ≤ 9223372036854775807 then (if (((bt366.2.2.2.2.2.2.1 ++ t378).extract 0 (a2 : Int).toNat) ++ a3).size + ((bt366.2.2.2.2.2.2.1 ++ t378).extract ((wrap64 (a2 + (a3.size : Int))) : Int).toNat (bt366.2.2.2.2.2.2.1 ++ t378).size).size ≤ 9223372036854775807 then ((flagstoneref09_kept.f k l0_0 a0_1 a0_2 a1 bt366.1 bt366.2.1 bt366.2.2.1 bt366.2.2.2.1 bt366.2.2.2.2.1 bt366.2.2.2.2.2.1 bt366.2.2.2.2.2.2.1 bt366.2.2.2.2.2.2.2.1 ((((bt366.2.2.2.2.2.2.1 ++ t378).extract 0 (a2 : Int).toNat) ++ a3) ++ ((bt366.2.2.2.2.2.2.1 ++ t378).extract ((wrap64 (a2 + (a3.size : Int))) : Int).toNat (bt366.2.2.2.2.2.2.1 ++ t378).size))).bind fun bt379 => (some (bt379.1, bt379.2.1, bt379.2.2.1, bt379.2.2.2))) else (none)) else (none)) else (none)) else (none)) else (none)) else (none)) else (if 0 ≤ a2 then (if a2 ≤ ((bt366.2.2.2.2.2.2.1 ++ t378).size : Int) then (if ((bt366.2.2.2.2.2.2.1 ++ t378).extract 0 (a2 : Int).toNat).size + a3.size ≤ 9223372036854775807 then (if (((bt366.2.2.2.2.2.2.1 ++ t378).extract 0 (a2 : Int).toNat) ++ a3).size + 0 ≤ 9223372036854775807 then ((flagstoneref09_kept.f k l0_0 a0_1 a0_2 a1 bt366.1 bt366.2.1 bt366.2.2.1 bt366.2.2.2.1 bt366.2.2.2.2.1 bt366.2.2.2.2.2.1 bt366.2.2.2.2.2.2.1 bt366.2.2.2.2.2.2.2.1 ((((bt366.2.2.2.2.2.2.1 ++ t378).extract 0 (a2 : Int).toNat) ++ a3) ++ (⟨#[]⟩ : ByteArray))).bind fun bt385 => (some (bt385.1, bt385.2.1, bt385.2.2.1, bt385.2.2.2))) else (none)) else (none)) else (none)) else (none))) else (none)))))) else (some (l0_0, a0_1, a0_2, bt366.2.2.2.2.2.2.2.2)))
theorem flagstoneref09_Write.mono : ∀ a0 a1 a2 a3 a4 a5 k, LeO (flagstoneref09_Write.f k a0 a1 a2 a3 a4 a5) (flagstoneref09_Write.f (k + 1) a0 a1 a2 a3 a4 a5) := by
 intro a0 a1 a2 a3 a4 a5 k
 unfold flagstoneref09_Write.f
 repeat' first
   | (with_reducible exact flagstoneref09_kept.mono _ _ _ _ _ _ _ _ _ _ _ _ _ _)
   | (with_reducible exact flagstoneref09_noughts.mono _ _)
   | (with_reducible exact LeO.refl _)
   | (with_reducible exact LeO.none _)
   | (with_reducible refine LeO.ite ?_ ?_)
   | (with_reducible refine LeO.bind ?_ (fun _ => ?_))
   | exact flagstoneref09_kept.mono _ _ _ _ _ _ _ _ _ _ _ _ _ _
   | exact flagstoneref09_noughts.mono _ _
   | exact LeO.none _
   | refine LeO.ite ?_ ?_
   | refine LeO.bind ?_ (fun _ => ?_)
def flagstoneref09_Write.T10 : Bool × List (List Nat × List Nat) := (true, [([], []), ([0], [0]), ([], []), ([], []), ([3], [3]), ([4], [4]), ([2, 5], [2, 5]), ([6], [6]), ([1, 7], [1, 7]), ([8, 7, 0, 1, 2, 3, 4, 5, 6, 7, 8], [8])])
def flagstoneref09_Write.B10 : List Nat := [0, 1, 0, 0, 8, 24, 60, 124, 255, 511]
theorem flagstoneref09_Write.tab10 : rtab .any (opsOf Try.f17 10) = flagstoneref09_Write.T10 := by kernel_rfl
theorem flagstoneref09_Write.bits10 : waitsOk flagstoneref09_Write.T10.2 flagstoneref09_Write.B10 = true := by kernel_rfl
def flagstoneref09_Write.T14 : Bool × List (List Nat × List Nat) := (true, [([], []), ([], []), ([], []), ([], []), ([], []), ([3, 4], [3, 4]), ([], []), ([5, 6], [5, 6]), ([], []), ([7, 8], [7, 8]), ([0, 1, 2, 9], [0, 1, 2, 9]), ([10], [10]), ([10], [10]), ([11, 10, 0, 1, 2, 3, 4, 5, 6, 7, 8, 9, 10, 11, 12], [11]), ([12, 13, 0, 1, 2, 3, 4, 5, 6, 7, 8, 9, 10, 11, 12, 13], [12])])
def flagstoneref09_Write.B14 : List Nat := [0, 0, 0, 0, 0, 24, 0, 120, 0, 504, 1023, 2047, 2047, 8191, 16383]
theorem flagstoneref09_Write.tab14 : rtab .any (opsOf Try.f17 14) = flagstoneref09_Write.T14 := by kernel_rfl
theorem flagstoneref09_Write.bits14 : waitsOk flagstoneref09_Write.T14.2 flagstoneref09_Write.B14 = true := by kernel_rfl
set_option maxHeartbeats 8000000 in
set_option maxRecDepth 100000 in
theorem flagstoneref09_Write.calls (k : Nat) (P0_0_ : Nat → Prop) (A0_0 : Option Addr) (c0_0 : Nat) (l0_0 : List (S53)) (a0_1 : Int) (a0_2 : Int) (a1 : Int) (a2 : Int) (a3 : ByteArray) (r1 : List (S53)) (r2 : Int) (r3 : Int) (r4 : Int) (w : World) (hs0_0 : Kd.V k53 53 w w.heap.size (fun k_ => P0_0_ k_) (.slice A0_0 l0_0.length c0_0) l0_0) (h : flagstoneref09_Write.f k l0_0 a0_1 a0_2 a1 a2 a3 = some (r1, r2, r3, r4)) :
  Calls Try.prog 17 #[.agg #[.slice A0_0 l0_0.length c0_0, .int .i64 a0_1, .int .i64 a0_2], .int .i64 a1, .int .i64 a2, .string a3] w fun e w' => ∃ v0_ : Value, e = .returned (.tuple #[.agg #[v0_, .int .i64 r2, .int .i64 r3], .int .i64 r4]) ∧ Kd.V k53 53 w' w.heap.size (fun k_ => (P0_0_ k_ ∨ w.heap.size ≤ k_)) v0_ r1 ∧ Below w.heap.size w w' := by
 have hu33 := Try.underlying33
 have hu53 := Try.underlying53
 have HO0_0 := Am_ (show Kd.V k53 53 w w.heap.size (fun k_ => (P0_0_ k_ ∨ w.heap.size ≤ k_)) (.slice A0_0 l0_0.length c0_0) l0_0 from Vm_ hs0_0 (fun k_ hk => .inl hk))
 have HB := Am_ (Below.refl w.heap.size w)
 have H : ((flagstoneref09_file.f l0_0 a0_1 a0_2 a1).bind fun bt366 => (if bt366.2.2.2.2.2.2.2.2 = 0 then (if a2 < 0 then (some (l0_0, a0_1, a0_2, 1)) else (if a3.toList = ([] : List UInt8) then (some (l0_0, a0_1, a0_2, 0)) else (if a2 > 1000 then (some (l0_0, a0_1, a0_2, 10)) else ((flagstoneref09_noughts.f k (wrap64 (a2 - (bt366.2.2.2.2.2.2.1.size : Int)))).bind fun t378 => (if bt366.2.2.2.2.2.2.1.size + t378.size ≤ 9223372036854775807 then (if (wrap64 (a2 + (a3.size : Int))) < ((bt366.2.2.2.2.2.2.1 ++ t378).size : Int) then (if 0 ≤ (wrap64 (a2 + (a3.size : Int))) then (if (wrap64 (a2 + (a3.size : Int))) ≤ ((bt366.2.2.2.2.2.2.1 ++ t378).size : Int) then (if 0 ≤ a2 then (if a2 ≤ ((bt366.2.2.2.2.2.2.1 ++ t378).size : Int) then (if ((bt366.2.2.2.2.2.2.1 ++ t378).extract 0 (a2 : Int).toNat).size + a3.size ≤ 9223372036854775807 then (if (((bt366.2.2.2.2.2.2.1 ++ t378).extract 0 (a2 : Int).toNat) ++ a3).size + ((bt366.2.2.2.2.2.2.1 ++ t378).extract ((wrap64 (a2 + (a3.size : Int))) : Int).toNat (bt366.2.2.2.2.2.2.1 ++ t378).size).size ≤ 9223372036854775807 then ((flagstoneref09_kept.f k l0_0 a0_1 a0_2 a1 bt366.1 bt366.2.1 bt366.2.2.1 bt366.2.2.2.1 bt366.2.2.2.2.1 bt366.2.2.2.2.2.1 bt366.2.2.2.2.2.2.1 bt366.2.2.2.2.2.2.2.1 ((((bt366.2.2.2.2.2.2.1 ++ t378).extract 0 (a2 : Int).toNat) ++ a3) ++ ((bt366.2.2.2.2.2.2.1 ++ t378).extract ((wrap64 (a2 + (a3.size : Int))) : Int).toNat (bt366.2.2.2.2.2.2.1 ++ t378).size))).bind fun bt379 => (some (bt379.1, bt379.2.1, bt379.2.2.1, bt379.2.2.2))) else (none)) else (none)) else (none)) else (none)) else (none)) else (none)) else (if 0 ≤ a2 then (if a2 ≤ ((bt366.2.2.2.2.2.2.1 ++ t378).size : Int) then (if ((bt366.2.2.2.2.2.2.1 ++ t378).extract 0 (a2 : Int).toNat).size + a3.size ≤ 9223372036854775807 then (if (((bt366.2.2.2.2.2.2.1 ++ t378).extract 0 (a2 : Int).toNat) ++ a3).size + 0 ≤ 9223372036854775807 then ((flagstoneref09_kept.f k l0_0 a0_1 a0_2 a1 bt366.1 bt366.2.1 bt366.2.2.1 bt366.2.2.2.1 bt366.2.2.2.2.1 bt366.2.2.2.2.2.1 bt366.2.2.2.2.2.2.1 bt366.2.2.2.2.2.2.2.1 ((((bt366.2.2.2.2.2.2.1 ++ t378).extract 0 (a2 : Int).toNat) ++ a3) ++ (⟨#[]⟩ : ByteArray))).bind fun bt385 => (some (bt385.1, bt385.2.1, bt385.2.2.1, bt385.2.2.2))) else (none)) else (none)) else (none)) else (none))) else (none)))))) else (some (l0_0, a0_1, a0_2, bt366.2.2.2.2.2.2.2.2)))) = some (r1, r2, r3, r4) := h
 clear h
 replace H := Option.bind_eq_some_iff.mp H
 obtain ⟨⟨t366, t367, t368, t369, t370, t371, t372, t373, t376⟩, A50, H⟩ := H
 replace H : (if t376 = 0 then (if a2 < 0 then (some (l0_0, a0_1, a0_2, 1)) else (if a3.toList = ([] : List UInt8) then (some (l0_0, a0_1, a0_2, 0)) else (if a2 > 1000 then (some (l0_0, a0_1, a0_2, 10)) else ((flagstoneref09_noughts.f k (wrap64 (a2 - (t372.size : Int)))).bind fun t378 => (if t372.size + t378.size ≤ 9223372036854775807 then (if (wrap64 (a2 + (a3.size : Int))) < ((t372 ++ t378).size : Int) then (if 0 ≤ (wrap64 (a2 + (a3.size : Int))) then (if (wrap64 (a2 + (a3.size : Int))) ≤ ((t372 ++ t378).size : Int) then (if 0 ≤ a2 then (if a2 ≤ ((t372 ++ t378).size : Int) then (if ((t372 ++ t378).extract 0 (a2 : Int).toNat).size + a3.size ≤ 9223372036854775807 then (if (((t372 ++ t378).extract 0 (a2 : Int).toNat) ++ a3).size + ((t372 ++ t378).extract ((wrap64 (a2 + (a3.size : Int))) : Int).toNat (t372 ++ t378).size).size ≤ 9223372036854775807 then ((flagstoneref09_kept.f k l0_0 a0_1 a0_2 a1 t366 t367 t368 t369 t370 t371 t372 t373 ((((t372 ++ t378).extract 0 (a2 : Int).toNat) ++ a3) ++ ((t372 ++ t378).extract ((wrap64 (a2 + (a3.size : Int))) : Int).toNat (t372 ++ t378).size))).bind fun bt379 => (some (bt379.1, bt379.2.1, bt379.2.2.1, bt379.2.2.2))) else (none)) else (none)) else (none)) else (none)) else (none)) else (none)) else (if 0 ≤ a2 then (if a2 ≤ ((t372 ++ t378).size : Int) then (if ((t372 ++ t378).extract 0 (a2 : Int).toNat).size + a3.size ≤ 9223372036854775807 then (if (((t372 ++ t378).extract 0 (a2 : Int).toNat) ++ a3).size + 0 ≤ 9223372036854775807 then ((flagstoneref09_kept.f k l0_0 a0_1 a0_2 a1 t366 t367 t368 t369 t370 t371 t372 t373 ((((t372 ++ t378).extract 0 (a2 : Int).toNat) ++ a3) ++ (⟨#[]⟩ : ByteArray))).bind fun bt385 => (some (bt385.1, bt385.2.1, bt385.2.2.1, bt385.2.2.2))) else (none)) else (none)) else (none)) else (none))) else (none)))))) else (some (l0_0, a0_1, a0_2, t376))) = some (r1, r2, r3, r4) := H
 have A5 := Am_ A50
 clear A50
 by_cases c6 : t376 = 0
 ·rw [if_pos c6] at H
  have c6b0 : (t376 == 0) = true := beq_iff_eq.mpr c6
  have c6b1 : (t376 != 0) = false := bne_eq_false_iff_eq.mpr c6
  clear c6
  by_cases c7 : a2 < 0
  ·rw [if_pos c7] at H
   have c7b0 : decide (a2 < 0) = true := Dt_ c7
   clear c7
   simp only [Option.some.injEq, Prod.mk.injEq] at H
   obtain ⟨rfl, rfl, rfl, rfl⟩ := H
   go_enter Try.func17, Try.ntmps17
   go_wp2_with (first | ((with_reducible refine gate_dst (N := 4) rfl ?_); refine box_event ?hg (N := 4) ?hd (cs := #[.slice A0_0 l0_0.length c0_0, .int .i64 a0_1, .int .i64 a0_2]) (t := 33) ?hr ?_; (case hd => rfl); (case hg => rfl); (case hr => go_simp; try rfl); intro gb364 hg w8 hbox hb; have n0_ := Am_ (Vb_ (Ke_ (Pv_ HO0_0.out) gb364 (Nat.le_of_eq hg.symm)) hb); have n1_ := Am_ (Be_ (Pb0_ HB.out) hb); have n2_ := Am_ (hbox); have n3_ := Am_ ((by rw [hg]; exact (Bz_ (Pb0_ HB.out)) : w.heap.size ≤ gb364)); have n4_ := Am_ ((by rw [hg]; exact (Bz_ (Pb0_ HB.out)) : w.heap.size ≤ gb364)); clear HO0_0; clear HB; have HO0_0 := n0_; have HB := n1_; have BK364 := n2_; have GW364 := n3_; have GE364 := n4_; clear n0_ n1_ n2_ n3_ n4_; clear hb hbox hg) | ((with_reducible refine gate_dst (N := 8) rfl ?_); refine box_event ?hg (N := 8) ?hd (cs := #[.slice none 0 0, .int .i64 0, .int .i64 0]) (t := 33) ?hr ?_; (case hd => rfl); (case hg => rfl); (case hr => go_simp; try rfl); intro gb365 hg w9 hbox hb; have n0_ := Am_ (Vb_ (Ke_ (Pv_ HO0_0.out) gb365 (Nat.le_of_eq hg.symm)) hb); have n1_ := Am_ (Bb_ (g := gb364) (o := .cells #[.slice A0_0 l0_0.length c0_0, .int .i64 a0_1, .int .i64 a0_2] 33 (0, 0)) (Pk_ BK364.out) hb); have n2_ := Am_ (Be_ (Pb1_ HB.out GE364.out) hb); have n3_ := Am_ (hbox); have n4_ := Am_ ((by rw [hg]; exact (Bz_ (Pb1_ HB.out GE364.out)) : w.heap.size ≤ gb365)); have n5_ := Am_ ((by rw [hg]; exact (Bz_ (Pb1_ HB.out GE364.out)) : w.heap.size ≤ gb365)); have n6_ := Am_ ((by rw [hg]; exact Nat.ne_of_lt (blk_lt (g := gb364) (o := .cells #[.slice A0_0 l0_0.length c0_0, .int .i64 a0_1, .int .i64 a0_2] 33 (0, 0)) (Pk_ BK364.out)) : gb364 ≠ gb365)); have n7_ := Am_ ((by rw [hg]; exact Nat.ne_of_gt (blk_lt (g := gb364) (o := .cells #[.slice A0_0 l0_0.length c0_0, .int .i64 a0_1, .int .i64 a0_2] 33 (0, 0)) (Pk_ BK364.out)) : gb365 ≠ gb364)); clear HO0_0; clear BK364; clear HB; have HO0_0 := n0_; have BK364 := n1_; have HB := n2_; have BK365 := n3_; have GW365 := n4_; have GE365 := n5_; have NB364_365 := n6_; have NB365_364 := n7_; clear n0_ n1_ n2_ n3_ n4_ n5_ n6_ n7_; clear hb hbox hg; have hnb10 := NB364_365.out; have hnc10 := NB365_364.out; obtain ⟨hcz11_0, hcz11_1, hcz11_2, hfz11_0, hfz11_1, hfz11_2⟩ := Ce3_ BK364.out) | ((with_reducible refine gate_callee (f := 25) rfl ?_); refine goesL_ (some 17) rfl rfl Try.func25 (by kernel_rfl) rfl #[.agg #[.slice A0_0 l0_0.length c0_0, .int .i64 a0_1, .int .i64 a0_2], .int .i64 a1] rfl (by (try simp only [List.map_toArray, List.map_cons, List.map_nil]); first | done | rfl | (simp only [ByteArray.size_append]; rfl) | (simp only [List.length_drop, List.length_take]; rfl)) ?_; (with_reducible refine (flagstoneref09_file.calls (fun k_ => (((P0_0_ k_ ∨ w.heap.size ≤ k_) ∧ k_ ≠ gb364) ∧ k_ ≠ gb365)) _ _ l0_0 a0_1 a0_2 a1 t366 t367 t368 t369 t370 t371 t372 t373 t376 _ ?side1 A5.out).mono ?_); (case side1 => exact HO0_0.out); rintro e w12 ⟨v374, rfl, ho0, hb⟩; refine ⟨_, rfl, ?_⟩; have n0_ := Am_ (Vb_ (Pv_ HO0_0.out) hb); have n1_ := Am_ (Vl_ (Vm_ (ok' := fun k_ => (P0_0_ k_ ∨ w.heap.size ≤ k_) ∧ k_ ≠ gb364 ∧ k_ ≠ gb365) ho0 (fun k_ hk_ => ⟨Or.elim hk_ (fun hs_ => hs_.1.1) (fun hn_ => (.inr (Nat.le_trans (Bz_ (Pb2_ HB.out GE364.out GE365.out)) hn_))), Or.elim hk_ (fun hs_ => hs_.1.2) (fun hn_ => (Kd.freshB (g := gb364) (o := .cells #[.slice A0_0 l0_0.length c0_0, .int .i64 a0_1, .int .i64 a0_2] 33 (0, 0)) (Pk_ BK364.out) k_ hn_)), Or.elim hk_ (fun hs_ => hs_.2) (fun hn_ => (Kd.freshB (g := gb365) (o := .cells #[.slice none 0 0, .int .i64 0, .int .i64 0] 33 (0, 0)) (Pk_ BK365.out) k_ hn_))⟩)) (Bz_ (Pb2_ HB.out GE364.out GE365.out))); have n2_ := Am_ (Bb_ (g := gb364) (o := .cells #[.slice A0_0 l0_0.length c0_0, .int .i64 a0_1, .int .i64 a0_2] 33 (0, 0)) (Pk_ BK364.out) hb); have n3_ := Am_ (Bb_ (g := gb365) (o := .cells #[.slice none 0 0, .int .i64 0, .int .i64 0] 33 (0, 0)) (Pk_ BK365.out) hb); have n4_ := Am_ (Be_ (Pb2_ HB.out GE364.out GE365.out) hb); clear HO0_0; clear BK364; clear BK365; clear HB; have HO0_0 := n0_; have HO375 := n1_; have BK364 := n2_; have BK365 := n3_; have HB := n4_; clear n0_ n1_ n2_ n3_ n4_; (try clear hb); (try clear hb2); (try clear hk); (try clear hi); (try clear ho0)) | ((with_reducible refine gate_dst (N := 10) rfl ?_); refine box_event ?hg (N := 10) ?hd (cs := #[.int .i64 0, .int .i64 0, .int .i64 0, .int .i64 0, .int .i64 0, .int .i64 0, .string (⟨#[]⟩ : ByteArray), .slice none 0 0]) (t := 53) ?hr ?_; (case hd => rfl); (case hg => rfl); (case hr => go_simp; try rfl); intro gb377 hg w13 hbox hb; have n0_ := Am_ (Vb_ (Ke_ (Pv_ HO0_0.out) gb377 (Nat.le_of_eq hg.symm)) hb); have n1_ := Am_ (Vb_ (Ke_ (Pv_ HO375.out) gb377 (Nat.le_of_eq hg.symm)) hb); have n2_ := Am_ (Bb_ (g := gb364) (o := .cells #[.slice A0_0 l0_0.length c0_0, .int .i64 a0_1, .int .i64 a0_2] 33 (0, 0)) (Pk_ BK364.out) hb); have n3_ := Am_ (Bb_ (g := gb365) (o := .cells #[.slice none 0 0, .int .i64 0, .int .i64 0] 33 (0, 0)) (Pk_ BK365.out) hb); have n4_ := Am_ (Be_ (Pb2_ HB.out GE364.out GE365.out) hb); have n5_ := Am_ (hbox); have n6_ := Am_ ((by rw [hg]; exact (Bz_ (Pb2_ HB.out GE364.out GE365.out)) : w.heap.size ≤ gb377)); have n7_ := Am_ ((by rw [hg]; exact (Bz_ (Pb2_ HB.out GE364.out GE365.out)) : w.heap.size ≤ gb377)); have n8_ := Am_ ((by rw [hg]; exact Nat.ne_of_lt (blk_lt (g := gb364) (o := .cells #[.slice A0_0 l0_0.length c0_0, .int .i64 a0_1, .int .i64 a0_2] 33 (0, 0)) (Pk_ BK364.out)) : gb364 ≠ gb377)); have n9_ := Am_ ((by rw [hg]; exact Nat.ne_of_gt (blk_lt (g := gb364) (o := .cells #[.slice A0_0 l0_0.length c0_0, .int .i64 a0_1, .int .i64 a0_2] 33 (0, 0)) (Pk_ BK364.out)) : gb377 ≠ gb364)); have n10_ := Am_ ((by rw [hg]; exact Nat.ne_of_lt (blk_lt (g := gb365) (o := .cells #[.slice none 0 0, .int .i64 0, .int .i64 0] 33 (0, 0)) (Pk_ BK365.out)) : gb365 ≠ gb377)); have n11_ := Am_ ((by rw [hg]; exact Nat.ne_of_gt (blk_lt (g := gb365) (o := .cells #[.slice none 0 0, .int .i64 0, .int .i64 0] 33 (0, 0)) (Pk_ BK365.out)) : gb377 ≠ gb365)); clear HO0_0; clear HO375; clear BK364; clear BK365; clear HB; have HO0_0 := n0_; have HO375 := n1_; have BK364 := n2_; have BK365 := n3_; have HB := n4_; have BK377 := n5_; have GW377 := n6_; have GE377 := n7_; have NB364_377 := n8_; have NB377_364 := n9_; have NB365_377 := n10_; have NB377_365 := n11_; clear n0_ n1_ n2_ n3_ n4_ n5_ n6_ n7_ n8_ n9_ n10_ n11_; clear hb hbox hg; have hnb14 := NB377_364.out; have hnc14 := NB364_377.out; have hnb15 := NB377_365.out; have hnc15 := NB365_377.out; obtain ⟨hcz16_0, hcz16_1, hcz16_2, hcz16_3, hcz16_4, hcz16_5, hcz16_6, hcz16_7, hfz16_0, hfz16_1, hfz16_2, hfz16_3, hfz16_4, hfz16_5, hfz16_6, hfz16_7⟩ := Ce8_ BK377.out; obtain ⟨Ao17, co17, eo17⟩ := Vx_ HO375.out; subst eo17; obtain ⟨hcz18_0, hcz18_1, hcz18_2, hfz18_0, hfz18_1, hfz18_2⟩ := Ce3_ BK364.out; obtain ⟨hcz19_0, hcz19_1, hcz19_2, hfz19_0, hfz19_1, hfz19_2⟩ := Ce3_ BK365.out))
   refine bodyPost_ret (results_ct rfl _ _ gb365 33 #[.slice A0_0 l0_0.length c0_0, .int .i64 a0_1, .int .i64 a0_2] (0, 0) _ rfl (by (with_reducible repeat (first | refine Bn_ ?_ _ | refine Bd_ ?_ | refine Ba_ ?_ _)); refine Bp_ (cs := #[.slice A0_0 l0_0.length c0_0, .int .i64 a0_1, .int .i64 0]) ?_ 2 _ rfl; (with_reducible repeat (first | refine Bn_ ?_ _ | refine Bd_ ?_ | refine Ba_ ?_ _)); refine Bp_ (cs := #[.slice A0_0 l0_0.length c0_0, .int .i64 0, .int .i64 0]) ?_ 1 _ rfl; (with_reducible repeat (first | refine Bn_ ?_ _ | refine Bd_ ?_ | refine Ba_ ?_ _)); refine Bp_ (cs := #[.slice none 0 0, .int .i64 0, .int .i64 0]) ?_ 0 _ rfl; (with_reducible repeat (first | refine Bn_ ?_ _ | refine Bd_ ?_ | refine Ba_ ?_ _)); refine blk_far ?_ NB365_377.out _; (with_reducible repeat (first | refine Bn_ ?_ _ | refine Bd_ ?_ | refine Ba_ ?_ _)); refine blk_far ?_ NB365_377.out _; (with_reducible repeat (first | refine Bn_ ?_ _ | refine Bd_ ?_ | refine Ba_ ?_ _)); refine blk_far ?_ NB365_377.out _; (with_reducible repeat (first | refine Bn_ ?_ _ | refine Bd_ ?_ | refine Ba_ ?_ _)); refine blk_far ?_ NB365_377.out _; (with_reducible repeat (first | refine Bn_ ?_ _ | refine Bd_ ?_ | refine Ba_ ?_ _)); refine blk_far ?_ NB365_377.out _; (with_reducible repeat (first | refine Bn_ ?_ _ | refine Bd_ ?_ | refine Ba_ ?_ _)); refine blk_far ?_ NB365_377.out _; (with_reducible repeat (first | refine Bn_ ?_ _ | refine Bd_ ?_ | refine Ba_ ?_ _)); refine blk_far ?_ NB365_377.out _; (with_reducible repeat (first | refine Bn_ ?_ _ | refine Bd_ ?_ | refine Ba_ ?_ _)); refine blk_far ?_ NB365_377.out _; (with_reducible repeat (first | refine Bn_ ?_ _ | refine Bd_ ?_ | refine Ba_ ?_ _)); exact BK365.out) Try.underlying33 rfl (by kernel_rfl)) rfl ?_
   exact ⟨_, by first | rfl | (simp [errW_none, errW_some] <;> rfl) | (simp [*, errW_none, errW_some] <;> rfl), by (with_reducible repeat (first | apply Va_ | apply Vn_ | apply Vd_)); exact Vm_ (Vf_ (p := ⟨gb365, 2, none⟩) (Vf_ (p := ⟨gb365, 1, none⟩) (Vf_ (p := ⟨gb365, 0, none⟩) (Vf_ (p := ⟨gb377, 7, none⟩) (Vf_ (p := ⟨gb377, 6, none⟩) (Vf_ (p := ⟨gb377, 5, none⟩) (Vf_ (p := ⟨gb377, 4, none⟩) (Vf_ (p := ⟨gb377, 3, none⟩) (Vf_ (p := ⟨gb377, 2, none⟩) (Vf_ (p := ⟨gb377, 1, none⟩) (Vf_ (p := ⟨gb377, 0, none⟩) (Vm_ (Vm_ HO0_0.out (fun k_ hk => (⟨hk, hk.2⟩ : _ ∧ k_ ≠ gb377))) (fun k_ hk => (⟨hk, hk.1.1.2⟩ : _ ∧ k_ ≠ gb365))) (fun _ hk => hk.1.2) (.int .i64 t366)) (fun _ hk => hk.1.2) (.int .i64 t367)) (fun _ hk => hk.1.2) (.int .i64 t368)) (fun _ hk => hk.1.2) (.int .i64 t369)) (fun _ hk => hk.1.2) (.int .i64 t370)) (fun _ hk => hk.1.2) (.int .i64 t371)) (fun _ hk => hk.1.2) (.string t372)) (fun _ hk => hk.1.2) (.slice Ao17 t373.length co17)) (fun _ hk => hk.2) (.slice A0_0 l0_0.length c0_0)) (fun _ hk => hk.2) (.int .i64 a0_1)) (fun _ hk => hk.2) (.int .i64 a0_2)) (fun _ hk => hk.1.1.1.1.1), by repeat (first | (with_reducible first | exact HB.out | apply Pa_ | apply Pn_ | apply Pd_ | refine Bs_ ?_ GE364.out | refine Bs_ ?_ GE365.out | refine Bs_ ?_ GE377.out) | exact HB.out)⟩
  ·rw [if_neg c7] at H
   have c7b0 : decide (a2 < 0) = false := Df_ c7
   clear c7
   by_cases c20 : a3.toList = ([] : List UInt8)
   ·rw [if_pos c20] at H
    have c20b0 : (a3.toList == ([] : List UInt8)) = true := beq_iff_eq.mpr c20
    have c20b1 : (a3.toList != ([] : List UInt8)) = false := bne_eq_false_iff_eq.mpr c20
    clear c20
    simp only [Option.some.injEq, Prod.mk.injEq] at H
    obtain ⟨rfl, rfl, rfl, rfl⟩ := H
    go_enter Try.func17, Try.ntmps17
    go_wp2_with (first | ((with_reducible refine gate_dst (N := 4) rfl ?_); refine box_event ?hg (N := 4) ?hd (cs := #[.slice A0_0 l0_0.length c0_0, .int .i64 a0_1, .int .i64 a0_2]) (t := 33) ?hr ?_; (case hd => rfl); (case hg => rfl); (case hr => go_simp; try rfl); intro gb364 hg w21 hbox hb; have n0_ := Am_ (Vb_ (Ke_ (Pv_ HO0_0.out) gb364 (Nat.le_of_eq hg.symm)) hb); have n1_ := Am_ (Be_ (Pb0_ HB.out) hb); have n2_ := Am_ (hbox); have n3_ := Am_ ((by rw [hg]; exact (Bz_ (Pb0_ HB.out)) : w.heap.size ≤ gb364)); have n4_ := Am_ ((by rw [hg]; exact (Bz_ (Pb0_ HB.out)) : w.heap.size ≤ gb364)); clear HO0_0; clear HB; have HO0_0 := n0_; have HB := n1_; have BK364 := n2_; have GW364 := n3_; have GE364 := n4_; clear n0_ n1_ n2_ n3_ n4_; clear hb hbox hg) | ((with_reducible refine gate_dst (N := 8) rfl ?_); refine box_event ?hg (N := 8) ?hd (cs := #[.slice none 0 0, .int .i64 0, .int .i64 0]) (t := 33) ?hr ?_; (case hd => rfl); (case hg => rfl); (case hr => go_simp; try rfl); intro gb365 hg w22 hbox hb; have n0_ := Am_ (Vb_ (Ke_ (Pv_ HO0_0.out) gb365 (Nat.le_of_eq hg.symm)) hb); have n1_ := Am_ (Bb_ (g := gb364) (o := .cells #[.slice A0_0 l0_0.length c0_0, .int .i64 a0_1, .int .i64 a0_2] 33 (0, 0)) (Pk_ BK364.out) hb); have n2_ := Am_ (Be_ (Pb1_ HB.out GE364.out) hb); have n3_ := Am_ (hbox); have n4_ := Am_ ((by rw [hg]; exact (Bz_ (Pb1_ HB.out GE364.out)) : w.heap.size ≤ gb365)); have n5_ := Am_ ((by rw [hg]; exact (Bz_ (Pb1_ HB.out GE364.out)) : w.heap.size ≤ gb365)); have n6_ := Am_ ((by rw [hg]; exact Nat.ne_of_lt (blk_lt (g := gb364) (o := .cells #[.slice A0_0 l0_0.length c0_0, .int .i64 a0_1, .int .i64 a0_2] 33 (0, 0)) (Pk_ BK364.out)) : gb364 ≠ gb365)); have n7_ := Am_ ((by rw [hg]; exact Nat.ne_of_gt (blk_lt (g := gb364) (o := .cells #[.slice A0_0 l0_0.length c0_0, .int .i64 a0_1, .int .i64 a0_2] 33 (0, 0)) (Pk_ BK364.out)) : gb365 ≠ gb364)); clear HO0_0; clear BK364; clear HB; have HO0_0 := n0_; have BK364 := n1_; have HB := n2_; have BK365 := n3_; have GW365 := n4_; have GE365 := n5_; have NB364_365 := n6_; have NB365_364 := n7_; clear n0_ n1_ n2_ n3_ n4_ n5_ n6_ n7_; clear hb hbox hg; have hnb23 := NB364_365.out; have hnc23 := NB365_364.out; obtain ⟨hcz24_0, hcz24_1, hcz24_2, hfz24_0, hfz24_1, hfz24_2⟩ := Ce3_ BK364.out) | ((with_reducible refine gate_callee (f := 25) rfl ?_); refine goesL_ (some 17) rfl rfl Try.func25 (by kernel_rfl) rfl #[.agg #[.slice A0_0 l0_0.length c0_0, .int .i64 a0_1, .int .i64 a0_2], .int .i64 a1] rfl (by (try simp only [List.map_toArray, List.map_cons, List.map_nil]); first | done | rfl | (simp only [ByteArray.size_append]; rfl) | (simp only [List.length_drop, List.length_take]; rfl)) ?_; (with_reducible refine (flagstoneref09_file.calls (fun k_ => (((P0_0_ k_ ∨ w.heap.size ≤ k_) ∧ k_ ≠ gb364) ∧ k_ ≠ gb365)) _ _ l0_0 a0_1 a0_2 a1 t366 t367 t368 t369 t370 t371 t372 t373 t376 _ ?side1 A5.out).mono ?_); (case side1 => exact HO0_0.out); rintro e w25 ⟨v374, rfl, ho0, hb⟩; refine ⟨_, rfl, ?_⟩; have n0_ := Am_ (Vb_ (Pv_ HO0_0.out) hb); have n1_ := Am_ (Vl_ (Vm_ (ok' := fun k_ => (P0_0_ k_ ∨ w.heap.size ≤ k_) ∧ k_ ≠ gb364 ∧ k_ ≠ gb365) ho0 (fun k_ hk_ => ⟨Or.elim hk_ (fun hs_ => hs_.1.1) (fun hn_ => (.inr (Nat.le_trans (Bz_ (Pb2_ HB.out GE364.out GE365.out)) hn_))), Or.elim hk_ (fun hs_ => hs_.1.2) (fun hn_ => (Kd.freshB (g := gb364) (o := .cells #[.slice A0_0 l0_0.length c0_0, .int .i64 a0_1, .int .i64 a0_2] 33 (0, 0)) (Pk_ BK364.out) k_ hn_)), Or.elim hk_ (fun hs_ => hs_.2) (fun hn_ => (Kd.freshB (g := gb365) (o := .cells #[.slice none 0 0, .int .i64 0, .int .i64 0] 33 (0, 0)) (Pk_ BK365.out) k_ hn_))⟩)) (Bz_ (Pb2_ HB.out GE364.out GE365.out))); have n2_ := Am_ (Bb_ (g := gb364) (o := .cells #[.slice A0_0 l0_0.length c0_0, .int .i64 a0_1, .int .i64 a0_2] 33 (0, 0)) (Pk_ BK364.out) hb); have n3_ := Am_ (Bb_ (g := gb365) (o := .cells #[.slice none 0 0, .int .i64 0, .int .i64 0] 33 (0, 0)) (Pk_ BK365.out) hb); have n4_ := Am_ (Be_ (Pb2_ HB.out GE364.out GE365.out) hb); clear HO0_0; clear BK364; clear BK365; clear HB; have HO0_0 := n0_; have HO375 := n1_; have BK364 := n2_; have BK365 := n3_; have HB := n4_; clear n0_ n1_ n2_ n3_ n4_; (try clear hb); (try clear hb2); (try clear hk); (try clear hi); (try clear ho0)) | ((with_reducible refine gate_dst (N := 10) rfl ?_); refine box_event ?hg (N := 10) ?hd (cs := #[.int .i64 0, .int .i64 0, .int .i64 0, .int .i64 0, .int .i64 0, .int .i64 0, .string (⟨#[]⟩ : ByteArray), .slice none 0 0]) (t := 53) ?hr ?_; (case hd => rfl); (case hg => rfl); (case hr => go_simp; try rfl); intro gb377 hg w26 hbox hb; have n0_ := Am_ (Vb_ (Ke_ (Pv_ HO0_0.out) gb377 (Nat.le_of_eq hg.symm)) hb); have n1_ := Am_ (Vb_ (Ke_ (Pv_ HO375.out) gb377 (Nat.le_of_eq hg.symm)) hb); have n2_ := Am_ (Bb_ (g := gb364) (o := .cells #[.slice A0_0 l0_0.length c0_0, .int .i64 a0_1, .int .i64 a0_2] 33 (0, 0)) (Pk_ BK364.out) hb); have n3_ := Am_ (Bb_ (g := gb365) (o := .cells #[.slice none 0 0, .int .i64 0, .int .i64 0] 33 (0, 0)) (Pk_ BK365.out) hb); have n4_ := Am_ (Be_ (Pb2_ HB.out GE364.out GE365.out) hb); have n5_ := Am_ (hbox); have n6_ := Am_ ((by rw [hg]; exact (Bz_ (Pb2_ HB.out GE364.out GE365.out)) : w.heap.size ≤ gb377)); have n7_ := Am_ ((by rw [hg]; exact (Bz_ (Pb2_ HB.out GE364.out GE365.out)) : w.heap.size ≤ gb377)); have n8_ := Am_ ((by rw [hg]; exact Nat.ne_of_lt (blk_lt (g := gb364) (o := .cells #[.slice A0_0 l0_0.length c0_0, .int .i64 a0_1, .int .i64 a0_2] 33 (0, 0)) (Pk_ BK364.out)) : gb364 ≠ gb377)); have n9_ := Am_ ((by rw [hg]; exact Nat.ne_of_gt (blk_lt (g := gb364) (o := .cells #[.slice A0_0 l0_0.length c0_0, .int .i64 a0_1, .int .i64 a0_2] 33 (0, 0)) (Pk_ BK364.out)) : gb377 ≠ gb364)); have n10_ := Am_ ((by rw [hg]; exact Nat.ne_of_lt (blk_lt (g := gb365) (o := .cells #[.slice none 0 0, .int .i64 0, .int .i64 0] 33 (0, 0)) (Pk_ BK365.out)) : gb365 ≠ gb377)); have n11_ := Am_ ((by rw [hg]; exact Nat.ne_of_gt (blk_lt (g := gb365) (o := .cells #[.slice none 0 0, .int .i64 0, .int .i64 0] 33 (0, 0)) (Pk_ BK365.out)) : gb377 ≠ gb365)); clear HO0_0; clear HO375; clear BK364; clear BK365; clear HB; have HO0_0 := n0_; have HO375 := n1_; have BK364 := n2_; have BK365 := n3_; have HB := n4_; have BK377 := n5_; have GW377 := n6_; have GE377 := n7_; have NB364_377 := n8_; have NB377_364 := n9_; have NB365_377 := n10_; have NB377_365 := n11_; clear n0_ n1_ n2_ n3_ n4_ n5_ n6_ n7_ n8_ n9_ n10_ n11_; clear hb hbox hg; have hnb27 := NB377_364.out; have hnc27 := NB364_377.out; have hnb28 := NB377_365.out; have hnc28 := NB365_377.out; obtain ⟨hcz29_0, hcz29_1, hcz29_2, hcz29_3, hcz29_4, hcz29_5, hcz29_6, hcz29_7, hfz29_0, hfz29_1, hfz29_2, hfz29_3, hfz29_4, hfz29_5, hfz29_6, hfz29_7⟩ := Ce8_ BK377.out; obtain ⟨Ao30, co30, eo30⟩ := Vx_ HO375.out; subst eo30; obtain ⟨hcz31_0, hcz31_1, hcz31_2, hfz31_0, hfz31_1, hfz31_2⟩ := Ce3_ BK364.out; obtain ⟨hcz32_0, hcz32_1, hcz32_2, hfz32_0, hfz32_1, hfz32_2⟩ := Ce3_ BK365.out))
    refine bodyPost_ret (results_ct rfl _ _ gb365 33 #[.slice A0_0 l0_0.length c0_0, .int .i64 a0_1, .int .i64 a0_2] (0, 0) _ rfl (by (with_reducible repeat (first | refine Bn_ ?_ _ | refine Bd_ ?_ | refine Ba_ ?_ _)); refine Bp_ (cs := #[.slice A0_0 l0_0.length c0_0, .int .i64 a0_1, .int .i64 0]) ?_ 2 _ rfl; (with_reducible repeat (first | refine Bn_ ?_ _ | refine Bd_ ?_ | refine Ba_ ?_ _)); refine Bp_ (cs := #[.slice A0_0 l0_0.length c0_0, .int .i64 0, .int .i64 0]) ?_ 1 _ rfl; (with_reducible repeat (first | refine Bn_ ?_ _ | refine Bd_ ?_ | refine Ba_ ?_ _)); refine Bp_ (cs := #[.slice none 0 0, .int .i64 0, .int .i64 0]) ?_ 0 _ rfl; (with_reducible repeat (first | refine Bn_ ?_ _ | refine Bd_ ?_ | refine Ba_ ?_ _)); refine blk_far ?_ NB365_377.out _; (with_reducible repeat (first | refine Bn_ ?_ _ | refine Bd_ ?_ | refine Ba_ ?_ _)); refine blk_far ?_ NB365_377.out _; (with_reducible repeat (first | refine Bn_ ?_ _ | refine Bd_ ?_ | refine Ba_ ?_ _)); refine blk_far ?_ NB365_377.out _; (with_reducible repeat (first | refine Bn_ ?_ _ | refine Bd_ ?_ | refine Ba_ ?_ _)); refine blk_far ?_ NB365_377.out _; (with_reducible repeat (first | refine Bn_ ?_ _ | refine Bd_ ?_ | refine Ba_ ?_ _)); refine blk_far ?_ NB365_377.out _; (with_reducible repeat (first | refine Bn_ ?_ _ | refine Bd_ ?_ | refine Ba_ ?_ _)); refine blk_far ?_ NB365_377.out _; (with_reducible repeat (first | refine Bn_ ?_ _ | refine Bd_ ?_ | refine Ba_ ?_ _)); refine blk_far ?_ NB365_377.out _; (with_reducible repeat (first | refine Bn_ ?_ _ | refine Bd_ ?_ | refine Ba_ ?_ _)); refine blk_far ?_ NB365_377.out _; (with_reducible repeat (first | refine Bn_ ?_ _ | refine Bd_ ?_ | refine Ba_ ?_ _)); exact BK365.out) Try.underlying33 rfl (by kernel_rfl)) rfl ?_
    exact ⟨_, by first | rfl | (simp [errW_none, errW_some] <;> rfl) | (simp [*, errW_none, errW_some] <;> rfl), by (with_reducible repeat (first | apply Va_ | apply Vn_ | apply Vd_)); exact Vm_ (Vf_ (p := ⟨gb365, 2, none⟩) (Vf_ (p := ⟨gb365, 1, none⟩) (Vf_ (p := ⟨gb365, 0, none⟩) (Vf_ (p := ⟨gb377, 7, none⟩) (Vf_ (p := ⟨gb377, 6, none⟩) (Vf_ (p := ⟨gb377, 5, none⟩) (Vf_ (p := ⟨gb377, 4, none⟩) (Vf_ (p := ⟨gb377, 3, none⟩) (Vf_ (p := ⟨gb377, 2, none⟩) (Vf_ (p := ⟨gb377, 1, none⟩) (Vf_ (p := ⟨gb377, 0, none⟩) (Vm_ (Vm_ HO0_0.out (fun k_ hk => (⟨hk, hk.2⟩ : _ ∧ k_ ≠ gb377))) (fun k_ hk => (⟨hk, hk.1.1.2⟩ : _ ∧ k_ ≠ gb365))) (fun _ hk => hk.1.2) (.int .i64 t366)) (fun _ hk => hk.1.2) (.int .i64 t367)) (fun _ hk => hk.1.2) (.int .i64 t368)) (fun _ hk => hk.1.2) (.int .i64 t369)) (fun _ hk => hk.1.2) (.int .i64 t370)) (fun _ hk => hk.1.2) (.int .i64 t371)) (fun _ hk => hk.1.2) (.string t372)) (fun _ hk => hk.1.2) (.slice Ao30 t373.length co30)) (fun _ hk => hk.2) (.slice A0_0 l0_0.length c0_0)) (fun _ hk => hk.2) (.int .i64 a0_1)) (fun _ hk => hk.2) (.int .i64 a0_2)) (fun _ hk => hk.1.1.1.1.1), by repeat (first | (with_reducible first | exact HB.out | apply Pa_ | apply Pn_ | apply Pd_ | refine Bs_ ?_ GE364.out | refine Bs_ ?_ GE365.out | refine Bs_ ?_ GE377.out) | exact HB.out)⟩
   ·rw [if_neg c20] at H
    have c20b0 : (a3.toList == ([] : List UInt8)) = false := beq_eq_false_iff_ne.mpr c20
    have c20b1 : (a3.toList != ([] : List UInt8)) = true := bne_iff_ne.mpr c20
    by_cases c33 : a2 > 1000
    ·rw [if_pos c33] at H
     have c33b0 : decide (1000 < a2) = true := Dt_ c33
     clear c33
     simp only [Option.some.injEq, Prod.mk.injEq] at H
     obtain ⟨rfl, rfl, rfl, rfl⟩ := H
     go_enter Try.func17, Try.ntmps17
     go_wp2_with (first | ((with_reducible refine gate_dst (N := 4) rfl ?_); refine box_event ?hg (N := 4) ?hd (cs := #[.slice A0_0 l0_0.length c0_0, .int .i64 a0_1, .int .i64 a0_2]) (t := 33) ?hr ?_; (case hd => rfl); (case hg => rfl); (case hr => go_simp; try rfl); intro gb364 hg w34 hbox hb; have n0_ := Am_ (Vb_ (Ke_ (Pv_ HO0_0.out) gb364 (Nat.le_of_eq hg.symm)) hb); have n1_ := Am_ (Be_ (Pb0_ HB.out) hb); have n2_ := Am_ (hbox); have n3_ := Am_ ((by rw [hg]; exact (Bz_ (Pb0_ HB.out)) : w.heap.size ≤ gb364)); have n4_ := Am_ ((by rw [hg]; exact (Bz_ (Pb0_ HB.out)) : w.heap.size ≤ gb364)); clear HO0_0; clear HB; have HO0_0 := n0_; have HB := n1_; have BK364 := n2_; have GW364 := n3_; have GE364 := n4_; clear n0_ n1_ n2_ n3_ n4_; clear hb hbox hg) | ((with_reducible refine gate_dst (N := 8) rfl ?_); refine box_event ?hg (N := 8) ?hd (cs := #[.slice none 0 0, .int .i64 0, .int .i64 0]) (t := 33) ?hr ?_; (case hd => rfl); (case hg => rfl); (case hr => go_simp; try rfl); intro gb365 hg w35 hbox hb; have n0_ := Am_ (Vb_ (Ke_ (Pv_ HO0_0.out) gb365 (Nat.le_of_eq hg.symm)) hb); have n1_ := Am_ (Bb_ (g := gb364) (o := .cells #[.slice A0_0 l0_0.length c0_0, .int .i64 a0_1, .int .i64 a0_2] 33 (0, 0)) (Pk_ BK364.out) hb); have n2_ := Am_ (Be_ (Pb1_ HB.out GE364.out) hb); have n3_ := Am_ (hbox); have n4_ := Am_ ((by rw [hg]; exact (Bz_ (Pb1_ HB.out GE364.out)) : w.heap.size ≤ gb365)); have n5_ := Am_ ((by rw [hg]; exact (Bz_ (Pb1_ HB.out GE364.out)) : w.heap.size ≤ gb365)); have n6_ := Am_ ((by rw [hg]; exact Nat.ne_of_lt (blk_lt (g := gb364) (o := .cells #[.slice A0_0 l0_0.length c0_0, .int .i64 a0_1, .int .i64 a0_2] 33 (0, 0)) (Pk_ BK364.out)) : gb364 ≠ gb365)); have n7_ := Am_ ((by rw [hg]; exact Nat.ne_of_gt (blk_lt (g := gb364) (o := .cells #[.slice A0_0 l0_0.length c0_0, .int .i64 a0_1, .int .i64 a0_2] 33 (0, 0)) (Pk_ BK364.out)) : gb365 ≠ gb364)); clear HO0_0; clear BK364; clear HB; have HO0_0 := n0_; have BK364 := n1_; have HB := n2_; have BK365 := n3_; have GW365 := n4_; have GE365 := n5_; have NB364_365 := n6_; have NB365_364 := n7_; clear n0_ n1_ n2_ n3_ n4_ n5_ n6_ n7_; clear hb hbox hg; have hnb36 := NB364_365.out; have hnc36 := NB365_364.out; obtain ⟨hcz37_0, hcz37_1, hcz37_2, hfz37_0, hfz37_1, hfz37_2⟩ := Ce3_ BK364.out) | ((with_reducible refine gate_callee (f := 25) rfl ?_); refine goesL_ (some 17) rfl rfl Try.func25 (by kernel_rfl) rfl #[.agg #[.slice A0_0 l0_0.length c0_0, .int .i64 a0_1, .int .i64 a0_2], .int .i64 a1] rfl (by (try simp only [List.map_toArray, List.map_cons, List.map_nil]); first | done | rfl | (simp only [ByteArray.size_append]; rfl) | (simp only [List.length_drop, List.length_take]; rfl)) ?_; (with_reducible refine (flagstoneref09_file.calls (fun k_ => (((P0_0_ k_ ∨ w.heap.size ≤ k_) ∧ k_ ≠ gb364) ∧ k_ ≠ gb365)) _ _ l0_0 a0_1 a0_2 a1 t366 t367 t368 t369 t370 t371 t372 t373 t376 _ ?side1 A5.out).mono ?_); (case side1 => exact HO0_0.out); rintro e w38 ⟨v374, rfl, ho0, hb⟩; refine ⟨_, rfl, ?_⟩; have n0_ := Am_ (Vb_ (Pv_ HO0_0.out) hb); have n1_ := Am_ (Vl_ (Vm_ (ok' := fun k_ => (P0_0_ k_ ∨ w.heap.size ≤ k_) ∧ k_ ≠ gb364 ∧ k_ ≠ gb365) ho0 (fun k_ hk_ => ⟨Or.elim hk_ (fun hs_ => hs_.1.1) (fun hn_ => (.inr (Nat.le_trans (Bz_ (Pb2_ HB.out GE364.out GE365.out)) hn_))), Or.elim hk_ (fun hs_ => hs_.1.2) (fun hn_ => (Kd.freshB (g := gb364) (o := .cells #[.slice A0_0 l0_0.length c0_0, .int .i64 a0_1, .int .i64 a0_2] 33 (0, 0)) (Pk_ BK364.out) k_ hn_)), Or.elim hk_ (fun hs_ => hs_.2) (fun hn_ => (Kd.freshB (g := gb365) (o := .cells #[.slice none 0 0, .int .i64 0, .int .i64 0] 33 (0, 0)) (Pk_ BK365.out) k_ hn_))⟩)) (Bz_ (Pb2_ HB.out GE364.out GE365.out))); have n2_ := Am_ (Bb_ (g := gb364) (o := .cells #[.slice A0_0 l0_0.length c0_0, .int .i64 a0_1, .int .i64 a0_2] 33 (0, 0)) (Pk_ BK364.out) hb); have n3_ := Am_ (Bb_ (g := gb365) (o := .cells #[.slice none 0 0, .int .i64 0, .int .i64 0] 33 (0, 0)) (Pk_ BK365.out) hb); have n4_ := Am_ (Be_ (Pb2_ HB.out GE364.out GE365.out) hb); clear HO0_0; clear BK364; clear BK365; clear HB; have HO0_0 := n0_; have HO375 := n1_; have BK364 := n2_; have BK365 := n3_; have HB := n4_; clear n0_ n1_ n2_ n3_ n4_; (try clear hb); (try clear hb2); (try clear hk); (try clear hi); (try clear ho0)) | ((with_reducible refine gate_dst (N := 10) rfl ?_); refine box_event ?hg (N := 10) ?hd (cs := #[.int .i64 0, .int .i64 0, .int .i64 0, .int .i64 0, .int .i64 0, .int .i64 0, .string (⟨#[]⟩ : ByteArray), .slice none 0 0]) (t := 53) ?hr ?_; (case hd => rfl); (case hg => rfl); (case hr => go_simp; try rfl); intro gb377 hg w39 hbox hb; have n0_ := Am_ (Vb_ (Ke_ (Pv_ HO0_0.out) gb377 (Nat.le_of_eq hg.symm)) hb); have n1_ := Am_ (Vb_ (Ke_ (Pv_ HO375.out) gb377 (Nat.le_of_eq hg.symm)) hb); have n2_ := Am_ (Bb_ (g := gb364) (o := .cells #[.slice A0_0 l0_0.length c0_0, .int .i64 a0_1, .int .i64 a0_2] 33 (0, 0)) (Pk_ BK364.out) hb); have n3_ := Am_ (Bb_ (g := gb365) (o := .cells #[.slice none 0 0, .int .i64 0, .int .i64 0] 33 (0, 0)) (Pk_ BK365.out) hb); have n4_ := Am_ (Be_ (Pb2_ HB.out GE364.out GE365.out) hb); have n5_ := Am_ (hbox); have n6_ := Am_ ((by rw [hg]; exact (Bz_ (Pb2_ HB.out GE364.out GE365.out)) : w.heap.size ≤ gb377)); have n7_ := Am_ ((by rw [hg]; exact (Bz_ (Pb2_ HB.out GE364.out GE365.out)) : w.heap.size ≤ gb377)); have n8_ := Am_ ((by rw [hg]; exact Nat.ne_of_lt (blk_lt (g := gb364) (o := .cells #[.slice A0_0 l0_0.length c0_0, .int .i64 a0_1, .int .i64 a0_2] 33 (0, 0)) (Pk_ BK364.out)) : gb364 ≠ gb377)); have n9_ := Am_ ((by rw [hg]; exact Nat.ne_of_gt (blk_lt (g := gb364) (o := .cells #[.slice A0_0 l0_0.length c0_0, .int .i64 a0_1, .int .i64 a0_2] 33 (0, 0)) (Pk_ BK364.out)) : gb377 ≠ gb364)); have n10_ := Am_ ((by rw [hg]; exact Nat.ne_of_lt (blk_lt (g := gb365) (o := .cells #[.slice none 0 0, .int .i64 0, .int .i64 0] 33 (0, 0)) (Pk_ BK365.out)) : gb365 ≠ gb377)); have n11_ := Am_ ((by rw [hg]; exact Nat.ne_of_gt (blk_lt (g := gb365) (o := .cells #[.slice none 0 0, .int .i64 0, .int .i64 0] 33 (0, 0)) (Pk_ BK365.out)) : gb377 ≠ gb365)); clear HO0_0; clear HO375; clear BK364; clear BK365; clear HB; have HO0_0 := n0_; have HO375 := n1_; have BK364 := n2_; have BK365 := n3_; have HB := n4_; have BK377 := n5_; have GW377 := n6_; have GE377 := n7_; have NB364_377 := n8_; have NB377_364 := n9_; have NB365_377 := n10_; have NB377_365 := n11_; clear n0_ n1_ n2_ n3_ n4_ n5_ n6_ n7_ n8_ n9_ n10_ n11_; clear hb hbox hg; have hnb40 := NB377_364.out; have hnc40 := NB364_377.out; have hnb41 := NB377_365.out; have hnc41 := NB365_377.out; obtain ⟨hcz42_0, hcz42_1, hcz42_2, hcz42_3, hcz42_4, hcz42_5, hcz42_6, hcz42_7, hfz42_0, hfz42_1, hfz42_2, hfz42_3, hfz42_4, hfz42_5, hfz42_6, hfz42_7⟩ := Ce8_ BK377.out; obtain ⟨Ao43, co43, eo43⟩ := Vx_ HO375.out; subst eo43; obtain ⟨hcz44_0, hcz44_1, hcz44_2, hfz44_0, hfz44_1, hfz44_2⟩ := Ce3_ BK364.out; obtain ⟨hcz45_0, hcz45_1, hcz45_2, hfz45_0, hfz45_1, hfz45_2⟩ := Ce3_ BK365.out))
     refine bodyPost_ret (results_ct rfl _ _ gb365 33 #[.slice A0_0 l0_0.length c0_0, .int .i64 a0_1, .int .i64 a0_2] (0, 0) _ rfl (by (with_reducible repeat (first | refine Bn_ ?_ _ | refine Bd_ ?_ | refine Ba_ ?_ _)); refine Bp_ (cs := #[.slice A0_0 l0_0.length c0_0, .int .i64 a0_1, .int .i64 0]) ?_ 2 _ rfl; (with_reducible repeat (first | refine Bn_ ?_ _ | refine Bd_ ?_ | refine Ba_ ?_ _)); refine Bp_ (cs := #[.slice A0_0 l0_0.length c0_0, .int .i64 0, .int .i64 0]) ?_ 1 _ rfl; (with_reducible repeat (first | refine Bn_ ?_ _ | refine Bd_ ?_ | refine Ba_ ?_ _)); refine Bp_ (cs := #[.slice none 0 0, .int .i64 0, .int .i64 0]) ?_ 0 _ rfl; (with_reducible repeat (first | refine Bn_ ?_ _ | refine Bd_ ?_ | refine Ba_ ?_ _)); refine blk_far ?_ NB365_377.out _; (with_reducible repeat (first | refine Bn_ ?_ _ | refine Bd_ ?_ | refine Ba_ ?_ _)); refine blk_far ?_ NB365_377.out _; (with_reducible repeat (first | refine Bn_ ?_ _ | refine Bd_ ?_ | refine Ba_ ?_ _)); refine blk_far ?_ NB365_377.out _; (with_reducible repeat (first | refine Bn_ ?_ _ | refine Bd_ ?_ | refine Ba_ ?_ _)); refine blk_far ?_ NB365_377.out _; (with_reducible repeat (first | refine Bn_ ?_ _ | refine Bd_ ?_ | refine Ba_ ?_ _)); refine blk_far ?_ NB365_377.out _; (with_reducible repeat (first | refine Bn_ ?_ _ | refine Bd_ ?_ | refine Ba_ ?_ _)); refine blk_far ?_ NB365_377.out _; (with_reducible repeat (first | refine Bn_ ?_ _ | refine Bd_ ?_ | refine Ba_ ?_ _)); refine blk_far ?_ NB365_377.out _; (with_reducible repeat (first | refine Bn_ ?_ _ | refine Bd_ ?_ | refine Ba_ ?_ _)); refine blk_far ?_ NB365_377.out _; (with_reducible repeat (first | refine Bn_ ?_ _ | refine Bd_ ?_ | refine Ba_ ?_ _)); exact BK365.out) Try.underlying33 rfl (by kernel_rfl)) rfl ?_
     exact ⟨_, by first | rfl | (simp [errW_none, errW_some] <;> rfl) | (simp [*, errW_none, errW_some] <;> rfl), by (with_reducible repeat (first | apply Va_ | apply Vn_ | apply Vd_)); exact Vm_ (Vf_ (p := ⟨gb365, 2, none⟩) (Vf_ (p := ⟨gb365, 1, none⟩) (Vf_ (p := ⟨gb365, 0, none⟩) (Vf_ (p := ⟨gb377, 7, none⟩) (Vf_ (p := ⟨gb377, 6, none⟩) (Vf_ (p := ⟨gb377, 5, none⟩) (Vf_ (p := ⟨gb377, 4, none⟩) (Vf_ (p := ⟨gb377, 3, none⟩) (Vf_ (p := ⟨gb377, 2, none⟩) (Vf_ (p := ⟨gb377, 1, none⟩) (Vf_ (p := ⟨gb377, 0, none⟩) (Vm_ (Vm_ HO0_0.out (fun k_ hk => (⟨hk, hk.2⟩ : _ ∧ k_ ≠ gb377))) (fun k_ hk => (⟨hk, hk.1.1.2⟩ : _ ∧ k_ ≠ gb365))) (fun _ hk => hk.1.2) (.int .i64 t366)) (fun _ hk => hk.1.2) (.int .i64 t367)) (fun _ hk => hk.1.2) (.int .i64 t368)) (fun _ hk => hk.1.2) (.int .i64 t369)) (fun _ hk => hk.1.2) (.int .i64 t370)) (fun _ hk => hk.1.2) (.int .i64 t371)) (fun _ hk => hk.1.2) (.string t372)) (fun _ hk => hk.1.2) (.slice Ao43 t373.length co43)) (fun _ hk => hk.2) (.slice A0_0 l0_0.length c0_0)) (fun _ hk => hk.2) (.int .i64 a0_1)) (fun _ hk => hk.2) (.int .i64 a0_2)) (fun _ hk => hk.1.1.1.1.1), by repeat (first | (with_reducible first | exact HB.out | apply Pa_ | apply Pn_ | apply Pd_ | refine Bs_ ?_ GE364.out | refine Bs_ ?_ GE365.out | refine Bs_ ?_ GE377.out) | exact HB.out)⟩
    ·rw [if_neg c33] at H
     have c33b0 : decide (1000 < a2) = false := Df_ c33
     clear c33
     replace H := Option.bind_eq_some_iff.mp H
     obtain ⟨t378, A460, H⟩ := H
     replace H : (if t372.size + t378.size ≤ 9223372036854775807 then (if (wrap64 (a2 + (a3.size : Int))) < ((t372 ++ t378).size : Int) then (if 0 ≤ (wrap64 (a2 + (a3.size : Int))) then (if (wrap64 (a2 + (a3.size : Int))) ≤ ((t372 ++ t378).size : Int) then (if 0 ≤ a2 then (if a2 ≤ ((t372 ++ t378).size : Int) then (if ((t372 ++ t378).extract 0 (a2 : Int).toNat).size + a3.size ≤ 9223372036854775807 then (if (((t372 ++ t378).extract 0 (a2 : Int).toNat) ++ a3).size + ((t372 ++ t378).extract ((wrap64 (a2 + (a3.size : Int))) : Int).toNat (t372 ++ t378).size).size ≤ 9223372036854775807 then ((flagstoneref09_kept.f k l0_0 a0_1 a0_2 a1 t366 t367 t368 t369 t370 t371 t372 t373 ((((t372 ++ t378).extract 0 (a2 : Int).toNat) ++ a3) ++ ((t372 ++ t378).extract ((wrap64 (a2 + (a3.size : Int))) : Int).toNat (t372 ++ t378).size))).bind fun bt379 => (some (bt379.1, bt379.2.1, bt379.2.2.1, bt379.2.2.2))) else (none)) else (none)) else (none)) else (none)) else (none)) else (none)) else (if 0 ≤ a2 then (if a2 ≤ ((t372 ++ t378).size : Int) then (if ((t372 ++ t378).extract 0 (a2 : Int).toNat).size + a3.size ≤ 9223372036854775807 then (if (((t372 ++ t378).extract 0 (a2 : Int).toNat) ++ a3).size + 0 ≤ 9223372036854775807 then ((flagstoneref09_kept.f k l0_0 a0_1 a0_2 a1 t366 t367 t368 t369 t370 t371 t372 t373 ((((t372 ++ t378).extract 0 (a2 : Int).toNat) ++ a3) ++ (⟨#[]⟩ : ByteArray))).bind fun bt385 => (some (bt385.1, bt385.2.1, bt385.2.2.1, bt385.2.2.2))) else (none)) else (none)) else (none)) else (none))) else (none)) = some (r1, r2, r3, r4) := H
     have A46 := Am_ A460
     clear A460
     by_cases c47 : t372.size + t378.size ≤ 9223372036854775807
     ·rw [if_pos c47] at H
      have c47b0 := eq_true c47
      have c47b1 : decide (t372.size + t378.size ≤ 9223372036854775807) = true := Dt_ c47
      try have c47b2 : (9223372036854775807 < t372.size + t378.size) = False := eq_false (Nat.not_lt.2 c47)
      by_cases c48 : (wrap64 (a2 + (a3.size : Int))) < ((t372 ++ t378).size : Int)
      ·rw [if_pos c48] at H
       have c48b0 : decide ((wrap64 (a2 + (a3.size : Int))) < ((t372 ++ t378).size : Int)) = true := Dt_ c48
       clear c48
       obtain ⟨ji49, hji49⟩ : ∃ j_ : Int, (wrap64 (a2 + (a3.size : Int))) = j_ := ⟨_, rfl⟩
       replace H : (if 0 ≤ (ji49) then (if (ji49) ≤ ((t372 ++ t378).size : Int) then (if 0 ≤ a2 then (if a2 ≤ ((t372 ++ t378).size : Int) then (if ((t372 ++ t378).extract 0 (a2 : Int).toNat).size + a3.size ≤ 9223372036854775807 then (if (((t372 ++ t378).extract 0 (a2 : Int).toNat) ++ a3).size + ((t372 ++ t378).extract ((ji49) : Int).toNat (t372 ++ t378).size).size ≤ 9223372036854775807 then ((flagstoneref09_kept.f k l0_0 a0_1 a0_2 a1 t366 t367 t368 t369 t370 t371 t372 t373 ((((t372 ++ t378).extract 0 (a2 : Int).toNat) ++ a3) ++ ((t372 ++ t378).extract ((ji49) : Int).toNat (t372 ++ t378).size))).bind fun bt379 => (some (bt379.1, bt379.2.1, bt379.2.2.1, bt379.2.2.2))) else (none)) else (none)) else (none)) else (none)) else (none)) else (none)) = some (r1, r2, r3, r4) := by first | (rw [hji49] at H; exact H) | (simp only [hji49] at H ⊢; exact H)
       (try rw [hji49] at c48b0)
       (try rw [hji49] at A5)
       (try rw [hji49] at A46)
       have hji49w : (IntKind.i64.wrap (a2 + (a3.size : Int))) = ji49 := (i64_w _).trans hji49
       (try (have hji49y := Ot_ c48b0; simp only [ByteArray.size_append, Int.natCast_add] at hji49y; have hji49x := Dt_ hji49y; have hji49v := eq_false (Int.not_le.2 hji49y); have hji49u := eq_true hji49y; have hji49t := Df_ (Int.not_le.2 hji49y)))
       by_cases c50 : 0 ≤ (ji49)
       ·rw [if_pos c50] at H
        have c50b0 := eq_true c50
        have c50b1 : decide (0 ≤ (ji49)) = true := Dt_ c50
        clear c50
        by_cases c51 : (ji49) ≤ ((t372 ++ t378).size : Int)
        ·rw [if_pos c51] at H
         have c51b0 := eq_true c51
         have c51b1 : decide ((ji49) ≤ ((t372 ++ t378).size : Int)) = true := Dt_ c51
         have c51z := c51
         simp only [ByteArray.size_append, Int.natCast_add] at c51z
         have c51z0 := eq_true c51z
         by_cases c52 : 0 ≤ a2
         ·rw [if_pos c52] at H
          have c52b0 := eq_true c52
          have c52b1 : decide (0 ≤ a2) = true := Dt_ c52
          clear c52
          by_cases c53 : a2 ≤ ((t372 ++ t378).size : Int)
          ·rw [if_pos c53] at H
           have c53b0 := eq_true c53
           have c53b1 : decide (a2 ≤ ((t372 ++ t378).size : Int)) = true := Dt_ c53
           have c53z := c53
           simp only [ByteArray.size_append, Int.natCast_add] at c53z
           have c53z0 := eq_true c53z
           by_cases c54 : ((t372 ++ t378).extract 0 (a2 : Int).toNat).size + a3.size ≤ 9223372036854775807
           ·rw [if_pos c54] at H
            have c54b0 := eq_true c54
            have c54b1 : decide (((t372 ++ t378).extract 0 (a2 : Int).toNat).size + a3.size ≤ 9223372036854775807) = true := Dt_ c54
            (try (have c54z : (9223372036854775807 < a2.toNat + a3.size) = False := eq_false (by have h_ := c54; simp only [ByteArray.size_extract, ByteArray.size_append] at h_; omega)))
            (try (have c54b19 := c54b1; simp only [ByteArray.size_extract, Nat.min_self] at c54b19; have c54b18 := eq_true (Ot_ c54b19)))
            (try (have c54b17 := c54b1; simp only [ByteArray.size_extract, Nat.min_self] at c54b17))
            try have c54b2 : (9223372036854775807 < ((t372 ++ t378).extract 0 (a2 : Int).toNat).size + a3.size) = False := eq_false (Nat.not_lt.2 c54)
            by_cases c55 : (((t372 ++ t378).extract 0 (a2 : Int).toNat) ++ a3).size + ((t372 ++ t378).extract ((ji49) : Int).toNat (t372 ++ t378).size).size ≤ 9223372036854775807
            ·rw [if_pos c55] at H
             have c55b0 := eq_true c55
             have c55b1 : decide ((((t372 ++ t378).extract 0 (a2 : Int).toNat) ++ a3).size + ((t372 ++ t378).extract ((ji49) : Int).toNat (t372 ++ t378).size).size ≤ 9223372036854775807) = true := Dt_ c55
             (try (have c55y : (9223372036854775807 < a2.toNat + a3.size + (t372.size + t378.size - ji49.toNat)) = False := eq_false (by have h_ := c55; simp only [ByteArray.size_extract, ByteArray.size_append] at h_; omega)))
             (try (have c55b19 := c55b1; simp only [ByteArray.size_extract, Nat.min_self] at c55b19; have c55b18 := eq_true (Ot_ c55b19)))
             (try (have c55b17 := c55b1; simp only [ByteArray.size_extract, Nat.min_self] at c55b17))
             try have c55b2 : (9223372036854775807 < (((t372 ++ t378).extract 0 (a2 : Int).toNat) ++ a3).size + ((t372 ++ t378).extract ((ji49) : Int).toNat (t372 ++ t378).size).size) = False := eq_false (Nat.not_lt.2 c55)
             replace H := Option.bind_eq_some_iff.mp H
             obtain ⟨⟨t379, t382, t383, t384⟩, A560, H⟩ := H
             replace H : (some (t379, t382, t383, t384)) = some (r1, r2, r3, r4) := H
             have A56 := Am_ A560
             clear A560
             simp only [Option.some.injEq, Prod.mk.injEq] at H
             obtain ⟨rfl, rfl, rfl, rfl⟩ := H
             go_enter Try.func17, Try.ntmps17
             try go_wp2_with (first | ((with_reducible refine gate_dst (N := 4) rfl ?_); refine box_event ?hg (N := 4) ?hd (cs := #[.slice A0_0 l0_0.length c0_0, .int .i64 a0_1, .int .i64 a0_2]) (t := 33) ?hr ?_; (case hd => rfl); (case hg => rfl); (case hr => go_simp; try rfl); intro gb364 hg w57 hbox hb; have n0_ := Am_ (Vb_ (Ke_ (Pv_ HO0_0.out) gb364 (Nat.le_of_eq hg.symm)) hb); have n1_ := Am_ (Be_ (Pb0_ HB.out) hb); have n2_ := Am_ (hbox); have n3_ := Am_ ((by rw [hg]; exact (Bz_ (Pb0_ HB.out)) : w.heap.size ≤ gb364)); have n4_ := Am_ ((by rw [hg]; exact (Bz_ (Pb0_ HB.out)) : w.heap.size ≤ gb364)); clear HO0_0; clear HB; have HO0_0 := n0_; have HB := n1_; have BK364 := n2_; have GW364 := n3_; have GE364 := n4_; clear n0_ n1_ n2_ n3_ n4_; clear hb hbox hg) | ((with_reducible refine gate_dst (N := 8) rfl ?_); refine box_event ?hg (N := 8) ?hd (cs := #[.slice none 0 0, .int .i64 0, .int .i64 0]) (t := 33) ?hr ?_; (case hd => rfl); (case hg => rfl); (case hr => go_simp; try rfl); intro gb365 hg w58 hbox hb; have n0_ := Am_ (Vb_ (Ke_ (Pv_ HO0_0.out) gb365 (Nat.le_of_eq hg.symm)) hb); have n1_ := Am_ (Bb_ (g := gb364) (o := .cells #[.slice A0_0 l0_0.length c0_0, .int .i64 a0_1, .int .i64 a0_2] 33 (0, 0)) (Pk_ BK364.out) hb); have n2_ := Am_ (Be_ (Pb1_ HB.out GE364.out) hb); have n3_ := Am_ (hbox); have n4_ := Am_ ((by rw [hg]; exact (Bz_ (Pb1_ HB.out GE364.out)) : w.heap.size ≤ gb365)); have n5_ := Am_ ((by rw [hg]; exact (Bz_ (Pb1_ HB.out GE364.out)) : w.heap.size ≤ gb365)); have n6_ := Am_ ((by rw [hg]; exact Nat.ne_of_lt (blk_lt (g := gb364) (o := .cells #[.slice A0_0 l0_0.length c0_0, .int .i64 a0_1, .int .i64 a0_2] 33 (0, 0)) (Pk_ BK364.out)) : gb364 ≠ gb365)); have n7_ := Am_ ((by rw [hg]; exact Nat.ne_of_gt (blk_lt (g := gb364) (o := .cells #[.slice A0_0 l0_0.length c0_0, .int .i64 a0_1, .int .i64 a0_2] 33 (0, 0)) (Pk_ BK364.out)) : gb365 ≠ gb364)); clear HO0_0; clear BK364; clear HB; have HO0_0 := n0_; have BK364 := n1_; have HB := n2_; have BK365 := n3_; have GW365 := n4_; have GE365 := n5_; have NB364_365 := n6_; have NB365_364 := n7_; clear n0_ n1_ n2_ n3_ n4_ n5_ n6_ n7_; clear hb hbox hg; have hnb59 := NB364_365.out; have hnc59 := NB365_364.out; obtain ⟨hcz60_0, hcz60_1, hcz60_2, hfz60_0, hfz60_1, hfz60_2⟩ := Ce3_ BK364.out) | ((with_reducible refine gate_callee (f := 25) rfl ?_); refine goesL_ (some 17) rfl rfl Try.func25 (by kernel_rfl) rfl #[.agg #[.slice A0_0 l0_0.length c0_0, .int .i64 a0_1, .int .i64 a0_2], .int .i64 a1] rfl (by (try simp only [List.map_toArray, List.map_cons, List.map_nil]); first | done | rfl | (simp only [ByteArray.size_append]; rfl) | (simp only [List.length_drop, List.length_take]; rfl)) ?_; (with_reducible refine (flagstoneref09_file.calls (fun k_ => (((P0_0_ k_ ∨ w.heap.size ≤ k_) ∧ k_ ≠ gb364) ∧ k_ ≠ gb365)) _ _ l0_0 a0_1 a0_2 a1 t366 t367 t368 t369 t370 t371 t372 t373 t376 _ ?side1 A5.out).mono ?_); (case side1 => exact HO0_0.out); rintro e w61 ⟨v374, rfl, ho0, hb⟩; refine ⟨_, rfl, ?_⟩; have n0_ := Am_ (Vb_ (Pv_ HO0_0.out) hb); have n1_ := Am_ (Vl_ (Vm_ (ok' := fun k_ => (P0_0_ k_ ∨ w.heap.size ≤ k_) ∧ k_ ≠ gb364 ∧ k_ ≠ gb365) ho0 (fun k_ hk_ => ⟨Or.elim hk_ (fun hs_ => hs_.1.1) (fun hn_ => (.inr (Nat.le_trans (Bz_ (Pb2_ HB.out GE364.out GE365.out)) hn_))), Or.elim hk_ (fun hs_ => hs_.1.2) (fun hn_ => (Kd.freshB (g := gb364) (o := .cells #[.slice A0_0 l0_0.length c0_0, .int .i64 a0_1, .int .i64 a0_2] 33 (0, 0)) (Pk_ BK364.out) k_ hn_)), Or.elim hk_ (fun hs_ => hs_.2) (fun hn_ => (Kd.freshB (g := gb365) (o := .cells #[.slice none 0 0, .int .i64 0, .int .i64 0] 33 (0, 0)) (Pk_ BK365.out) k_ hn_))⟩)) (Bz_ (Pb2_ HB.out GE364.out GE365.out))); have n2_ := Am_ (Bb_ (g := gb364) (o := .cells #[.slice A0_0 l0_0.length c0_0, .int .i64 a0_1, .int .i64 a0_2] 33 (0, 0)) (Pk_ BK364.out) hb); have n3_ := Am_ (Bb_ (g := gb365) (o := .cells #[.slice none 0 0, .int .i64 0, .int .i64 0] 33 (0, 0)) (Pk_ BK365.out) hb); have n4_ := Am_ (Be_ (Pb2_ HB.out GE364.out GE365.out) hb); clear HO0_0; clear BK364; clear BK365; clear HB; have HO0_0 := n0_; have HO375 := n1_; have BK364 := n2_; have BK365 := n3_; have HB := n4_; clear n0_ n1_ n2_ n3_ n4_; (try clear hb); (try clear hb2); (try clear hk); (try clear hi); (try clear ho0)) | ((with_reducible refine gate_dst (N := 10) rfl ?_); refine box_event ?hg (N := 10) ?hd (cs := #[.int .i64 0, .int .i64 0, .int .i64 0, .int .i64 0, .int .i64 0, .int .i64 0, .string (⟨#[]⟩ : ByteArray), .slice none 0 0]) (t := 53) ?hr ?_; (case hd => rfl); (case hg => rfl); (case hr => go_simp; try rfl); intro gb377 hg w62 hbox hb; have n0_ := Am_ (Vb_ (Ke_ (Pv_ HO0_0.out) gb377 (Nat.le_of_eq hg.symm)) hb); have n1_ := Am_ (Vb_ (Ke_ (Pv_ HO375.out) gb377 (Nat.le_of_eq hg.symm)) hb); have n2_ := Am_ (Bb_ (g := gb364) (o := .cells #[.slice A0_0 l0_0.length c0_0, .int .i64 a0_1, .int .i64 a0_2] 33 (0, 0)) (Pk_ BK364.out) hb); have n3_ := Am_ (Bb_ (g := gb365) (o := .cells #[.slice none 0 0, .int .i64 0, .int .i64 0] 33 (0, 0)) (Pk_ BK365.out) hb); have n4_ := Am_ (Be_ (Pb2_ HB.out GE364.out GE365.out) hb); have n5_ := Am_ (hbox); have n6_ := Am_ ((by rw [hg]; exact (Bz_ (Pb2_ HB.out GE364.out GE365.out)) : w.heap.size ≤ gb377)); have n7_ := Am_ ((by rw [hg]; exact (Bz_ (Pb2_ HB.out GE364.out GE365.out)) : w.heap.size ≤ gb377)); have n8_ := Am_ ((by rw [hg]; exact Nat.ne_of_lt (blk_lt (g := gb364) (o := .cells #[.slice A0_0 l0_0.length c0_0, .int .i64 a0_1, .int .i64 a0_2] 33 (0, 0)) (Pk_ BK364.out)) : gb364 ≠ gb377)); have n9_ := Am_ ((by rw [hg]; exact Nat.ne_of_gt (blk_lt (g := gb364) (o := .cells #[.slice A0_0 l0_0.length c0_0, .int .i64 a0_1, .int .i64 a0_2] 33 (0, 0)) (Pk_ BK364.out)) : gb377 ≠ gb364)); have n10_ := Am_ ((by rw [hg]; exact Nat.ne_of_lt (blk_lt (g := gb365) (o := .cells #[.slice none 0 0, .int .i64 0, .int .i64 0] 33 (0, 0)) (Pk_ BK365.out)) : gb365 ≠ gb377)); have n11_ := Am_ ((by rw [hg]; exact Nat.ne_of_gt (blk_lt (g := gb365) (o := .cells #[.slice none 0 0, .int .i64 0, .int .i64 0] 33 (0, 0)) (Pk_ BK365.out)) : gb377 ≠ gb365)); clear HO0_0; clear HO375; clear BK364; clear BK365; clear HB; have HO0_0 := n0_; have HO375 := n1_; have BK364 := n2_; have BK365 := n3_; have HB := n4_; have BK377 := n5_; have GW377 := n6_; have GE377 := n7_; have NB364_377 := n8_; have NB377_364 := n9_; have NB365_377 := n10_; have NB377_365 := n11_; clear n0_ n1_ n2_ n3_ n4_ n5_ n6_ n7_ n8_ n9_ n10_ n11_; clear hb hbox hg; have hnb63 := NB377_364.out; have hnc63 := NB364_377.out; have hnb64 := NB377_365.out; have hnc64 := NB365_377.out; obtain ⟨hcz65_0, hcz65_1, hcz65_2, hcz65_3, hcz65_4, hcz65_5, hcz65_6, hcz65_7, hfz65_0, hfz65_1, hfz65_2, hfz65_3, hfz65_4, hfz65_5, hfz65_6, hfz65_7⟩ := Ce8_ BK377.out; obtain ⟨Ao66, co66, eo66⟩ := Vx_ HO375.out; subst eo66))
             have n0_ : Aside0 (Kd.V k53 53 ((((((((w62.setCell ⟨gb377, 0, none⟩ (.int .i64 t366)).setCell ⟨gb377, 1, none⟩ (.int .i64 t367)).setCell ⟨gb377, 2, none⟩ (.int .i64 t368)).setCell ⟨gb377, 3, none⟩ (.int .i64 t369)).setCell ⟨gb377, 4, none⟩ (.int .i64 t370)).setCell ⟨gb377, 5, none⟩ (.int .i64 t371)).setCell ⟨gb377, 6, none⟩ (.string t372)).setCell ⟨gb377, 7, none⟩ (.slice Ao66 t373.length co66)) w.heap.size (fun k_ => (P0_0_ k_ ∨ w.heap.size ≤ k_) ∧ k_ ≠ gb364 ∧ k_ ≠ gb365 ∧ k_ ≠ gb377) (.slice A0_0 l0_0.length c0_0) l0_0) := ⟨by (with_reducible repeat (first | apply Va_ | apply Vn_ | apply Vd_)); exact Vm_ (Vf_ (p := ⟨gb377, 7, none⟩) (Vf_ (p := ⟨gb377, 6, none⟩) (Vf_ (p := ⟨gb377, 5, none⟩) (Vf_ (p := ⟨gb377, 4, none⟩) (Vf_ (p := ⟨gb377, 3, none⟩) (Vf_ (p := ⟨gb377, 2, none⟩) (Vf_ (p := ⟨gb377, 1, none⟩) (Vf_ (p := ⟨gb377, 0, none⟩) (Vm_ HO0_0.out (fun k_ hk => (⟨hk, hk.2⟩ : _ ∧ k_ ≠ gb377))) (fun _ hk => hk.2) (.int .i64 t366)) (fun _ hk => hk.2) (.int .i64 t367)) (fun _ hk => hk.2) (.int .i64 t368)) (fun _ hk => hk.2) (.int .i64 t369)) (fun _ hk => hk.2) (.int .i64 t370)) (fun _ hk => hk.2) (.int .i64 t371)) (fun _ hk => hk.2) (.string t372)) (fun _ hk => hk.2) (.slice Ao66 t373.length co66)) (fun _ hk => ⟨hk.1.1.1.1, ⟨hk.1.1.1.2, ⟨hk.1.1.2, hk.1.2⟩⟩⟩)⟩
             have n1_ : Aside0 (Kd.V k75 75 ((((((((w62.setCell ⟨gb377, 0, none⟩ (.int .i64 t366)).setCell ⟨gb377, 1, none⟩ (.int .i64 t367)).setCell ⟨gb377, 2, none⟩ (.int .i64 t368)).setCell ⟨gb377, 3, none⟩ (.int .i64 t369)).setCell ⟨gb377, 4, none⟩ (.int .i64 t370)).setCell ⟨gb377, 5, none⟩ (.int .i64 t371)).setCell ⟨gb377, 6, none⟩ (.string t372)).setCell ⟨gb377, 7, none⟩ (.slice Ao66 t373.length co66)) w.heap.size (fun k_ => (P0_0_ k_ ∨ w.heap.size ≤ k_) ∧ k_ ≠ gb364 ∧ k_ ≠ gb365 ∧ k_ ≠ gb377) (.slice Ao66 t373.length co66) t373) := ⟨by (with_reducible repeat (first | apply Va_ | apply Vn_ | apply Vd_)); exact Vm_ (Vf_ (p := ⟨gb377, 7, none⟩) (Vf_ (p := ⟨gb377, 6, none⟩) (Vf_ (p := ⟨gb377, 5, none⟩) (Vf_ (p := ⟨gb377, 4, none⟩) (Vf_ (p := ⟨gb377, 3, none⟩) (Vf_ (p := ⟨gb377, 2, none⟩) (Vf_ (p := ⟨gb377, 1, none⟩) (Vf_ (p := ⟨gb377, 0, none⟩) (Vm_ HO375.out (fun k_ hk => (⟨hk, hk.2⟩ : _ ∧ k_ ≠ gb377))) (fun _ hk => hk.2) (.int .i64 t366)) (fun _ hk => hk.2) (.int .i64 t367)) (fun _ hk => hk.2) (.int .i64 t368)) (fun _ hk => hk.2) (.int .i64 t369)) (fun _ hk => hk.2) (.int .i64 t370)) (fun _ hk => hk.2) (.int .i64 t371)) (fun _ hk => hk.2) (.string t372)) (fun _ hk => hk.2) (.slice Ao66 t373.length co66)) (fun _ hk => ⟨hk.1.1.1, ⟨hk.1.1.2.1, ⟨hk.1.1.2.2, hk.1.2⟩⟩⟩)⟩
             have n2_ : Aside0 (((((((((w62.setCell ⟨gb377, 0, none⟩ (.int .i64 t366)).setCell ⟨gb377, 1, none⟩ (.int .i64 t367)).setCell ⟨gb377, 2, none⟩ (.int .i64 t368)).setCell ⟨gb377, 3, none⟩ (.int .i64 t369)).setCell ⟨gb377, 4, none⟩ (.int .i64 t370)).setCell ⟨gb377, 5, none⟩ (.int .i64 t371)).setCell ⟨gb377, 6, none⟩ (.string t372)).setCell ⟨gb377, 7, none⟩ (.slice Ao66 t373.length co66)).heap[gb364]? = some (.cells #[.slice A0_0 l0_0.length c0_0, .int .i64 a0_1, .int .i64 a0_2] 33 (0, 0))) := ⟨by (with_reducible repeat (first | refine Bn_ ?_ _ | refine Bd_ ?_ | refine Ba_ ?_ _)); refine blk_far ?_ NB364_377.out _; (with_reducible repeat (first | refine Bn_ ?_ _ | refine Bd_ ?_ | refine Ba_ ?_ _)); refine blk_far ?_ NB364_377.out _; (with_reducible repeat (first | refine Bn_ ?_ _ | refine Bd_ ?_ | refine Ba_ ?_ _)); refine blk_far ?_ NB364_377.out _; (with_reducible repeat (first | refine Bn_ ?_ _ | refine Bd_ ?_ | refine Ba_ ?_ _)); refine blk_far ?_ NB364_377.out _; (with_reducible repeat (first | refine Bn_ ?_ _ | refine Bd_ ?_ | refine Ba_ ?_ _)); refine blk_far ?_ NB364_377.out _; (with_reducible repeat (first | refine Bn_ ?_ _ | refine Bd_ ?_ | refine Ba_ ?_ _)); refine blk_far ?_ NB364_377.out _; (with_reducible repeat (first | refine Bn_ ?_ _ | refine Bd_ ?_ | refine Ba_ ?_ _)); refine blk_far ?_ NB364_377.out _; (with_reducible repeat (first | refine Bn_ ?_ _ | refine Bd_ ?_ | refine Ba_ ?_ _)); refine blk_far ?_ NB364_377.out _; (with_reducible repeat (first | refine Bn_ ?_ _ | refine Bd_ ?_ | refine Ba_ ?_ _)); exact BK364.out⟩
             have n3_ : Aside0 (((((((((w62.setCell ⟨gb377, 0, none⟩ (.int .i64 t366)).setCell ⟨gb377, 1, none⟩ (.int .i64 t367)).setCell ⟨gb377, 2, none⟩ (.int .i64 t368)).setCell ⟨gb377, 3, none⟩ (.int .i64 t369)).setCell ⟨gb377, 4, none⟩ (.int .i64 t370)).setCell ⟨gb377, 5, none⟩ (.int .i64 t371)).setCell ⟨gb377, 6, none⟩ (.string t372)).setCell ⟨gb377, 7, none⟩ (.slice Ao66 t373.length co66)).heap[gb365]? = some (.cells #[.slice none 0 0, .int .i64 0, .int .i64 0] 33 (0, 0))) := ⟨by (with_reducible repeat (first | refine Bn_ ?_ _ | refine Bd_ ?_ | refine Ba_ ?_ _)); refine blk_far ?_ NB365_377.out _; (with_reducible repeat (first | refine Bn_ ?_ _ | refine Bd_ ?_ | refine Ba_ ?_ _)); refine blk_far ?_ NB365_377.out _; (with_reducible repeat (first | refine Bn_ ?_ _ | refine Bd_ ?_ | refine Ba_ ?_ _)); refine blk_far ?_ NB365_377.out _; (with_reducible repeat (first | refine Bn_ ?_ _ | refine Bd_ ?_ | refine Ba_ ?_ _)); refine blk_far ?_ NB365_377.out _; (with_reducible repeat (first | refine Bn_ ?_ _ | refine Bd_ ?_ | refine Ba_ ?_ _)); refine blk_far ?_ NB365_377.out _; (with_reducible repeat (first | refine Bn_ ?_ _ | refine Bd_ ?_ | refine Ba_ ?_ _)); refine blk_far ?_ NB365_377.out _; (with_reducible repeat (first | refine Bn_ ?_ _ | refine Bd_ ?_ | refine Ba_ ?_ _)); refine blk_far ?_ NB365_377.out _; (with_reducible repeat (first | refine Bn_ ?_ _ | refine Bd_ ?_ | refine Ba_ ?_ _)); refine blk_far ?_ NB365_377.out _; (with_reducible repeat (first | refine Bn_ ?_ _ | refine Bd_ ?_ | refine Ba_ ?_ _)); exact BK365.out⟩
             have n4_ : Aside0 (((((((((w62.setCell ⟨gb377, 0, none⟩ (.int .i64 t366)).setCell ⟨gb377, 1, none⟩ (.int .i64 t367)).setCell ⟨gb377, 2, none⟩ (.int .i64 t368)).setCell ⟨gb377, 3, none⟩ (.int .i64 t369)).setCell ⟨gb377, 4, none⟩ (.int .i64 t370)).setCell ⟨gb377, 5, none⟩ (.int .i64 t371)).setCell ⟨gb377, 6, none⟩ (.string t372)).setCell ⟨gb377, 7, none⟩ (.slice Ao66 t373.length co66)).heap[gb377]? = some (.cells #[.int .i64 t366, .int .i64 t367, .int .i64 t368, .int .i64 t369, .int .i64 t370, .int .i64 t371, .string t372, .slice Ao66 t373.length co66] 53 (0, 0))) := ⟨by (with_reducible repeat (first | refine Bn_ ?_ _ | refine Bd_ ?_ | refine Ba_ ?_ _)); refine Bp_ (cs := #[.int .i64 t366, .int .i64 t367, .int .i64 t368, .int .i64 t369, .int .i64 t370, .int .i64 t371, .string t372, .slice none 0 0]) ?_ 7 _ rfl; (with_reducible repeat (first | refine Bn_ ?_ _ | refine Bd_ ?_ | refine Ba_ ?_ _)); refine Bp_ (cs := #[.int .i64 t366, .int .i64 t367, .int .i64 t368, .int .i64 t369, .int .i64 t370, .int .i64 t371, .string (⟨#[]⟩ : ByteArray), .slice none 0 0]) ?_ 6 _ rfl; (with_reducible repeat (first | refine Bn_ ?_ _ | refine Bd_ ?_ | refine Ba_ ?_ _)); refine Bp_ (cs := #[.int .i64 t366, .int .i64 t367, .int .i64 t368, .int .i64 t369, .int .i64 t370, .int .i64 0, .string (⟨#[]⟩ : ByteArray), .slice none 0 0]) ?_ 5 _ rfl; (with_reducible repeat (first | refine Bn_ ?_ _ | refine Bd_ ?_ | refine Ba_ ?_ _)); refine Bp_ (cs := #[.int .i64 t366, .int .i64 t367, .int .i64 t368, .int .i64 t369, .int .i64 0, .int .i64 0, .string (⟨#[]⟩ : ByteArray), .slice none 0 0]) ?_ 4 _ rfl; (with_reducible repeat (first | refine Bn_ ?_ _ | refine Bd_ ?_ | refine Ba_ ?_ _)); refine Bp_ (cs := #[.int .i64 t366, .int .i64 t367, .int .i64 t368, .int .i64 0, .int .i64 0, .int .i64 0, .string (⟨#[]⟩ : ByteArray), .slice none 0 0]) ?_ 3 _ rfl; (with_reducible repeat (first | refine Bn_ ?_ _ | refine Bd_ ?_ | refine Ba_ ?_ _)); refine Bp_ (cs := #[.int .i64 t366, .int .i64 t367, .int .i64 0, .int .i64 0, .int .i64 0, .int .i64 0, .string (⟨#[]⟩ : ByteArray), .slice none 0 0]) ?_ 2 _ rfl; (with_reducible repeat (first | refine Bn_ ?_ _ | refine Bd_ ?_ | refine Ba_ ?_ _)); refine Bp_ (cs := #[.int .i64 t366, .int .i64 0, .int .i64 0, .int .i64 0, .int .i64 0, .int .i64 0, .string (⟨#[]⟩ : ByteArray), .slice none 0 0]) ?_ 1 _ rfl; (with_reducible repeat (first | refine Bn_ ?_ _ | refine Bd_ ?_ | refine Ba_ ?_ _)); refine Bp_ (cs := #[.int .i64 0, .int .i64 0, .int .i64 0, .int .i64 0, .int .i64 0, .int .i64 0, .string (⟨#[]⟩ : ByteArray), .slice none 0 0]) ?_ 0 _ rfl; (with_reducible repeat (first | refine Bn_ ?_ _ | refine Bd_ ?_ | refine Ba_ ?_ _)); exact BK377.out⟩
             have n5_ : Aside0 (Below w.heap.size w ((((((((w62.setCell ⟨gb377, 0, none⟩ (.int .i64 t366)).setCell ⟨gb377, 1, none⟩ (.int .i64 t367)).setCell ⟨gb377, 2, none⟩ (.int .i64 t368)).setCell ⟨gb377, 3, none⟩ (.int .i64 t369)).setCell ⟨gb377, 4, none⟩ (.int .i64 t370)).setCell ⟨gb377, 5, none⟩ (.int .i64 t371)).setCell ⟨gb377, 6, none⟩ (.string t372)).setCell ⟨gb377, 7, none⟩ (.slice Ao66 t373.length co66))) := ⟨by repeat (first | (with_reducible first | exact HB.out | apply Pa_ | apply Pn_ | apply Pd_ | refine Bs_ ?_ GE364.out | refine Bs_ ?_ GE365.out | refine Bs_ ?_ GE377.out) | exact HB.out)⟩
             (try clear HO0_0)
             (try clear HO375)
             (try clear BK364)
             (try clear BK365)
             (try clear BK377)
             (try clear HB)
             generalize ((((((((w62.setCell ⟨gb377, 0, none⟩ (.int .i64 t366)).setCell ⟨gb377, 1, none⟩ (.int .i64 t367)).setCell ⟨gb377, 2, none⟩ (.int .i64 t368)).setCell ⟨gb377, 3, none⟩ (.int .i64 t369)).setCell ⟨gb377, 4, none⟩ (.int .i64 t370)).setCell ⟨gb377, 5, none⟩ (.int .i64 t371)).setCell ⟨gb377, 6, none⟩ (.string t372)).setCell ⟨gb377, 7, none⟩ (.slice Ao66 t373.length co66)) = w67 at n0_ n1_ n2_ n3_ n4_ n5_ ⊢
             have HO0_0 := n0_
             have HO375 := n1_
             have BK364 := n2_
             have BK365 := n3_
             have BK377 := n4_
             have HB := n5_
             clear n0_ n1_ n2_ n3_ n4_ n5_
             have n0_ := Am_ (Vd_ HO0_0.out)
             have n1_ := Am_ (Vd_ HO375.out)
             have n2_ := Am_ (Bd_ BK364.out)
             have n3_ := Am_ (Bd_ BK365.out)
             have n4_ := Am_ (Bd_ BK377.out)
             have n5_ := Am_ (Pd_ HB.out)
             clear HO0_0
             clear HO375
             clear BK364
             clear BK365
             clear BK377
             clear HB
             have HO0_0 := n0_
             have HO375 := n1_
             have BK364 := n2_
             have BK365 := n3_
             have BK377 := n4_
             have HB := n5_
             clear n0_ n1_ n2_ n3_ n4_ n5_
             refine start_ (n := 10) (S := fun w' => w'.cell? ⟨gb377, 0, none⟩ = some (.int .i64 t366) ∧ w'.cell? ⟨gb377, 1, none⟩ = some (.int .i64 t367) ∧ w'.cell? ⟨gb377, 2, none⟩ = some (.int .i64 t368) ∧ w'.cell? ⟨gb377, 3, none⟩ = some (.int .i64 t369) ∧ w'.cell? ⟨gb377, 4, none⟩ = some (.int .i64 t370) ∧ w'.cell? ⟨gb377, 5, none⟩ = some (.int .i64 t371) ∧ w'.cell? ⟨gb377, 6, none⟩ = some (.string t372) ∧ w'.cell? ⟨gb377, 7, none⟩ = some (.slice Ao66 t373.length co66)) (ds := []) #[f_,f_,f_,f_,f_,f_,f_,f_,f_,f_] (by kernel_rfl) rfl rfl ⟨(Bc_ BK377.out 0).trans rfl, (Bc_ BK377.out 1).trans rfl, (Bc_ BK377.out 2).trans rfl, (Bc_ BK377.out 3).trans rfl, (Bc_ BK377.out 4).trans rfl, (Bc_ BK377.out 5).trans rfl, (Bc_ BK377.out 6).trans rfl, (Bc_ BK377.out 7).trans rfl⟩ (fun hHeld => ?_); refine with_tabW flagstoneref09_Write.tab10 flagstoneref09_Write.bits10 (fun HT_ HW_ => ?_)
             generalize w67.drew = w68 at HO0_0 HO375 BK364 BK365 BK377 HB hHeld ⊢
             refine pure_ (i := 0) (N := some 37) (v := ?_) (a' := ?_) #[t_,f_,f_,f_,f_,f_,f_,f_,f_,f_] rfl rfl (any_of HT_.out (by kernel_rfl)) (fun _ _ _ h => h) (Or.inl ⟨by rfl, ?_⟩) ?_ ?_
             rotate_left
             ·intro w'
              go_simp
              with_reducible rfl
             rotate_left
             ·simp only [Act.put, La_, Lb_, Lc_, i64_w, i32_w]
              rfl
             refine pure_ (i := 2) (N := some 39) (v := ?_) (a' := ?_) #[t_,f_,t_,f_,f_,f_,f_,f_,f_,f_] rfl rfl (any_of HT_.out (by kernel_rfl)) (fun _ _ _ h => h) (Or.inl ⟨by rfl, ?_⟩) ?_ ?_
             rotate_left
             ·intro w'
              go_simp
              with_reducible rfl
             rotate_left
             ·simp only [Act.put, La_, Lb_, Lc_, i64_w, i32_w]
              rfl
             refine pure_ (i := 3) (N := some 40) (v := ?_) (a' := ?_) #[t_,f_,t_,t_,f_,f_,f_,f_,f_,f_] rfl rfl (any_of HT_.out (by kernel_rfl)) (fun _ _ _ h => h) (Or.inl ⟨by rfl, ?_⟩) ?_ ?_
             rotate_left
             ·intro w'
              go_simp
              with_reducible rfl
             rotate_left
             ·simp only [Act.put, La_, Lb_, Lc_, i64_w, i32_w]
              rfl
             refine take_ (i := 1) (N := some 38) (v := ?_) (a' := ?_) #[t_,t_,t_,t_,f_,f_,f_,f_,f_,f_] rfl rfl (take_ofW HT_.out HW_.out (by kernel_rfl)) (fun _ _ _ h => h) (Or.inl ⟨by rfl, ?_⟩) hHeld ?_ ?_
             rotate_left
             ·rintro w' ⟨s0, s1, s2, s3, s4, s5, s6, s7⟩
              go_simp
              with_reducible rfl
             rotate_left
             ·simp only [Act.put, La_, Lb_, Lc_, i64_w, i32_w]
              rfl
             refine take_ (i := 4) (N := some 41) (v := ?_) (a' := ?_) #[t_,t_,t_,t_,t_,f_,f_,f_,f_,f_] rfl rfl (take_ofW HT_.out HW_.out (by kernel_rfl)) (fun _ _ _ h => h) (Or.inl ⟨by rfl, ?_⟩) hHeld ?_ ?_
             rotate_left
             ·rintro w' ⟨s0, s1, s2, s3, s4, s5, s6, s7⟩
              go_simp
              with_reducible rfl
             rotate_left
             ·simp only [Act.put, La_, Lb_, Lc_, i64_w, i32_w]
              rfl
             refine pure_ (i := 5) (N := some 42) (v := ?_) (a' := ?_) #[t_,t_,t_,t_,t_,t_,f_,f_,f_,f_] rfl rfl (any_of HT_.out (by kernel_rfl)) (fun _ _ _ h => h) (Or.inl ⟨by rfl, ?_⟩) ?_ ?_
             rotate_left
             ·intro w'
              go_simp
              with_reducible rfl
             rotate_left
             ·simp only [Act.put, La_, Lb_, Lc_, i64_w, i32_w]
              rfl
             refine pure_ (i := 6) (N := some 43) (v := ?_) (a' := ?_) #[t_,t_,t_,t_,t_,t_,t_,f_,f_,f_] rfl rfl (any_of HT_.out (by kernel_rfl)) (fun _ _ _ h => h) (Or.inl ⟨by rfl, ?_⟩) ?_ ?_
             rotate_left
             ·intro w'
              go_simp
              with_reducible rfl
             rotate_left
             ·simp only [Act.put, La_, Lb_, Lc_, i64_w, i32_w]
              rfl
             refine one_ (i := 7) (N := some 44) #[t_,t_,t_,t_,t_,t_,t_,t_,f_,f_] rfl rfl (one_of HT_.out (by kernel_rfl)) (by decide) (fun K hK => ?_)
             refine goes_ Try.func29 (by kernel_rfl) rfl #[.int .i64 (wrap64 (a2 - (t372.size : Int)))] (by rfl) rfl rfl (by (try simp only [List.map_toArray, List.map_cons, List.map_nil]); first | done | rfl | (simp only [ByteArray.size_append]; rfl) | (simp only [List.length_drop, List.length_take]; rfl)) ?_
             with_reducible refine (flagstoneref09_noughts.calls k (wrap64 (a2 - (t372.size : Int))) t378 _ A46.out).mono ?_
             rintro e w' ⟨rfl, ⟨nd, rfl⟩⟩
             refine ⟨_, rfl, ?_⟩
             refine hK.out _ _ ⟨(Bc_ BK377.out 0).trans rfl, (Bc_ BK377.out 1).trans rfl, (Bc_ BK377.out 2).trans rfl, (Bc_ BK377.out 3).trans rfl, (Bc_ BK377.out 4).trans rfl, (Bc_ BK377.out 5).trans rfl, (Bc_ BK377.out 6).trans rfl, (Bc_ BK377.out 7).trans rfl⟩ (fun hHeld => ?_)
             clear hK K
             refine norm_ (a' := ?_) ?_ ?_
             rotate_left
             ·show Act.put _ (some 44) _ = _
              simp only [Act.put, La_, Lb_, Lc_, i64_w, i32_w]
              rfl
             refine pure_ (i := 8) (N := some 45) (v := ?_) (a' := ?_) #[t_,t_,t_,t_,t_,t_,t_,t_,t_,f_] rfl rfl (any_of HT_.out (by kernel_rfl)) (fun _ _ _ h => h) (Or.inl ⟨by rfl, ?_⟩) ?_ ?_
             rotate_left
             ·intro w'
              go_simp
              with_reducible rfl
             rotate_left
             ·simp only [Act.put, La_, Lb_, Lc_, i64_w, i32_w]
              rfl
             refine pure_ (i := 9) (N := some 12) (v := ?_) (a' := ?_) #[t_,t_,t_,t_,t_,t_,t_,t_,t_,t_] rfl rfl (any_of HT_.out (by kernel_rfl)) (fun _ _ _ h => h) (Or.inl ⟨by rfl, ?_⟩) ?_ ?_
             rotate_left
             ·intro w'
              go_simp
              with_reducible rfl
             rotate_left
             ·simp only [Act.put, La_, Lb_, Lc_, i64_w, i32_w]
              rfl
             refine done_ (done_of HT_.out (by kernel_rfl)) ?_
             try go_wp2
             (try (rw [drewN_self w68]; generalize hq_ : World.drewN w68 _ = w68; have n0_ : Aside0 (Kd.V k53 53 w68 w.heap.size (fun k_ => (P0_0_ k_ ∨ w.heap.size ≤ k_) ∧ k_ ≠ gb364 ∧ k_ ≠ gb365 ∧ k_ ≠ gb377) (.slice A0_0 l0_0.length c0_0) l0_0) := ⟨by rw [← hq_]; exact (Pv_ HO0_0.out)⟩; have n1_ : Aside0 (Kd.V k75 75 w68 w.heap.size (fun k_ => (P0_0_ k_ ∨ w.heap.size ≤ k_) ∧ k_ ≠ gb364 ∧ k_ ≠ gb365 ∧ k_ ≠ gb377) (.slice Ao66 t373.length co66) t373) := ⟨by rw [← hq_]; exact (Pv_ HO375.out)⟩; have n2_ : Aside0 (w68.heap[gb364]? = some (.cells #[.slice A0_0 l0_0.length c0_0, .int .i64 a0_1, .int .i64 a0_2] 33 (0, 0))) := ⟨by rw [← hq_]; exact (Pk_ BK364.out)⟩; have n3_ : Aside0 (w68.heap[gb365]? = some (.cells #[.slice none 0 0, .int .i64 0, .int .i64 0] 33 (0, 0))) := ⟨by rw [← hq_]; exact (Pk_ BK365.out)⟩; have n4_ : Aside0 (w68.heap[gb377]? = some (.cells #[.int .i64 t366, .int .i64 t367, .int .i64 t368, .int .i64 t369, .int .i64 t370, .int .i64 t371, .string t372, .slice Ao66 t373.length co66] 53 (0, 0))) := ⟨by rw [← hq_]; exact (Pk_ BK377.out)⟩; have n5_ : Aside0 (Below w.heap.size w w68) := ⟨by rw [← hq_]; exact (Pb3_ HB.out GE364.out GE365.out GE377.out)⟩; clear HO0_0 HO375 BK364 BK365 BK377 HB hq_; have HO0_0 := n0_; have HO375 := n1_; have BK364 := n2_; have BK365 := n3_; have BK377 := n4_; have HB := n5_; clear n0_ n1_ n2_ n3_ n4_ n5_))
             have n0_ := Am_ (Vd_ HO0_0.out)
             have n1_ := Am_ (Vd_ HO375.out)
             have n2_ := Am_ (Bd_ BK364.out)
             have n3_ := Am_ (Bd_ BK365.out)
             have n4_ := Am_ (Bd_ BK377.out)
             have n5_ := Am_ (Pd_ HB.out)
             clear HO0_0
             clear HO375
             clear BK364
             clear BK365
             clear BK377
             clear HB
             have HO0_0 := n0_
             have HO375 := n1_
             have BK364 := n2_
             have BK365 := n3_
             have BK377 := n4_
             have HB := n5_
             clear n0_ n1_ n2_ n3_ n4_ n5_
             refine start_ (n := 15) (S := fun w' => w'.cell? ⟨gb364, 0, none⟩ = some (.slice A0_0 l0_0.length c0_0) ∧ w'.cell? ⟨gb364, 1, none⟩ = some (.int .i64 a0_1) ∧ w'.cell? ⟨gb364, 2, none⟩ = some (.int .i64 a0_2) ∧ w'.cell? ⟨gb377, 0, none⟩ = some (.int .i64 t366) ∧ w'.cell? ⟨gb377, 1, none⟩ = some (.int .i64 t367) ∧ w'.cell? ⟨gb377, 2, none⟩ = some (.int .i64 t368) ∧ w'.cell? ⟨gb377, 3, none⟩ = some (.int .i64 t369) ∧ w'.cell? ⟨gb377, 4, none⟩ = some (.int .i64 t370) ∧ w'.cell? ⟨gb377, 5, none⟩ = some (.int .i64 t371) ∧ w'.cell? ⟨gb377, 6, none⟩ = some (.string t372) ∧ w'.cell? ⟨gb377, 7, none⟩ = some (.slice Ao66 t373.length co66)) (ds := []) #[f_,f_,f_,f_,f_,f_,f_,f_,f_,f_,f_,f_,f_,f_,f_] (by kernel_rfl) rfl rfl ⟨(Bc_ BK364.out 0).trans rfl, (Bc_ BK364.out 1).trans rfl, (Bc_ BK364.out 2).trans rfl, (Bc_ BK377.out 0).trans rfl, (Bc_ BK377.out 1).trans rfl, (Bc_ BK377.out 2).trans rfl, (Bc_ BK377.out 3).trans rfl, (Bc_ BK377.out 4).trans rfl, (Bc_ BK377.out 5).trans rfl, (Bc_ BK377.out 6).trans rfl, (Bc_ BK377.out 7).trans rfl⟩ (fun hHeld => ?_); refine with_tabW flagstoneref09_Write.tab14 flagstoneref09_Write.bits14 (fun HT_ HW_ => ?_)
             generalize w68.drew = w69 at HO0_0 HO375 BK364 BK365 BK377 HB hHeld ⊢
             refine pure_ (i := 1) (N := some 60) (v := ?_) (a' := ?_) #[f_,t_,f_,f_,f_,f_,f_,f_,f_,f_,f_,f_,f_,f_,f_] rfl rfl (any_of HT_.out (by kernel_rfl)) (fun _ _ _ h => h) (Or.inl ⟨by rfl, ?_⟩) ?_ ?_
             rotate_left
             ·intro w'
              go_simp
              with_reducible rfl
             rotate_left
             ·simp only [Act.put, La_, Lb_, Lc_, i64_w, i32_w]
              rfl
             refine pure_ (i := 3) (N := some 62) (v := ?_) (a' := ?_) #[f_,t_,f_,t_,f_,f_,f_,f_,f_,f_,f_,f_,f_,f_,f_] rfl rfl (any_of HT_.out (by kernel_rfl)) (fun _ _ _ h => h) (Or.inl ⟨by rfl, ?_⟩) ?_ ?_
             rotate_left
             ·intro w'
              go_simp
              with_reducible rfl
             rotate_left
             ·simp only [Act.put, La_, Lb_, Lc_, i64_w, i32_w]
              rfl
             refine pure_ (i := 4) (N := some 63) (v := ?_) (a' := ?_) #[f_,t_,f_,t_,t_,f_,f_,f_,f_,f_,f_,f_,f_,f_,f_] rfl rfl (any_of HT_.out (by kernel_rfl)) (fun _ _ _ h => h) (Or.inl ⟨by rfl, ?_⟩) ?_ ?_
             rotate_left
             ·intro w'
              go_simp
              with_reducible rfl
             rotate_left
             ·simp only [Act.put, La_, Lb_, Lc_, i64_w, i32_w]
              rfl
             refine pure_ (i := 5) (N := some 64) (v := ?_) (a' := ?_) #[f_,t_,f_,t_,t_,t_,f_,f_,f_,f_,f_,f_,f_,f_,f_] rfl rfl (any_of HT_.out (by kernel_rfl)) (fun _ _ _ h => h) (Or.inl ⟨by rfl, ?_⟩) ?_ ?_
             rotate_left
             ·intro w'
              go_simp
              with_reducible rfl
             rotate_left
             ·simp only [Act.put, La_, Lb_, Lc_, i64_w, i32_w]
              rfl
             refine pure_ (i := 6) (N := some 65) (v := ?_) (a' := ?_) #[f_,t_,f_,t_,t_,t_,t_,f_,f_,f_,f_,f_,f_,f_,f_] rfl rfl (any_of HT_.out (by kernel_rfl)) (fun _ _ _ h => h) (Or.inl ⟨by rfl, ?_⟩) ?_ ?_
             rotate_left
             ·intro w'
              go_simp
              with_reducible rfl
             rotate_left
             ·simp only [Act.put, La_, Lb_, Lc_, i64_w, i32_w]
              rfl
             refine pure_ (i := 7) (N := some 66) (v := ?_) (a' := ?_) #[f_,t_,f_,t_,t_,t_,t_,t_,f_,f_,f_,f_,f_,f_,f_] rfl rfl (any_of HT_.out (by kernel_rfl)) (fun _ _ _ h => h) (Or.inl ⟨by rfl, ?_⟩) ?_ ?_
             rotate_left
             ·intro w'
              go_simp
              with_reducible rfl
             rotate_left
             ·simp only [Act.put, La_, Lb_, Lc_, i64_w, i32_w]
              rfl
             refine pure_ (i := 8) (N := some 67) (v := ?_) (a' := ?_) #[f_,t_,f_,t_,t_,t_,t_,t_,t_,f_,f_,f_,f_,f_,f_] rfl rfl (any_of HT_.out (by kernel_rfl)) (fun _ _ _ h => h) (Or.inl ⟨by rfl, ?_⟩) ?_ ?_
             rotate_left
             ·intro w'
              go_simp
              with_reducible rfl
             rotate_left
             ·simp only [Act.put, La_, Lb_, Lc_, i64_w, i32_w]
              rfl
             refine pure_ (i := 9) (N := some 68) (v := ?_) (a' := ?_) #[f_,t_,f_,t_,t_,t_,t_,t_,t_,t_,f_,f_,f_,f_,f_] rfl rfl (any_of HT_.out (by kernel_rfl)) (fun _ _ _ h => h) (Or.inl ⟨by rfl, ?_⟩) ?_ ?_
             rotate_left
             ·intro w'
              go_simp
              with_reducible rfl
             rotate_left
             ·simp only [Act.put, La_, Lb_, Lc_, i64_w, i32_w]
              rfl
             refine take_ (i := 0) (N := some 59) (v := ?_) (a' := ?_) #[t_,t_,f_,t_,t_,t_,t_,t_,t_,t_,f_,f_,f_,f_,f_] rfl rfl (take_ofW HT_.out HW_.out (by kernel_rfl)) (fun _ _ _ h => h) (Or.inl ⟨by rfl, ?_⟩) hHeld ?_ ?_
             rotate_left
             ·rintro w' ⟨s0, s1, s2, s3, s4, s5, s6, s7, s8, s9, s10⟩
              go_simp
              with_reducible rfl
             rotate_left
             ·simp only [Act.put, La_, Lb_, Lc_, i64_w, i32_w]
              rfl
             refine take_ (i := 2) (N := some 61) (v := ?_) (a' := ?_) #[t_,t_,t_,t_,t_,t_,t_,t_,t_,t_,f_,f_,f_,f_,f_] rfl rfl (take_ofW HT_.out HW_.out (by kernel_rfl)) (fun _ _ _ h => h) (Or.inl ⟨by rfl, ?_⟩) hHeld ?_ ?_
             rotate_left
             ·rintro w' ⟨s0, s1, s2, s3, s4, s5, s6, s7, s8, s9, s10⟩
              go_simp
              with_reducible rfl
             rotate_left
             ·simp only [Act.put, La_, Lb_, Lc_, i64_w, i32_w]
              rfl
             refine one_ (i := 10) (N := some 69) #[t_,t_,t_,t_,t_,t_,t_,t_,t_,t_,t_,f_,f_,f_,f_] rfl rfl (one_of HT_.out (by kernel_rfl)) (by decide) (fun K hK => ?_)
             refine goes_ Try.func30 (by kernel_rfl) rfl #[.agg #[.slice A0_0 l0_0.length c0_0, .int .i64 a0_1, .int .i64 a0_2], .int .i64 a1, .agg #[.int .i64 t366, .int .i64 t367, .int .i64 t368, .int .i64 t369, .int .i64 t370, .int .i64 t371, .string t372, .slice Ao66 t373.length co66], .string ((((t372 ++ t378).extract 0 (a2 : Int).toNat) ++ a3) ++ ((t372 ++ t378).extract ((ji49) : Int).toNat (t372 ++ t378).size))] (by rfl) rfl rfl (by (try simp only [List.map_toArray, List.map_cons, List.map_nil]); first | done | (simp only [hji49]; rfl) | rfl | (simp only [ByteArray.size_append]; rfl) | (simp only [List.length_drop, List.length_take]; rfl)) ?_
             with_reducible refine (flagstoneref09_kept.calls k (fun k_ => ((P0_0_ k_ ∨ w.heap.size ≤ k_) ∧ (k_ ≠ gb364 ∧ (k_ ≠ gb365 ∧ k_ ≠ gb377)))) _ _ l0_0 a0_1 a0_2 a1 t366 t367 t368 t369 t370 t371 t372 (fun k_ => ((P0_0_ k_ ∨ w.heap.size ≤ k_) ∧ (k_ ≠ gb364 ∧ (k_ ≠ gb365 ∧ k_ ≠ gb377)))) _ _ t373 ((((t372 ++ t378).extract 0 (a2 : Int).toNat) ++ a3) ++ ((t372 ++ t378).extract ((ji49) : Int).toNat (t372 ++ t378).size)) t379 t382 t383 t384 _ ?side1 ?side2 A56.out).mono ?_
             (case side1 => exact HO0_0.out)
             (case side2 => exact HO375.out)
             rintro e w70 ⟨v380, rfl, ho0, hb⟩
             refine ⟨_, rfl, ?_⟩
             have n0_ := Am_ (Vb_ (Pv_ HO0_0.out) hb)
             have n1_ := Am_ (Vb_ (Pv_ HO375.out) hb)
             have n2_ := Am_ (Vl_ (Vm_ (ok' := fun k_ => (P0_0_ k_ ∨ w.heap.size ≤ k_) ∧ k_ ≠ gb364 ∧ k_ ≠ gb365 ∧ k_ ≠ gb377) ho0 (fun k_ hk_ => ⟨Or.elim hk_ (fun hs_ => Or.elim hs_ (fun hs_ => hs_.1) (fun hs_ => hs_.1)) (fun hn_ => (.inr (Nat.le_trans (Bz_ (Pb3_ HB.out GE364.out GE365.out GE377.out)) hn_))), Or.elim hk_ (fun hs_ => Or.elim hs_ (fun hs_ => hs_.2.1) (fun hs_ => hs_.2.1)) (fun hn_ => (Kd.freshB (g := gb364) (o := .cells #[.slice A0_0 l0_0.length c0_0, .int .i64 a0_1, .int .i64 a0_2] 33 (0, 0)) (Pk_ BK364.out) k_ hn_)), Or.elim hk_ (fun hs_ => Or.elim hs_ (fun hs_ => hs_.2.2.1) (fun hs_ => hs_.2.2.1)) (fun hn_ => (Kd.freshB (g := gb365) (o := .cells #[.slice none 0 0, .int .i64 0, .int .i64 0] 33 (0, 0)) (Pk_ BK365.out) k_ hn_)), Or.elim hk_ (fun hs_ => Or.elim hs_ (fun hs_ => hs_.2.2.2) (fun hs_ => hs_.2.2.2)) (fun hn_ => (Kd.freshB (g := gb377) (o := .cells #[.int .i64 t366, .int .i64 t367, .int .i64 t368, .int .i64 t369, .int .i64 t370, .int .i64 t371, .string t372, .slice Ao66 t373.length co66] 53 (0, 0)) (Pk_ BK377.out) k_ hn_))⟩)) (Bz_ (Pb3_ HB.out GE364.out GE365.out GE377.out)))
             have n3_ := Am_ (Bb_ (g := gb364) (o := .cells #[.slice A0_0 l0_0.length c0_0, .int .i64 a0_1, .int .i64 a0_2] 33 (0, 0)) (Pk_ BK364.out) hb)
             have n4_ := Am_ (Bb_ (g := gb365) (o := .cells #[.slice none 0 0, .int .i64 0, .int .i64 0] 33 (0, 0)) (Pk_ BK365.out) hb)
             have n5_ := Am_ (Bb_ (g := gb377) (o := .cells #[.int .i64 t366, .int .i64 t367, .int .i64 t368, .int .i64 t369, .int .i64 t370, .int .i64 t371, .string t372, .slice Ao66 t373.length co66] 53 (0, 0)) (Pk_ BK377.out) hb)
             have n6_ := Am_ (Be_ (Pb3_ HB.out GE364.out GE365.out GE377.out) hb)
             clear HO0_0
             clear HO375
             clear BK364
             clear BK365
             clear BK377
             clear HB
             have HO0_0 := n0_
             have HO375 := n1_
             have HO381 := n2_
             have BK364 := n3_
             have BK365 := n4_
             have BK377 := n5_
             have HB := n6_
             clear n0_ n1_ n2_ n3_ n4_ n5_ n6_
             (try clear hb)
             (try clear hb2)
             (try clear hk)
             (try clear hi)
             (try clear ho0)
             obtain ⟨Ao71, co71, eo71⟩ := Vx_ HO381.out
             (first | subst eo71 | (injection eo71 with f1_ f2_ f3_; have f4_ := f1_.symm; have f5_ := f3_.symm; clear f1_ f2_ f3_; subst f4_; subst f5_))
             refine hK.out _ _ ⟨(Bc_ BK364.out 0).trans rfl, (Bc_ BK364.out 1).trans rfl, (Bc_ BK364.out 2).trans rfl, (Bc_ BK377.out 0).trans rfl, (Bc_ BK377.out 1).trans rfl, (Bc_ BK377.out 2).trans rfl, (Bc_ BK377.out 3).trans rfl, (Bc_ BK377.out 4).trans rfl, (Bc_ BK377.out 5).trans rfl, (Bc_ BK377.out 6).trans rfl, (Bc_ BK377.out 7).trans rfl⟩ (fun hHeld => ?_)
             clear hK K
             refine norm_ (a' := ?_) ?_ ?_
             rotate_left
             ·show Act.put _ (some 69) _ = _
              simp only [Act.put, La_, Lb_, Lc_, i64_w, i32_w]
              rfl
             refine pure_ (i := 11) (N := some 70) (v := ?_) (a' := ?_) #[t_,t_,t_,t_,t_,t_,t_,t_,t_,t_,t_,t_,f_,f_,f_] rfl rfl (any_of HT_.out (by kernel_rfl)) (fun _ _ _ h => h) (Or.inl ⟨by rfl, ?_⟩) ?_ ?_
             rotate_left
             ·intro w'
              go_simp
              with_reducible rfl
             rotate_left
             ·simp only [Act.put, La_, Lb_, Lc_, i64_w, i32_w]
              rfl
             refine pure_ (i := 12) (N := some 71) (v := ?_) (a' := ?_) #[t_,t_,t_,t_,t_,t_,t_,t_,t_,t_,t_,t_,t_,f_,f_] rfl rfl (any_of HT_.out (by kernel_rfl)) (fun _ _ _ h => h) (Or.inl ⟨by rfl, ?_⟩) ?_ ?_
             rotate_left
             ·intro w'
              go_simp
              with_reducible rfl
             rotate_left
             ·simp only [Act.put, La_, Lb_, Lc_, i64_w, i32_w]
              rfl
             refine one_ (i := 13) (N := none) #[t_,t_,t_,t_,t_,t_,t_,t_,t_,t_,t_,t_,t_,t_,f_] rfl rfl (one_of HT_.out (by kernel_rfl)) (by decide) (fun K hK => ?_)
             have hs72 : w70.cell? ⟨gb365, 0, none⟩ = some (.slice none 0 0) := (Bc_ BK365.out 0).trans rfl
             have hfs72 := Bf_ BK365.out 0
             have hns72_0 := NB364_365.out
             have hns72_2 := NB377_365.out
             have hms72_0 := NB365_364.out
             have hms72_2 := NB365_377.out
             have hs73 : w70.cell? ⟨gb365, 1, none⟩ = some (.int .i64 0) := (Bc_ BK365.out 1).trans rfl
             have hfs73 := Bf_ BK365.out 1
             have hns73_0 := NB364_365.out
             have hns73_2 := NB377_365.out
             have hms73_0 := NB365_364.out
             have hms73_2 := NB365_377.out
             have hs74 : w70.cell? ⟨gb365, 2, none⟩ = some (.int .i64 0) := (Bc_ BK365.out 2).trans rfl
             have hfs74 := Bf_ BK365.out 2
             have hns74_0 := NB364_365.out
             have hns74_2 := NB377_365.out
             have hms74_0 := NB365_364.out
             have hms74_2 := NB365_377.out
             refine skip_ (w1 := ?_) (by rfl) rfl ?_ ?_
             rotate_left
             ·go_simp
              rfl
             refine hK.out _ _ ⟨((Cf_ (p := ⟨gb365, _, none⟩) NB364_365.out _).trans (((Cf_ (p := ⟨gb365, _, none⟩) NB364_365.out _).trans (((Cf_ (p := ⟨gb365, _, none⟩) NB364_365.out _).trans (hHeld.1)))))), ((Cf_ (p := ⟨gb365, _, none⟩) NB364_365.out _).trans (((Cf_ (p := ⟨gb365, _, none⟩) NB364_365.out _).trans (((Cf_ (p := ⟨gb365, _, none⟩) NB364_365.out _).trans (hHeld.2.1)))))), ((Cf_ (p := ⟨gb365, _, none⟩) NB364_365.out _).trans (((Cf_ (p := ⟨gb365, _, none⟩) NB364_365.out _).trans (((Cf_ (p := ⟨gb365, _, none⟩) NB364_365.out _).trans (hHeld.2.2.1)))))), ((Cf_ (p := ⟨gb365, _, none⟩) NB377_365.out _).trans (((Cf_ (p := ⟨gb365, _, none⟩) NB377_365.out _).trans (((Cf_ (p := ⟨gb365, _, none⟩) NB377_365.out _).trans (hHeld.2.2.2.1)))))), ((Cf_ (p := ⟨gb365, _, none⟩) NB377_365.out _).trans (((Cf_ (p := ⟨gb365, _, none⟩) NB377_365.out _).trans (((Cf_ (p := ⟨gb365, _, none⟩) NB377_365.out _).trans (hHeld.2.2.2.2.1)))))), ((Cf_ (p := ⟨gb365, _, none⟩) NB377_365.out _).trans (((Cf_ (p := ⟨gb365, _, none⟩) NB377_365.out _).trans (((Cf_ (p := ⟨gb365, _, none⟩) NB377_365.out _).trans (hHeld.2.2.2.2.2.1)))))), ((Cf_ (p := ⟨gb365, _, none⟩) NB377_365.out _).trans (((Cf_ (p := ⟨gb365, _, none⟩) NB377_365.out _).trans (((Cf_ (p := ⟨gb365, _, none⟩) NB377_365.out _).trans (hHeld.2.2.2.2.2.2.1)))))), ((Cf_ (p := ⟨gb365, _, none⟩) NB377_365.out _).trans (((Cf_ (p := ⟨gb365, _, none⟩) NB377_365.out _).trans (((Cf_ (p := ⟨gb365, _, none⟩) NB377_365.out _).trans (hHeld.2.2.2.2.2.2.2.1)))))), ((Cf_ (p := ⟨gb365, _, none⟩) NB377_365.out _).trans (((Cf_ (p := ⟨gb365, _, none⟩) NB377_365.out _).trans (((Cf_ (p := ⟨gb365, _, none⟩) NB377_365.out _).trans (hHeld.2.2.2.2.2.2.2.2.1)))))), ((Cf_ (p := ⟨gb365, _, none⟩) NB377_365.out _).trans (((Cf_ (p := ⟨gb365, _, none⟩) NB377_365.out _).trans (((Cf_ (p := ⟨gb365, _, none⟩) NB377_365.out _).trans (hHeld.2.2.2.2.2.2.2.2.2.1)))))), ((Cf_ (p := ⟨gb365, _, none⟩) NB377_365.out _).trans (((Cf_ (p := ⟨gb365, _, none⟩) NB377_365.out _).trans (((Cf_ (p := ⟨gb365, _, none⟩) NB377_365.out _).trans (hHeld.2.2.2.2.2.2.2.2.2.2))))))⟩ (fun hHeld => ?_)
             clear hK K
             refine pure_ (i := 14) (N := some 9) (v := ?_) (a' := ?_) #[t_,t_,t_,t_,t_,t_,t_,t_,t_,t_,t_,t_,t_,t_,t_] rfl rfl (any_of HT_.out (by kernel_rfl)) (fun _ _ _ h => h) (Or.inl ⟨by rfl, ?_⟩) ?_ ?_
             rotate_left
             ·intro w'
              go_simp
              with_reducible rfl
             rotate_left
             ·simp only [Act.put, La_, Lb_, Lc_, i64_w, i32_w]
              rfl
             refine done_ (done_of HT_.out (by kernel_rfl)) ?_
             try go_wp2
             refine bodyPost_ret (results_ct rfl _ _ gb365 33 #[.slice Ao71 t379.length co71, .int .i64 t382, .int .i64 t383] (0, 0) _ rfl (by (with_reducible repeat (first | refine Bn_ ?_ _ | refine Bd_ ?_ | refine Ba_ ?_ _)); refine Bp_ (cs := #[.slice Ao71 t379.length co71, .int .i64 t382, .int .i64 0]) ?_ 2 _ rfl; (with_reducible repeat (first | refine Bn_ ?_ _ | refine Bd_ ?_ | refine Ba_ ?_ _)); refine Bp_ (cs := #[.slice Ao71 t379.length co71, .int .i64 0, .int .i64 0]) ?_ 1 _ rfl; (with_reducible repeat (first | refine Bn_ ?_ _ | refine Bd_ ?_ | refine Ba_ ?_ _)); refine Bp_ (cs := #[.slice none 0 0, .int .i64 0, .int .i64 0]) ?_ 0 _ rfl; (with_reducible repeat (first | refine Bn_ ?_ _ | refine Bd_ ?_ | refine Ba_ ?_ _)); exact BK365.out) Try.underlying33 rfl (by kernel_rfl)) rfl ?_
             exact ⟨_, by first | rfl | (simp [errW_none, errW_some] <;> rfl) | (simp only [← hji49]; first | rfl | (simp [errW_none, errW_some] <;> rfl)) | (simp [*, errW_none, errW_some] <;> rfl), by (with_reducible repeat (first | apply Va_ | apply Vn_ | apply Vd_)); exact Vm_ (Vf_ (p := ⟨gb365, 2, none⟩) (Vf_ (p := ⟨gb365, 1, none⟩) (Vf_ (p := ⟨gb365, 0, none⟩) (Vm_ HO381.out (fun k_ hk => (⟨hk, hk.2.2.1⟩ : _ ∧ k_ ≠ gb365))) (fun _ hk => hk.2) (.slice Ao71 t379.length co71)) (fun _ hk => hk.2) (.int .i64 t382)) (fun _ hk => hk.2) (.int .i64 t383)) (fun _ hk => hk.1.1), by repeat (first | (with_reducible first | exact HB.out | apply Pa_ | apply Pn_ | apply Pd_ | refine Bs_ ?_ GE364.out | refine Bs_ ?_ GE365.out | refine Bs_ ?_ GE377.out) | exact HB.out)⟩
            ·rw [if_neg c55] at H
             exact absurd H (by simp)
           ·rw [if_neg c54] at H
            exact absurd H (by simp)
          ·rw [if_neg c53] at H
           exact absurd H (by simp)
         ·rw [if_neg c52] at H
          exact absurd H (by simp)
        ·rw [if_neg c51] at H
         exact absurd H (by simp)
       ·rw [if_neg c50] at H
        exact absurd H (by simp)
      ·rw [if_neg c48] at H
       have c48b0 : decide ((wrap64 (a2 + (a3.size : Int))) < ((t372 ++ t378).size : Int)) = false := Df_ c48
       have c48z := c48
       simp only [ByteArray.size_append, Int.natCast_add] at c48z
       have c48z0 := eq_false c48z
       have c48z1 := Df_ c48z
       clear c48
       by_cases c75 : 0 ≤ a2
       ·rw [if_pos c75] at H
        have c75b0 := eq_true c75
        have c75b1 : decide (0 ≤ a2) = true := Dt_ c75
        clear c75
        by_cases c76 : a2 ≤ ((t372 ++ t378).size : Int)
        ·rw [if_pos c76] at H
         have c76b0 := eq_true c76
         have c76b1 : decide (a2 ≤ ((t372 ++ t378).size : Int)) = true := Dt_ c76
         have c76z := c76
         simp only [ByteArray.size_append, Int.natCast_add] at c76z
         have c76z0 := eq_true c76z
         by_cases c77 : ((t372 ++ t378).extract 0 (a2 : Int).toNat).size + a3.size ≤ 9223372036854775807
         ·rw [if_pos c77] at H
          have c77b0 := eq_true c77
          have c77b1 : decide (((t372 ++ t378).extract 0 (a2 : Int).toNat).size + a3.size ≤ 9223372036854775807) = true := Dt_ c77
          (try (have c77z : (9223372036854775807 < a2.toNat + a3.size) = False := eq_false (by have h_ := c77; simp only [ByteArray.size_extract, ByteArray.size_append] at h_; omega)))
          (try (have c77b19 := c77b1; simp only [ByteArray.size_extract, Nat.min_self] at c77b19; have c77b18 := eq_true (Ot_ c77b19)))
          (try (have c77b17 := c77b1; simp only [ByteArray.size_extract, Nat.min_self] at c77b17))
          try have c77b2 : (9223372036854775807 < ((t372 ++ t378).extract 0 (a2 : Int).toNat).size + a3.size) = False := eq_false (Nat.not_lt.2 c77)
          by_cases c78 : (((t372 ++ t378).extract 0 (a2 : Int).toNat) ++ a3).size + 0 ≤ 9223372036854775807
          ·rw [if_pos c78] at H
           have c78b0 := eq_true c78
           have c78b1 : decide ((((t372 ++ t378).extract 0 (a2 : Int).toNat) ++ a3).size + 0 ≤ 9223372036854775807) = true := Dt_ c78
           (try (have c78b19 := c78b1; simp only [ByteArray.size_extract, Nat.min_self] at c78b19; have c78b18 := eq_true (Ot_ c78b19)))
           (try (have c78b17 := c78b1; simp only [ByteArray.size_extract, Nat.min_self] at c78b17))
           try have c78b2 : (9223372036854775807 < (((t372 ++ t378).extract 0 (a2 : Int).toNat) ++ a3).size + 0) = False := eq_false (Nat.not_lt.2 c78)
           replace H := Option.bind_eq_some_iff.mp H
           obtain ⟨⟨t385, t388, t389, t390⟩, A790, H⟩ := H
           replace H : (some (t385, t388, t389, t390)) = some (r1, r2, r3, r4) := H
           have A79 := Am_ A790
           clear A790
           simp only [Option.some.injEq, Prod.mk.injEq] at H
           obtain ⟨rfl, rfl, rfl, rfl⟩ := H
           go_enter Try.func17, Try.ntmps17
           try go_wp2_with (first | ((with_reducible refine gate_dst (N := 4) rfl ?_); refine box_event ?hg (N := 4) ?hd (cs := #[.slice A0_0 l0_0.length c0_0, .int .i64 a0_1, .int .i64 a0_2]) (t := 33) ?hr ?_; (case hd => rfl); (case hg => rfl); (case hr => go_simp; try rfl); intro gb364 hg w80 hbox hb; have n0_ := Am_ (Vb_ (Ke_ (Pv_ HO0_0.out) gb364 (Nat.le_of_eq hg.symm)) hb); have n1_ := Am_ (Be_ (Pb0_ HB.out) hb); have n2_ := Am_ (hbox); have n3_ := Am_ ((by rw [hg]; exact (Bz_ (Pb0_ HB.out)) : w.heap.size ≤ gb364)); have n4_ := Am_ ((by rw [hg]; exact (Bz_ (Pb0_ HB.out)) : w.heap.size ≤ gb364)); clear HO0_0; clear HB; have HO0_0 := n0_; have HB := n1_; have BK364 := n2_; have GW364 := n3_; have GE364 := n4_; clear n0_ n1_ n2_ n3_ n4_; clear hb hbox hg) | ((with_reducible refine gate_dst (N := 8) rfl ?_); refine box_event ?hg (N := 8) ?hd (cs := #[.slice none 0 0, .int .i64 0, .int .i64 0]) (t := 33) ?hr ?_; (case hd => rfl); (case hg => rfl); (case hr => go_simp; try rfl); intro gb365 hg w81 hbox hb; have n0_ := Am_ (Vb_ (Ke_ (Pv_ HO0_0.out) gb365 (Nat.le_of_eq hg.symm)) hb); have n1_ := Am_ (Bb_ (g := gb364) (o := .cells #[.slice A0_0 l0_0.length c0_0, .int .i64 a0_1, .int .i64 a0_2] 33 (0, 0)) (Pk_ BK364.out) hb); have n2_ := Am_ (Be_ (Pb1_ HB.out GE364.out) hb); have n3_ := Am_ (hbox); have n4_ := Am_ ((by rw [hg]; exact (Bz_ (Pb1_ HB.out GE364.out)) : w.heap.size ≤ gb365)); have n5_ := Am_ ((by rw [hg]; exact (Bz_ (Pb1_ HB.out GE364.out)) : w.heap.size ≤ gb365)); have n6_ := Am_ ((by rw [hg]; exact Nat.ne_of_lt (blk_lt (g := gb364) (o := .cells #[.slice A0_0 l0_0.length c0_0, .int .i64 a0_1, .int .i64 a0_2] 33 (0, 0)) (Pk_ BK364.out)) : gb364 ≠ gb365)); have n7_ := Am_ ((by rw [hg]; exact Nat.ne_of_gt (blk_lt (g := gb364) (o := .cells #[.slice A0_0 l0_0.length c0_0, .int .i64 a0_1, .int .i64 a0_2] 33 (0, 0)) (Pk_ BK364.out)) : gb365 ≠ gb364)); clear HO0_0; clear BK364; clear HB; have HO0_0 := n0_; have BK364 := n1_; have HB := n2_; have BK365 := n3_; have GW365 := n4_; have GE365 := n5_; have NB364_365 := n6_; have NB365_364 := n7_; clear n0_ n1_ n2_ n3_ n4_ n5_ n6_ n7_; clear hb hbox hg; have hnb82 := NB364_365.out; have hnc82 := NB365_364.out; obtain ⟨hcz83_0, hcz83_1, hcz83_2, hfz83_0, hfz83_1, hfz83_2⟩ := Ce3_ BK364.out) | ((with_reducible refine gate_callee (f := 25) rfl ?_); refine goesL_ (some 17) rfl rfl Try.func25 (by kernel_rfl) rfl #[.agg #[.slice A0_0 l0_0.length c0_0, .int .i64 a0_1, .int .i64 a0_2], .int .i64 a1] rfl (by (try simp only [List.map_toArray, List.map_cons, List.map_nil]); first | done | rfl | (simp only [ByteArray.size_append]; rfl) | (simp only [List.length_drop, List.length_take]; rfl)) ?_; (with_reducible refine (flagstoneref09_file.calls (fun k_ => (((P0_0_ k_ ∨ w.heap.size ≤ k_) ∧ k_ ≠ gb364) ∧ k_ ≠ gb365)) _ _ l0_0 a0_1 a0_2 a1 t366 t367 t368 t369 t370 t371 t372 t373 t376 _ ?side1 A5.out).mono ?_); (case side1 => exact HO0_0.out); rintro e w84 ⟨v374, rfl, ho0, hb⟩; refine ⟨_, rfl, ?_⟩; have n0_ := Am_ (Vb_ (Pv_ HO0_0.out) hb); have n1_ := Am_ (Vl_ (Vm_ (ok' := fun k_ => (P0_0_ k_ ∨ w.heap.size ≤ k_) ∧ k_ ≠ gb364 ∧ k_ ≠ gb365) ho0 (fun k_ hk_ => ⟨Or.elim hk_ (fun hs_ => hs_.1.1) (fun hn_ => (.inr (Nat.le_trans (Bz_ (Pb2_ HB.out GE364.out GE365.out)) hn_))), Or.elim hk_ (fun hs_ => hs_.1.2) (fun hn_ => (Kd.freshB (g := gb364) (o := .cells #[.slice A0_0 l0_0.length c0_0, .int .i64 a0_1, .int .i64 a0_2] 33 (0, 0)) (Pk_ BK364.out) k_ hn_)), Or.elim hk_ (fun hs_ => hs_.2) (fun hn_ => (Kd.freshB (g := gb365) (o := .cells #[.slice none 0 0, .int .i64 0, .int .i64 0] 33 (0, 0)) (Pk_ BK365.out) k_ hn_))⟩)) (Bz_ (Pb2_ HB.out GE364.out GE365.out))); have n2_ := Am_ (Bb_ (g := gb364) (o := .cells #[.slice A0_0 l0_0.length c0_0, .int .i64 a0_1, .int .i64 a0_2] 33 (0, 0)) (Pk_ BK364.out) hb); have n3_ := Am_ (Bb_ (g := gb365) (o := .cells #[.slice none 0 0, .int .i64 0, .int .i64 0] 33 (0, 0)) (Pk_ BK365.out) hb); have n4_ := Am_ (Be_ (Pb2_ HB.out GE364.out GE365.out) hb); clear HO0_0; clear BK364; clear BK365; clear HB; have HO0_0 := n0_; have HO375 := n1_; have BK364 := n2_; have BK365 := n3_; have HB := n4_; clear n0_ n1_ n2_ n3_ n4_; (try clear hb); (try clear hb2); (try clear hk); (try clear hi); (try clear ho0)) | ((with_reducible refine gate_dst (N := 10) rfl ?_); refine box_event ?hg (N := 10) ?hd (cs := #[.int .i64 0, .int .i64 0, .int .i64 0, .int .i64 0, .int .i64 0, .int .i64 0, .string (⟨#[]⟩ : ByteArray), .slice none 0 0]) (t := 53) ?hr ?_; (case hd => rfl); (case hg => rfl); (case hr => go_simp; try rfl); intro gb377 hg w85 hbox hb; have n0_ := Am_ (Vb_ (Ke_ (Pv_ HO0_0.out) gb377 (Nat.le_of_eq hg.symm)) hb); have n1_ := Am_ (Vb_ (Ke_ (Pv_ HO375.out) gb377 (Nat.le_of_eq hg.symm)) hb); have n2_ := Am_ (Bb_ (g := gb364) (o := .cells #[.slice A0_0 l0_0.length c0_0, .int .i64 a0_1, .int .i64 a0_2] 33 (0, 0)) (Pk_ BK364.out) hb); have n3_ := Am_ (Bb_ (g := gb365) (o := .cells #[.slice none 0 0, .int .i64 0, .int .i64 0] 33 (0, 0)) (Pk_ BK365.out) hb); have n4_ := Am_ (Be_ (Pb2_ HB.out GE364.out GE365.out) hb); have n5_ := Am_ (hbox); have n6_ := Am_ ((by rw [hg]; exact (Bz_ (Pb2_ HB.out GE364.out GE365.out)) : w.heap.size ≤ gb377)); have n7_ := Am_ ((by rw [hg]; exact (Bz_ (Pb2_ HB.out GE364.out GE365.out)) : w.heap.size ≤ gb377)); have n8_ := Am_ ((by rw [hg]; exact Nat.ne_of_lt (blk_lt (g := gb364) (o := .cells #[.slice A0_0 l0_0.length c0_0, .int .i64 a0_1, .int .i64 a0_2] 33 (0, 0)) (Pk_ BK364.out)) : gb364 ≠ gb377)); have n9_ := Am_ ((by rw [hg]; exact Nat.ne_of_gt (blk_lt (g := gb364) (o := .cells #[.slice A0_0 l0_0.length c0_0, .int .i64 a0_1, .int .i64 a0_2] 33 (0, 0)) (Pk_ BK364.out)) : gb377 ≠ gb364)); have n10_ := Am_ ((by rw [hg]; exact Nat.ne_of_lt (blk_lt (g := gb365) (o := .cells #[.slice none 0 0, .int .i64 0, .int .i64 0] 33 (0, 0)) (Pk_ BK365.out)) : gb365 ≠ gb377)); have n11_ := Am_ ((by rw [hg]; exact Nat.ne_of_gt (blk_lt (g := gb365) (o := .cells #[.slice none 0 0, .int .i64 0, .int .i64 0] 33 (0, 0)) (Pk_ BK365.out)) : gb377 ≠ gb365)); clear HO0_0; clear HO375; clear BK364; clear BK365; clear HB; have HO0_0 := n0_; have HO375 := n1_; have BK364 := n2_; have BK365 := n3_; have HB := n4_; have BK377 := n5_; have GW377 := n6_; have GE377 := n7_; have NB364_377 := n8_; have NB377_364 := n9_; have NB365_377 := n10_; have NB377_365 := n11_; clear n0_ n1_ n2_ n3_ n4_ n5_ n6_ n7_ n8_ n9_ n10_ n11_; clear hb hbox hg; have hnb86 := NB377_364.out; have hnc86 := NB364_377.out; have hnb87 := NB377_365.out; have hnc87 := NB365_377.out; obtain ⟨hcz88_0, hcz88_1, hcz88_2, hcz88_3, hcz88_4, hcz88_5, hcz88_6, hcz88_7, hfz88_0, hfz88_1, hfz88_2, hfz88_3, hfz88_4, hfz88_5, hfz88_6, hfz88_7⟩ := Ce8_ BK377.out; obtain ⟨Ao89, co89, eo89⟩ := Vx_ HO375.out; subst eo89))
           have n0_ : Aside0 (Kd.V k53 53 ((((((((w85.setCell ⟨gb377, 0, none⟩ (.int .i64 t366)).setCell ⟨gb377, 1, none⟩ (.int .i64 t367)).setCell ⟨gb377, 2, none⟩ (.int .i64 t368)).setCell ⟨gb377, 3, none⟩ (.int .i64 t369)).setCell ⟨gb377, 4, none⟩ (.int .i64 t370)).setCell ⟨gb377, 5, none⟩ (.int .i64 t371)).setCell ⟨gb377, 6, none⟩ (.string t372)).setCell ⟨gb377, 7, none⟩ (.slice Ao89 t373.length co89)) w.heap.size (fun k_ => (P0_0_ k_ ∨ w.heap.size ≤ k_) ∧ k_ ≠ gb364 ∧ k_ ≠ gb365 ∧ k_ ≠ gb377) (.slice A0_0 l0_0.length c0_0) l0_0) := ⟨by (with_reducible repeat (first | apply Va_ | apply Vn_ | apply Vd_)); exact Vm_ (Vf_ (p := ⟨gb377, 7, none⟩) (Vf_ (p := ⟨gb377, 6, none⟩) (Vf_ (p := ⟨gb377, 5, none⟩) (Vf_ (p := ⟨gb377, 4, none⟩) (Vf_ (p := ⟨gb377, 3, none⟩) (Vf_ (p := ⟨gb377, 2, none⟩) (Vf_ (p := ⟨gb377, 1, none⟩) (Vf_ (p := ⟨gb377, 0, none⟩) (Vm_ HO0_0.out (fun k_ hk => (⟨hk, hk.2⟩ : _ ∧ k_ ≠ gb377))) (fun _ hk => hk.2) (.int .i64 t366)) (fun _ hk => hk.2) (.int .i64 t367)) (fun _ hk => hk.2) (.int .i64 t368)) (fun _ hk => hk.2) (.int .i64 t369)) (fun _ hk => hk.2) (.int .i64 t370)) (fun _ hk => hk.2) (.int .i64 t371)) (fun _ hk => hk.2) (.string t372)) (fun _ hk => hk.2) (.slice Ao89 t373.length co89)) (fun _ hk => ⟨hk.1.1.1.1, ⟨hk.1.1.1.2, ⟨hk.1.1.2, hk.1.2⟩⟩⟩)⟩
           have n1_ : Aside0 (Kd.V k75 75 ((((((((w85.setCell ⟨gb377, 0, none⟩ (.int .i64 t366)).setCell ⟨gb377, 1, none⟩ (.int .i64 t367)).setCell ⟨gb377, 2, none⟩ (.int .i64 t368)).setCell ⟨gb377, 3, none⟩ (.int .i64 t369)).setCell ⟨gb377, 4, none⟩ (.int .i64 t370)).setCell ⟨gb377, 5, none⟩ (.int .i64 t371)).setCell ⟨gb377, 6, none⟩ (.string t372)).setCell ⟨gb377, 7, none⟩ (.slice Ao89 t373.length co89)) w.heap.size (fun k_ => (P0_0_ k_ ∨ w.heap.size ≤ k_) ∧ k_ ≠ gb364 ∧ k_ ≠ gb365 ∧ k_ ≠ gb377) (.slice Ao89 t373.length co89) t373) := ⟨by (with_reducible repeat (first | apply Va_ | apply Vn_ | apply Vd_)); exact Vm_ (Vf_ (p := ⟨gb377, 7, none⟩) (Vf_ (p := ⟨gb377, 6, none⟩) (Vf_ (p := ⟨gb377, 5, none⟩) (Vf_ (p := ⟨gb377, 4, none⟩) (Vf_ (p := ⟨gb377, 3, none⟩) (Vf_ (p := ⟨gb377, 2, none⟩) (Vf_ (p := ⟨gb377, 1, none⟩) (Vf_ (p := ⟨gb377, 0, none⟩) (Vm_ HO375.out (fun k_ hk => (⟨hk, hk.2⟩ : _ ∧ k_ ≠ gb377))) (fun _ hk => hk.2) (.int .i64 t366)) (fun _ hk => hk.2) (.int .i64 t367)) (fun _ hk => hk.2) (.int .i64 t368)) (fun _ hk => hk.2) (.int .i64 t369)) (fun _ hk => hk.2) (.int .i64 t370)) (fun _ hk => hk.2) (.int .i64 t371)) (fun _ hk => hk.2) (.string t372)) (fun _ hk => hk.2) (.slice Ao89 t373.length co89)) (fun _ hk => ⟨hk.1.1.1, ⟨hk.1.1.2.1, ⟨hk.1.1.2.2, hk.1.2⟩⟩⟩)⟩
           have n2_ : Aside0 (((((((((w85.setCell ⟨gb377, 0, none⟩ (.int .i64 t366)).setCell ⟨gb377, 1, none⟩ (.int .i64 t367)).setCell ⟨gb377, 2, none⟩ (.int .i64 t368)).setCell ⟨gb377, 3, none⟩ (.int .i64 t369)).setCell ⟨gb377, 4, none⟩ (.int .i64 t370)).setCell ⟨gb377, 5, none⟩ (.int .i64 t371)).setCell ⟨gb377, 6, none⟩ (.string t372)).setCell ⟨gb377, 7, none⟩ (.slice Ao89 t373.length co89)).heap[gb364]? = some (.cells #[.slice A0_0 l0_0.length c0_0, .int .i64 a0_1, .int .i64 a0_2] 33 (0, 0))) := ⟨by (with_reducible repeat (first | refine Bn_ ?_ _ | refine Bd_ ?_ | refine Ba_ ?_ _)); refine blk_far ?_ NB364_377.out _; (with_reducible repeat (first | refine Bn_ ?_ _ | refine Bd_ ?_ | refine Ba_ ?_ _)); refine blk_far ?_ NB364_377.out _; (with_reducible repeat (first | refine Bn_ ?_ _ | refine Bd_ ?_ | refine Ba_ ?_ _)); refine blk_far ?_ NB364_377.out _; (with_reducible repeat (first | refine Bn_ ?_ _ | refine Bd_ ?_ | refine Ba_ ?_ _)); refine blk_far ?_ NB364_377.out _; (with_reducible repeat (first | refine Bn_ ?_ _ | refine Bd_ ?_ | refine Ba_ ?_ _)); refine blk_far ?_ NB364_377.out _; (with_reducible repeat (first | refine Bn_ ?_ _ | refine Bd_ ?_ | refine Ba_ ?_ _)); refine blk_far ?_ NB364_377.out _; (with_reducible repeat (first | refine Bn_ ?_ _ | refine Bd_ ?_ | refine Ba_ ?_ _)); refine blk_far ?_ NB364_377.out _; (with_reducible repeat (first | refine Bn_ ?_ _ | refine Bd_ ?_ | refine Ba_ ?_ _)); refine blk_far ?_ NB364_377.out _; (with_reducible repeat (first | refine Bn_ ?_ _ | refine Bd_ ?_ | refine Ba_ ?_ _)); exact BK364.out⟩
           have n3_ : Aside0 (((((((((w85.setCell ⟨gb377, 0, none⟩ (.int .i64 t366)).setCell ⟨gb377, 1, none⟩ (.int .i64 t367)).setCell ⟨gb377, 2, none⟩ (.int .i64 t368)).setCell ⟨gb377, 3, none⟩ (.int .i64 t369)).setCell ⟨gb377, 4, none⟩ (.int .i64 t370)).setCell ⟨gb377, 5, none⟩ (.int .i64 t371)).setCell ⟨gb377, 6, none⟩ (.string t372)).setCell ⟨gb377, 7, none⟩ (.slice Ao89 t373.length co89)).heap[gb365]? = some (.cells #[.slice none 0 0, .int .i64 0, .int .i64 0] 33 (0, 0))) := ⟨by (with_reducible repeat (first | refine Bn_ ?_ _ | refine Bd_ ?_ | refine Ba_ ?_ _)); refine blk_far ?_ NB365_377.out _; (with_reducible repeat (first | refine Bn_ ?_ _ | refine Bd_ ?_ | refine Ba_ ?_ _)); refine blk_far ?_ NB365_377.out _; (with_reducible repeat (first | refine Bn_ ?_ _ | refine Bd_ ?_ | refine Ba_ ?_ _)); refine blk_far ?_ NB365_377.out _; (with_reducible repeat (first | refine Bn_ ?_ _ | refine Bd_ ?_ | refine Ba_ ?_ _)); refine blk_far ?_ NB365_377.out _; (with_reducible repeat (first | refine Bn_ ?_ _ | refine Bd_ ?_ | refine Ba_ ?_ _)); refine blk_far ?_ NB365_377.out _; (with_reducible repeat (first | refine Bn_ ?_ _ | refine Bd_ ?_ | refine Ba_ ?_ _)); refine blk_far ?_ NB365_377.out _; (with_reducible repeat (first | refine Bn_ ?_ _ | refine Bd_ ?_ | refine Ba_ ?_ _)); refine blk_far ?_ NB365_377.out _; (with_reducible repeat (first | refine Bn_ ?_ _ | refine Bd_ ?_ | refine Ba_ ?_ _)); refine blk_far ?_ NB365_377.out _; (with_reducible repeat (first | refine Bn_ ?_ _ | refine Bd_ ?_ | refine Ba_ ?_ _)); exact BK365.out⟩
           have n4_ : Aside0 (((((((((w85.setCell ⟨gb377, 0, none⟩ (.int .i64 t366)).setCell ⟨gb377, 1, none⟩ (.int .i64 t367)).setCell ⟨gb377, 2, none⟩ (.int .i64 t368)).setCell ⟨gb377, 3, none⟩ (.int .i64 t369)).setCell ⟨gb377, 4, none⟩ (.int .i64 t370)).setCell ⟨gb377, 5, none⟩ (.int .i64 t371)).setCell ⟨gb377, 6, none⟩ (.string t372)).setCell ⟨gb377, 7, none⟩ (.slice Ao89 t373.length co89)).heap[gb377]? = some (.cells #[.int .i64 t366, .int .i64 t367, .int .i64 t368, .int .i64 t369, .int .i64 t370, .int .i64 t371, .string t372, .slice Ao89 t373.length co89] 53 (0, 0))) := ⟨by (with_reducible repeat (first | refine Bn_ ?_ _ | refine Bd_ ?_ | refine Ba_ ?_ _)); refine Bp_ (cs := #[.int .i64 t366, .int .i64 t367, .int .i64 t368, .int .i64 t369, .int .i64 t370, .int .i64 t371, .string t372, .slice none 0 0]) ?_ 7 _ rfl; (with_reducible repeat (first | refine Bn_ ?_ _ | refine Bd_ ?_ | refine Ba_ ?_ _)); refine Bp_ (cs := #[.int .i64 t366, .int .i64 t367, .int .i64 t368, .int .i64 t369, .int .i64 t370, .int .i64 t371, .string (⟨#[]⟩ : ByteArray), .slice none 0 0]) ?_ 6 _ rfl; (with_reducible repeat (first | refine Bn_ ?_ _ | refine Bd_ ?_ | refine Ba_ ?_ _)); refine Bp_ (cs := #[.int .i64 t366, .int .i64 t367, .int .i64 t368, .int .i64 t369, .int .i64 t370, .int .i64 0, .string (⟨#[]⟩ : ByteArray), .slice none 0 0]) ?_ 5 _ rfl; (with_reducible repeat (first | refine Bn_ ?_ _ | refine Bd_ ?_ | refine Ba_ ?_ _)); refine Bp_ (cs := #[.int .i64 t366, .int .i64 t367, .int .i64 t368, .int .i64 t369, .int .i64 0, .int .i64 0, .string (⟨#[]⟩ : ByteArray), .slice none 0 0]) ?_ 4 _ rfl; (with_reducible repeat (first | refine Bn_ ?_ _ | refine Bd_ ?_ | refine Ba_ ?_ _)); refine Bp_ (cs := #[.int .i64 t366, .int .i64 t367, .int .i64 t368, .int .i64 0, .int .i64 0, .int .i64 0, .string (⟨#[]⟩ : ByteArray), .slice none 0 0]) ?_ 3 _ rfl; (with_reducible repeat (first | refine Bn_ ?_ _ | refine Bd_ ?_ | refine Ba_ ?_ _)); refine Bp_ (cs := #[.int .i64 t366, .int .i64 t367, .int .i64 0, .int .i64 0, .int .i64 0, .int .i64 0, .string (⟨#[]⟩ : ByteArray), .slice none 0 0]) ?_ 2 _ rfl; (with_reducible repeat (first | refine Bn_ ?_ _ | refine Bd_ ?_ | refine Ba_ ?_ _)); refine Bp_ (cs := #[.int .i64 t366, .int .i64 0, .int .i64 0, .int .i64 0, .int .i64 0, .int .i64 0, .string (⟨#[]⟩ : ByteArray), .slice none 0 0]) ?_ 1 _ rfl; (with_reducible repeat (first | refine Bn_ ?_ _ | refine Bd_ ?_ | refine Ba_ ?_ _)); refine Bp_ (cs := #[.int .i64 0, .int .i64 0, .int .i64 0, .int .i64 0, .int .i64 0, .int .i64 0, .string (⟨#[]⟩ : ByteArray), .slice none 0 0]) ?_ 0 _ rfl; (with_reducible repeat (first | refine Bn_ ?_ _ | refine Bd_ ?_ | refine Ba_ ?_ _)); exact BK377.out⟩
           have n5_ : Aside0 (Below w.heap.size w ((((((((w85.setCell ⟨gb377, 0, none⟩ (.int .i64 t366)).setCell ⟨gb377, 1, none⟩ (.int .i64 t367)).setCell ⟨gb377, 2, none⟩ (.int .i64 t368)).setCell ⟨gb377, 3, none⟩ (.int .i64 t369)).setCell ⟨gb377, 4, none⟩ (.int .i64 t370)).setCell ⟨gb377, 5, none⟩ (.int .i64 t371)).setCell ⟨gb377, 6, none⟩ (.string t372)).setCell ⟨gb377, 7, none⟩ (.slice Ao89 t373.length co89))) := ⟨by repeat (first | (with_reducible first | exact HB.out | apply Pa_ | apply Pn_ | apply Pd_ | refine Bs_ ?_ GE364.out | refine Bs_ ?_ GE365.out | refine Bs_ ?_ GE377.out) | exact HB.out)⟩
           (try clear HO0_0)
           (try clear HO375)
           (try clear BK364)
           (try clear BK365)
           (try clear BK377)
           (try clear HB)
           generalize ((((((((w85.setCell ⟨gb377, 0, none⟩ (.int .i64 t366)).setCell ⟨gb377, 1, none⟩ (.int .i64 t367)).setCell ⟨gb377, 2, none⟩ (.int .i64 t368)).setCell ⟨gb377, 3, none⟩ (.int .i64 t369)).setCell ⟨gb377, 4, none⟩ (.int .i64 t370)).setCell ⟨gb377, 5, none⟩ (.int .i64 t371)).setCell ⟨gb377, 6, none⟩ (.string t372)).setCell ⟨gb377, 7, none⟩ (.slice Ao89 t373.length co89)) = w90 at n0_ n1_ n2_ n3_ n4_ n5_ ⊢
           have HO0_0 := n0_
           have HO375 := n1_
           have BK364 := n2_
           have BK365 := n3_
           have BK377 := n4_
           have HB := n5_
           clear n0_ n1_ n2_ n3_ n4_ n5_
           have n0_ := Am_ (Vd_ HO0_0.out)
           have n1_ := Am_ (Vd_ HO375.out)
           have n2_ := Am_ (Bd_ BK364.out)
           have n3_ := Am_ (Bd_ BK365.out)
           have n4_ := Am_ (Bd_ BK377.out)
           have n5_ := Am_ (Pd_ HB.out)
           clear HO0_0
           clear HO375
           clear BK364
           clear BK365
           clear BK377
           clear HB
           have HO0_0 := n0_
           have HO375 := n1_
           have BK364 := n2_
           have BK365 := n3_
           have BK377 := n4_
           have HB := n5_
           clear n0_ n1_ n2_ n3_ n4_ n5_
           refine start_ (n := 10) (S := fun w' => w'.cell? ⟨gb377, 0, none⟩ = some (.int .i64 t366) ∧ w'.cell? ⟨gb377, 1, none⟩ = some (.int .i64 t367) ∧ w'.cell? ⟨gb377, 2, none⟩ = some (.int .i64 t368) ∧ w'.cell? ⟨gb377, 3, none⟩ = some (.int .i64 t369) ∧ w'.cell? ⟨gb377, 4, none⟩ = some (.int .i64 t370) ∧ w'.cell? ⟨gb377, 5, none⟩ = some (.int .i64 t371) ∧ w'.cell? ⟨gb377, 6, none⟩ = some (.string t372) ∧ w'.cell? ⟨gb377, 7, none⟩ = some (.slice Ao89 t373.length co89)) (ds := []) #[f_,f_,f_,f_,f_,f_,f_,f_,f_,f_] (by kernel_rfl) rfl rfl ⟨(Bc_ BK377.out 0).trans rfl, (Bc_ BK377.out 1).trans rfl, (Bc_ BK377.out 2).trans rfl, (Bc_ BK377.out 3).trans rfl, (Bc_ BK377.out 4).trans rfl, (Bc_ BK377.out 5).trans rfl, (Bc_ BK377.out 6).trans rfl, (Bc_ BK377.out 7).trans rfl⟩ (fun hHeld => ?_); refine with_tabW flagstoneref09_Write.tab10 flagstoneref09_Write.bits10 (fun HT_ HW_ => ?_)
           generalize w90.drew = w91 at HO0_0 HO375 BK364 BK365 BK377 HB hHeld ⊢
           refine pure_ (i := 0) (N := some 37) (v := ?_) (a' := ?_) #[t_,f_,f_,f_,f_,f_,f_,f_,f_,f_] rfl rfl (any_of HT_.out (by kernel_rfl)) (fun _ _ _ h => h) (Or.inl ⟨by rfl, ?_⟩) ?_ ?_
           rotate_left
           ·intro w'
            go_simp
            with_reducible rfl
           rotate_left
           ·simp only [Act.put, La_, Lb_, Lc_, i64_w, i32_w]
            rfl
           refine pure_ (i := 2) (N := some 39) (v := ?_) (a' := ?_) #[t_,f_,t_,f_,f_,f_,f_,f_,f_,f_] rfl rfl (any_of HT_.out (by kernel_rfl)) (fun _ _ _ h => h) (Or.inl ⟨by rfl, ?_⟩) ?_ ?_
           rotate_left
           ·intro w'
            go_simp
            with_reducible rfl
           rotate_left
           ·simp only [Act.put, La_, Lb_, Lc_, i64_w, i32_w]
            rfl
           refine pure_ (i := 3) (N := some 40) (v := ?_) (a' := ?_) #[t_,f_,t_,t_,f_,f_,f_,f_,f_,f_] rfl rfl (any_of HT_.out (by kernel_rfl)) (fun _ _ _ h => h) (Or.inl ⟨by rfl, ?_⟩) ?_ ?_
           rotate_left
           ·intro w'
            go_simp
            with_reducible rfl
           rotate_left
           ·simp only [Act.put, La_, Lb_, Lc_, i64_w, i32_w]
            rfl
           refine take_ (i := 1) (N := some 38) (v := ?_) (a' := ?_) #[t_,t_,t_,t_,f_,f_,f_,f_,f_,f_] rfl rfl (take_ofW HT_.out HW_.out (by kernel_rfl)) (fun _ _ _ h => h) (Or.inl ⟨by rfl, ?_⟩) hHeld ?_ ?_
           rotate_left
           ·rintro w' ⟨s0, s1, s2, s3, s4, s5, s6, s7⟩
            go_simp
            with_reducible rfl
           rotate_left
           ·simp only [Act.put, La_, Lb_, Lc_, i64_w, i32_w]
            rfl
           refine take_ (i := 4) (N := some 41) (v := ?_) (a' := ?_) #[t_,t_,t_,t_,t_,f_,f_,f_,f_,f_] rfl rfl (take_ofW HT_.out HW_.out (by kernel_rfl)) (fun _ _ _ h => h) (Or.inl ⟨by rfl, ?_⟩) hHeld ?_ ?_
           rotate_left
           ·rintro w' ⟨s0, s1, s2, s3, s4, s5, s6, s7⟩
            go_simp
            with_reducible rfl
           rotate_left
           ·simp only [Act.put, La_, Lb_, Lc_, i64_w, i32_w]
            rfl
           refine pure_ (i := 5) (N := some 42) (v := ?_) (a' := ?_) #[t_,t_,t_,t_,t_,t_,f_,f_,f_,f_] rfl rfl (any_of HT_.out (by kernel_rfl)) (fun _ _ _ h => h) (Or.inl ⟨by rfl, ?_⟩) ?_ ?_
           rotate_left
           ·intro w'
            go_simp
            with_reducible rfl
           rotate_left
           ·simp only [Act.put, La_, Lb_, Lc_, i64_w, i32_w]
            rfl
           refine pure_ (i := 6) (N := some 43) (v := ?_) (a' := ?_) #[t_,t_,t_,t_,t_,t_,t_,f_,f_,f_] rfl rfl (any_of HT_.out (by kernel_rfl)) (fun _ _ _ h => h) (Or.inl ⟨by rfl, ?_⟩) ?_ ?_
           rotate_left
           ·intro w'
            go_simp
            with_reducible rfl
           rotate_left
           ·simp only [Act.put, La_, Lb_, Lc_, i64_w, i32_w]
            rfl
           refine one_ (i := 7) (N := some 44) #[t_,t_,t_,t_,t_,t_,t_,t_,f_,f_] rfl rfl (one_of HT_.out (by kernel_rfl)) (by decide) (fun K hK => ?_)
           refine goes_ Try.func29 (by kernel_rfl) rfl #[.int .i64 (wrap64 (a2 - (t372.size : Int)))] (by rfl) rfl rfl (by (try simp only [List.map_toArray, List.map_cons, List.map_nil]); first | done | rfl | (simp only [ByteArray.size_append]; rfl) | (simp only [List.length_drop, List.length_take]; rfl)) ?_
           with_reducible refine (flagstoneref09_noughts.calls k (wrap64 (a2 - (t372.size : Int))) t378 _ A46.out).mono ?_
           rintro e w' ⟨rfl, ⟨nd, rfl⟩⟩
           refine ⟨_, rfl, ?_⟩
           refine hK.out _ _ ⟨(Bc_ BK377.out 0).trans rfl, (Bc_ BK377.out 1).trans rfl, (Bc_ BK377.out 2).trans rfl, (Bc_ BK377.out 3).trans rfl, (Bc_ BK377.out 4).trans rfl, (Bc_ BK377.out 5).trans rfl, (Bc_ BK377.out 6).trans rfl, (Bc_ BK377.out 7).trans rfl⟩ (fun hHeld => ?_)
           clear hK K
           refine norm_ (a' := ?_) ?_ ?_
           rotate_left
           ·show Act.put _ (some 44) _ = _
            simp only [Act.put, La_, Lb_, Lc_, i64_w, i32_w]
            rfl
           refine pure_ (i := 8) (N := some 45) (v := ?_) (a' := ?_) #[t_,t_,t_,t_,t_,t_,t_,t_,t_,f_] rfl rfl (any_of HT_.out (by kernel_rfl)) (fun _ _ _ h => h) (Or.inl ⟨by rfl, ?_⟩) ?_ ?_
           rotate_left
           ·intro w'
            go_simp
            with_reducible rfl
           rotate_left
           ·simp only [Act.put, La_, Lb_, Lc_, i64_w, i32_w]
            rfl
           refine pure_ (i := 9) (N := some 12) (v := ?_) (a' := ?_) #[t_,t_,t_,t_,t_,t_,t_,t_,t_,t_] rfl rfl (any_of HT_.out (by kernel_rfl)) (fun _ _ _ h => h) (Or.inl ⟨by rfl, ?_⟩) ?_ ?_
           rotate_left
           ·intro w'
            go_simp
            with_reducible rfl
           rotate_left
           ·simp only [Act.put, La_, Lb_, Lc_, i64_w, i32_w]
            rfl
           refine done_ (done_of HT_.out (by kernel_rfl)) ?_
           try go_wp2
           (try (rw [drewN_self w91]; generalize hq_ : World.drewN w91 _ = w91; have n0_ : Aside0 (Kd.V k53 53 w91 w.heap.size (fun k_ => (P0_0_ k_ ∨ w.heap.size ≤ k_) ∧ k_ ≠ gb364 ∧ k_ ≠ gb365 ∧ k_ ≠ gb377) (.slice A0_0 l0_0.length c0_0) l0_0) := ⟨by rw [← hq_]; exact (Pv_ HO0_0.out)⟩; have n1_ : Aside0 (Kd.V k75 75 w91 w.heap.size (fun k_ => (P0_0_ k_ ∨ w.heap.size ≤ k_) ∧ k_ ≠ gb364 ∧ k_ ≠ gb365 ∧ k_ ≠ gb377) (.slice Ao89 t373.length co89) t373) := ⟨by rw [← hq_]; exact (Pv_ HO375.out)⟩; have n2_ : Aside0 (w91.heap[gb364]? = some (.cells #[.slice A0_0 l0_0.length c0_0, .int .i64 a0_1, .int .i64 a0_2] 33 (0, 0))) := ⟨by rw [← hq_]; exact (Pk_ BK364.out)⟩; have n3_ : Aside0 (w91.heap[gb365]? = some (.cells #[.slice none 0 0, .int .i64 0, .int .i64 0] 33 (0, 0))) := ⟨by rw [← hq_]; exact (Pk_ BK365.out)⟩; have n4_ : Aside0 (w91.heap[gb377]? = some (.cells #[.int .i64 t366, .int .i64 t367, .int .i64 t368, .int .i64 t369, .int .i64 t370, .int .i64 t371, .string t372, .slice Ao89 t373.length co89] 53 (0, 0))) := ⟨by rw [← hq_]; exact (Pk_ BK377.out)⟩; have n5_ : Aside0 (Below w.heap.size w w91) := ⟨by rw [← hq_]; exact (Pb3_ HB.out GE364.out GE365.out GE377.out)⟩; clear HO0_0 HO375 BK364 BK365 BK377 HB hq_; have HO0_0 := n0_; have HO375 := n1_; have BK364 := n2_; have BK365 := n3_; have BK377 := n4_; have HB := n5_; clear n0_ n1_ n2_ n3_ n4_ n5_))
           have n0_ := Am_ (Vd_ HO0_0.out)
           have n1_ := Am_ (Vd_ HO375.out)
           have n2_ := Am_ (Bd_ BK364.out)
           have n3_ := Am_ (Bd_ BK365.out)
           have n4_ := Am_ (Bd_ BK377.out)
           have n5_ := Am_ (Pd_ HB.out)
           clear HO0_0
           clear HO375
           clear BK364
           clear BK365
           clear BK377
           clear HB
           have HO0_0 := n0_
           have HO375 := n1_
           have BK364 := n2_
           have BK365 := n3_
           have BK377 := n4_
           have HB := n5_
           clear n0_ n1_ n2_ n3_ n4_ n5_
           refine start_ (n := 15) (S := fun w' => w'.cell? ⟨gb364, 0, none⟩ = some (.slice A0_0 l0_0.length c0_0) ∧ w'.cell? ⟨gb364, 1, none⟩ = some (.int .i64 a0_1) ∧ w'.cell? ⟨gb364, 2, none⟩ = some (.int .i64 a0_2) ∧ w'.cell? ⟨gb377, 0, none⟩ = some (.int .i64 t366) ∧ w'.cell? ⟨gb377, 1, none⟩ = some (.int .i64 t367) ∧ w'.cell? ⟨gb377, 2, none⟩ = some (.int .i64 t368) ∧ w'.cell? ⟨gb377, 3, none⟩ = some (.int .i64 t369) ∧ w'.cell? ⟨gb377, 4, none⟩ = some (.int .i64 t370) ∧ w'.cell? ⟨gb377, 5, none⟩ = some (.int .i64 t371) ∧ w'.cell? ⟨gb377, 6, none⟩ = some (.string t372) ∧ w'.cell? ⟨gb377, 7, none⟩ = some (.slice Ao89 t373.length co89)) (ds := []) #[f_,f_,f_,f_,f_,f_,f_,f_,f_,f_,f_,f_,f_,f_,f_] (by kernel_rfl) rfl rfl ⟨(Bc_ BK364.out 0).trans rfl, (Bc_ BK364.out 1).trans rfl, (Bc_ BK364.out 2).trans rfl, (Bc_ BK377.out 0).trans rfl, (Bc_ BK377.out 1).trans rfl, (Bc_ BK377.out 2).trans rfl, (Bc_ BK377.out 3).trans rfl, (Bc_ BK377.out 4).trans rfl, (Bc_ BK377.out 5).trans rfl, (Bc_ BK377.out 6).trans rfl, (Bc_ BK377.out 7).trans rfl⟩ (fun hHeld => ?_); refine with_tabW flagstoneref09_Write.tab14 flagstoneref09_Write.bits14 (fun HT_ HW_ => ?_)
           generalize w91.drew = w92 at HO0_0 HO375 BK364 BK365 BK377 HB hHeld ⊢
           refine pure_ (i := 1) (N := some 60) (v := ?_) (a' := ?_) #[f_,t_,f_,f_,f_,f_,f_,f_,f_,f_,f_,f_,f_,f_,f_] rfl rfl (any_of HT_.out (by kernel_rfl)) (fun _ _ _ h => h) (Or.inl ⟨by rfl, ?_⟩) ?_ ?_
           rotate_left
           ·intro w'
            go_simp
            with_reducible rfl
           rotate_left
           ·simp only [Act.put, La_, Lb_, Lc_, i64_w, i32_w]
            rfl
           refine pure_ (i := 3) (N := some 62) (v := ?_) (a' := ?_) #[f_,t_,f_,t_,f_,f_,f_,f_,f_,f_,f_,f_,f_,f_,f_] rfl rfl (any_of HT_.out (by kernel_rfl)) (fun _ _ _ h => h) (Or.inl ⟨by rfl, ?_⟩) ?_ ?_
           rotate_left
           ·intro w'
            go_simp
            with_reducible rfl
           rotate_left
           ·simp only [Act.put, La_, Lb_, Lc_, i64_w, i32_w]
            rfl
           refine pure_ (i := 4) (N := some 63) (v := ?_) (a' := ?_) #[f_,t_,f_,t_,t_,f_,f_,f_,f_,f_,f_,f_,f_,f_,f_] rfl rfl (any_of HT_.out (by kernel_rfl)) (fun _ _ _ h => h) (Or.inl ⟨by rfl, ?_⟩) ?_ ?_
           rotate_left
           ·intro w'
            go_simp
            with_reducible rfl
           rotate_left
           ·simp only [Act.put, La_, Lb_, Lc_, i64_w, i32_w]
            rfl
           refine pure_ (i := 5) (N := some 64) (v := ?_) (a' := ?_) #[f_,t_,f_,t_,t_,t_,f_,f_,f_,f_,f_,f_,f_,f_,f_] rfl rfl (any_of HT_.out (by kernel_rfl)) (fun _ _ _ h => h) (Or.inl ⟨by rfl, ?_⟩) ?_ ?_
           rotate_left
           ·intro w'
            go_simp
            with_reducible rfl
           rotate_left
           ·simp only [Act.put, La_, Lb_, Lc_, i64_w, i32_w]
            rfl
           refine pure_ (i := 6) (N := some 65) (v := ?_) (a' := ?_) #[f_,t_,f_,t_,t_,t_,t_,f_,f_,f_,f_,f_,f_,f_,f_] rfl rfl (any_of HT_.out (by kernel_rfl)) (fun _ _ _ h => h) (Or.inl ⟨by rfl, ?_⟩) ?_ ?_
           rotate_left
           ·intro w'
            go_simp
            with_reducible rfl
           rotate_left
           ·simp only [Act.put, La_, Lb_, Lc_, i64_w, i32_w]
            rfl
           refine pure_ (i := 7) (N := some 66) (v := ?_) (a' := ?_) #[f_,t_,f_,t_,t_,t_,t_,t_,f_,f_,f_,f_,f_,f_,f_] rfl rfl (any_of HT_.out (by kernel_rfl)) (fun _ _ _ h => h) (Or.inl ⟨by rfl, ?_⟩) ?_ ?_
           rotate_left
           ·intro w'
            go_simp
            with_reducible rfl
           rotate_left
           ·simp only [Act.put, La_, Lb_, Lc_, i64_w, i32_w]
            rfl
           refine pure_ (i := 8) (N := some 67) (v := ?_) (a' := ?_) #[f_,t_,f_,t_,t_,t_,t_,t_,t_,f_,f_,f_,f_,f_,f_] rfl rfl (any_of HT_.out (by kernel_rfl)) (fun _ _ _ h => h) (Or.inl ⟨by rfl, ?_⟩) ?_ ?_
           rotate_left
           ·intro w'
            go_simp
            with_reducible rfl
           rotate_left
           ·simp only [Act.put, La_, Lb_, Lc_, i64_w, i32_w]
            rfl
           refine pure_ (i := 9) (N := some 68) (v := ?_) (a' := ?_) #[f_,t_,f_,t_,t_,t_,t_,t_,t_,t_,f_,f_,f_,f_,f_] rfl rfl (any_of HT_.out (by kernel_rfl)) (fun _ _ _ h => h) (Or.inl ⟨by rfl, ?_⟩) ?_ ?_
           rotate_left
           ·intro w'
            go_simp
            with_reducible rfl
           rotate_left
           ·simp only [Act.put, La_, Lb_, Lc_, i64_w, i32_w]
            rfl
           refine take_ (i := 0) (N := some 59) (v := ?_) (a' := ?_) #[t_,t_,f_,t_,t_,t_,t_,t_,t_,t_,f_,f_,f_,f_,f_] rfl rfl (take_ofW HT_.out HW_.out (by kernel_rfl)) (fun _ _ _ h => h) (Or.inl ⟨by rfl, ?_⟩) hHeld ?_ ?_
           rotate_left
           ·rintro w' ⟨s0, s1, s2, s3, s4, s5, s6, s7, s8, s9, s10⟩
            go_simp
            with_reducible rfl
           rotate_left
           ·simp only [Act.put, La_, Lb_, Lc_, i64_w, i32_w]
            rfl
           refine take_ (i := 2) (N := some 61) (v := ?_) (a' := ?_) #[t_,t_,t_,t_,t_,t_,t_,t_,t_,t_,f_,f_,f_,f_,f_] rfl rfl (take_ofW HT_.out HW_.out (by kernel_rfl)) (fun _ _ _ h => h) (Or.inl ⟨by rfl, ?_⟩) hHeld ?_ ?_
           rotate_left
           ·rintro w' ⟨s0, s1, s2, s3, s4, s5, s6, s7, s8, s9, s10⟩
            go_simp
            with_reducible rfl
           rotate_left
           ·simp only [Act.put, La_, Lb_, Lc_, i64_w, i32_w]
            rfl
           refine one_ (i := 10) (N := some 69) #[t_,t_,t_,t_,t_,t_,t_,t_,t_,t_,t_,f_,f_,f_,f_] rfl rfl (one_of HT_.out (by kernel_rfl)) (by decide) (fun K hK => ?_)
           refine goes_ Try.func30 (by kernel_rfl) rfl #[.agg #[.slice A0_0 l0_0.length c0_0, .int .i64 a0_1, .int .i64 a0_2], .int .i64 a1, .agg #[.int .i64 t366, .int .i64 t367, .int .i64 t368, .int .i64 t369, .int .i64 t370, .int .i64 t371, .string t372, .slice Ao89 t373.length co89], .string ((((t372 ++ t378).extract 0 (a2 : Int).toNat) ++ a3) ++ (⟨#[]⟩ : ByteArray))] (by rfl) rfl rfl (by (try simp only [List.map_toArray, List.map_cons, List.map_nil]); first | done | rfl | (simp only [ByteArray.size_append]; rfl) | (simp only [List.length_drop, List.length_take]; rfl)) ?_
           with_reducible refine (flagstoneref09_kept.calls k (fun k_ => ((P0_0_ k_ ∨ w.heap.size ≤ k_) ∧ (k_ ≠ gb364 ∧ (k_ ≠ gb365 ∧ k_ ≠ gb377)))) _ _ l0_0 a0_1 a0_2 a1 t366 t367 t368 t369 t370 t371 t372 (fun k_ => ((P0_0_ k_ ∨ w.heap.size ≤ k_) ∧ (k_ ≠ gb364 ∧ (k_ ≠ gb365 ∧ k_ ≠ gb377)))) _ _ t373 ((((t372 ++ t378).extract 0 (a2 : Int).toNat) ++ a3) ++ (⟨#[]⟩ : ByteArray)) t385 t388 t389 t390 _ ?side1 ?side2 A79.out).mono ?_
           (case side1 => exact HO0_0.out)
           (case side2 => exact HO375.out)
           rintro e w93 ⟨v386, rfl, ho0, hb⟩
           refine ⟨_, rfl, ?_⟩
           have n0_ := Am_ (Vb_ (Pv_ HO0_0.out) hb)
           have n1_ := Am_ (Vb_ (Pv_ HO375.out) hb)
           have n2_ := Am_ (Vl_ (Vm_ (ok' := fun k_ => (P0_0_ k_ ∨ w.heap.size ≤ k_) ∧ k_ ≠ gb364 ∧ k_ ≠ gb365 ∧ k_ ≠ gb377) ho0 (fun k_ hk_ => ⟨Or.elim hk_ (fun hs_ => Or.elim hs_ (fun hs_ => hs_.1) (fun hs_ => hs_.1)) (fun hn_ => (.inr (Nat.le_trans (Bz_ (Pb3_ HB.out GE364.out GE365.out GE377.out)) hn_))), Or.elim hk_ (fun hs_ => Or.elim hs_ (fun hs_ => hs_.2.1) (fun hs_ => hs_.2.1)) (fun hn_ => (Kd.freshB (g := gb364) (o := .cells #[.slice A0_0 l0_0.length c0_0, .int .i64 a0_1, .int .i64 a0_2] 33 (0, 0)) (Pk_ BK364.out) k_ hn_)), Or.elim hk_ (fun hs_ => Or.elim hs_ (fun hs_ => hs_.2.2.1) (fun hs_ => hs_.2.2.1)) (fun hn_ => (Kd.freshB (g := gb365) (o := .cells #[.slice none 0 0, .int .i64 0, .int .i64 0] 33 (0, 0)) (Pk_ BK365.out) k_ hn_)), Or.elim hk_ (fun hs_ => Or.elim hs_ (fun hs_ => hs_.2.2.2) (fun hs_ => hs_.2.2.2)) (fun hn_ => (Kd.freshB (g := gb377) (o := .cells #[.int .i64 t366, .int .i64 t367, .int .i64 t368, .int .i64 t369, .int .i64 t370, .int .i64 t371, .string t372, .slice Ao89 t373.length co89] 53 (0, 0)) (Pk_ BK377.out) k_ hn_))⟩)) (Bz_ (Pb3_ HB.out GE364.out GE365.out GE377.out)))
           have n3_ := Am_ (Bb_ (g := gb364) (o := .cells #[.slice A0_0 l0_0.length c0_0, .int .i64 a0_1, .int .i64 a0_2] 33 (0, 0)) (Pk_ BK364.out) hb)
           have n4_ := Am_ (Bb_ (g := gb365) (o := .cells #[.slice none 0 0, .int .i64 0, .int .i64 0] 33 (0, 0)) (Pk_ BK365.out) hb)
           have n5_ := Am_ (Bb_ (g := gb377) (o := .cells #[.int .i64 t366, .int .i64 t367, .int .i64 t368, .int .i64 t369, .int .i64 t370, .int .i64 t371, .string t372, .slice Ao89 t373.length co89] 53 (0, 0)) (Pk_ BK377.out) hb)
           have n6_ := Am_ (Be_ (Pb3_ HB.out GE364.out GE365.out GE377.out) hb)
           clear HO0_0
           clear HO375
           clear BK364
           clear BK365
           clear BK377
           clear HB
           have HO0_0 := n0_
           have HO375 := n1_
           have HO387 := n2_
           have BK364 := n3_
           have BK365 := n4_
           have BK377 := n5_
           have HB := n6_
           clear n0_ n1_ n2_ n3_ n4_ n5_ n6_
           (try clear hb)
           (try clear hb2)
           (try clear hk)
           (try clear hi)
           (try clear ho0)
           obtain ⟨Ao94, co94, eo94⟩ := Vx_ HO387.out
           (first | subst eo94 | (injection eo94 with f1_ f2_ f3_; have f4_ := f1_.symm; have f5_ := f3_.symm; clear f1_ f2_ f3_; subst f4_; subst f5_))
           refine hK.out _ _ ⟨(Bc_ BK364.out 0).trans rfl, (Bc_ BK364.out 1).trans rfl, (Bc_ BK364.out 2).trans rfl, (Bc_ BK377.out 0).trans rfl, (Bc_ BK377.out 1).trans rfl, (Bc_ BK377.out 2).trans rfl, (Bc_ BK377.out 3).trans rfl, (Bc_ BK377.out 4).trans rfl, (Bc_ BK377.out 5).trans rfl, (Bc_ BK377.out 6).trans rfl, (Bc_ BK377.out 7).trans rfl⟩ (fun hHeld => ?_)
           clear hK K
           refine norm_ (a' := ?_) ?_ ?_
           rotate_left
           ·show Act.put _ (some 69) _ = _
            simp only [Act.put, La_, Lb_, Lc_, i64_w, i32_w]
            rfl
           refine pure_ (i := 11) (N := some 70) (v := ?_) (a' := ?_) #[t_,t_,t_,t_,t_,t_,t_,t_,t_,t_,t_,t_,f_,f_,f_] rfl rfl (any_of HT_.out (by kernel_rfl)) (fun _ _ _ h => h) (Or.inl ⟨by rfl, ?_⟩) ?_ ?_
           rotate_left
           ·intro w'
            go_simp
            with_reducible rfl
           rotate_left
           ·simp only [Act.put, La_, Lb_, Lc_, i64_w, i32_w]
            rfl
           refine pure_ (i := 12) (N := some 71) (v := ?_) (a' := ?_) #[t_,t_,t_,t_,t_,t_,t_,t_,t_,t_,t_,t_,t_,f_,f_] rfl rfl (any_of HT_.out (by kernel_rfl)) (fun _ _ _ h => h) (Or.inl ⟨by rfl, ?_⟩) ?_ ?_
           rotate_left
           ·intro w'
            go_simp
            with_reducible rfl
           rotate_left
           ·simp only [Act.put, La_, Lb_, Lc_, i64_w, i32_w]
            rfl
           refine one_ (i := 13) (N := none) #[t_,t_,t_,t_,t_,t_,t_,t_,t_,t_,t_,t_,t_,t_,f_] rfl rfl (one_of HT_.out (by kernel_rfl)) (by decide) (fun K hK => ?_)
           have hs95 : w93.cell? ⟨gb365, 0, none⟩ = some (.slice none 0 0) := (Bc_ BK365.out 0).trans rfl
           have hfs95 := Bf_ BK365.out 0
           have hns95_0 := NB364_365.out
           have hns95_2 := NB377_365.out
           have hms95_0 := NB365_364.out
           have hms95_2 := NB365_377.out
           have hs96 : w93.cell? ⟨gb365, 1, none⟩ = some (.int .i64 0) := (Bc_ BK365.out 1).trans rfl
           have hfs96 := Bf_ BK365.out 1
           have hns96_0 := NB364_365.out
           have hns96_2 := NB377_365.out
           have hms96_0 := NB365_364.out
           have hms96_2 := NB365_377.out
           have hs97 : w93.cell? ⟨gb365, 2, none⟩ = some (.int .i64 0) := (Bc_ BK365.out 2).trans rfl
           have hfs97 := Bf_ BK365.out 2
           have hns97_0 := NB364_365.out
           have hns97_2 := NB377_365.out
           have hms97_0 := NB365_364.out
           have hms97_2 := NB365_377.out
           refine skip_ (w1 := ?_) (by rfl) rfl ?_ ?_
           rotate_left
           ·go_simp
            rfl
           refine hK.out _ _ ⟨((Cf_ (p := ⟨gb365, _, none⟩) NB364_365.out _).trans (((Cf_ (p := ⟨gb365, _, none⟩) NB364_365.out _).trans (((Cf_ (p := ⟨gb365, _, none⟩) NB364_365.out _).trans (hHeld.1)))))), ((Cf_ (p := ⟨gb365, _, none⟩) NB364_365.out _).trans (((Cf_ (p := ⟨gb365, _, none⟩) NB364_365.out _).trans (((Cf_ (p := ⟨gb365, _, none⟩) NB364_365.out _).trans (hHeld.2.1)))))), ((Cf_ (p := ⟨gb365, _, none⟩) NB364_365.out _).trans (((Cf_ (p := ⟨gb365, _, none⟩) NB364_365.out _).trans (((Cf_ (p := ⟨gb365, _, none⟩) NB364_365.out _).trans (hHeld.2.2.1)))))), ((Cf_ (p := ⟨gb365, _, none⟩) NB377_365.out _).trans (((Cf_ (p := ⟨gb365, _, none⟩) NB377_365.out _).trans (((Cf_ (p := ⟨gb365, _, none⟩) NB377_365.out _).trans (hHeld.2.2.2.1)))))), ((Cf_ (p := ⟨gb365, _, none⟩) NB377_365.out _).trans (((Cf_ (p := ⟨gb365, _, none⟩) NB377_365.out _).trans (((Cf_ (p := ⟨gb365, _, none⟩) NB377_365.out _).trans (hHeld.2.2.2.2.1)))))), ((Cf_ (p := ⟨gb365, _, none⟩) NB377_365.out _).trans (((Cf_ (p := ⟨gb365, _, none⟩) NB377_365.out _).trans (((Cf_ (p := ⟨gb365, _, none⟩) NB377_365.out _).trans (hHeld.2.2.2.2.2.1)))))), ((Cf_ (p := ⟨gb365, _, none⟩) NB377_365.out _).trans (((Cf_ (p := ⟨gb365, _, none⟩) NB377_365.out _).trans (((Cf_ (p := ⟨gb365, _, none⟩) NB377_365.out _).trans (hHeld.2.2.2.2.2.2.1)))))), ((Cf_ (p := ⟨gb365, _, none⟩) NB377_365.out _).trans (((Cf_ (p := ⟨gb365, _, none⟩) NB377_365.out _).trans (((Cf_ (p := ⟨gb365, _, none⟩) NB377_365.out _).trans (hHeld.2.2.2.2.2.2.2.1)))))), ((Cf_ (p := ⟨gb365, _, none⟩) NB377_365.out _).trans (((Cf_ (p := ⟨gb365, _, none⟩) NB377_365.out _).trans (((Cf_ (p := ⟨gb365, _, none⟩) NB377_365.out _).trans (hHeld.2.2.2.2.2.2.2.2.1)))))), ((Cf_ (p := ⟨gb365, _, none⟩) NB377_365.out _).trans (((Cf_ (p := ⟨gb365, _, none⟩) NB377_365.out _).trans (((Cf_ (p := ⟨gb365, _, none⟩) NB377_365.out _).trans (hHeld.2.2.2.2.2.2.2.2.2.1)))))), ((Cf_ (p := ⟨gb365, _, none⟩) NB377_365.out _).trans (((Cf_ (p := ⟨gb365, _, none⟩) NB377_365.out _).trans (((Cf_ (p := ⟨gb365, _, none⟩) NB377_365.out _).trans (hHeld.2.2.2.2.2.2.2.2.2.2))))))⟩ (fun hHeld => ?_)
           clear hK K
           refine pure_ (i := 14) (N := some 9) (v := ?_) (a' := ?_) #[t_,t_,t_,t_,t_,t_,t_,t_,t_,t_,t_,t_,t_,t_,t_] rfl rfl (any_of HT_.out (by kernel_rfl)) (fun _ _ _ h => h) (Or.inl ⟨by rfl, ?_⟩) ?_ ?_
           rotate_left
           ·intro w'
            go_simp
            with_reducible rfl
           rotate_left
           ·simp only [Act.put, La_, Lb_, Lc_, i64_w, i32_w]
            rfl
           refine done_ (done_of HT_.out (by kernel_rfl)) ?_
           try go_wp2
           refine bodyPost_ret (results_ct rfl _ _ gb365 33 #[.slice Ao94 t385.length co94, .int .i64 t388, .int .i64 t389] (0, 0) _ rfl (by (with_reducible repeat (first | refine Bn_ ?_ _ | refine Bd_ ?_ | refine Ba_ ?_ _)); refine Bp_ (cs := #[.slice Ao94 t385.length co94, .int .i64 t388, .int .i64 0]) ?_ 2 _ rfl; (with_reducible repeat (first | refine Bn_ ?_ _ | refine Bd_ ?_ | refine Ba_ ?_ _)); refine Bp_ (cs := #[.slice Ao94 t385.length co94, .int .i64 0, .int .i64 0]) ?_ 1 _ rfl; (with_reducible repeat (first | refine Bn_ ?_ _ | refine Bd_ ?_ | refine Ba_ ?_ _)); refine Bp_ (cs := #[.slice none 0 0, .int .i64 0, .int .i64 0]) ?_ 0 _ rfl; (with_reducible repeat (first | refine Bn_ ?_ _ | refine Bd_ ?_ | refine Ba_ ?_ _)); exact BK365.out) Try.underlying33 rfl (by kernel_rfl)) rfl ?_
           exact ⟨_, by first | rfl | (simp [errW_none, errW_some] <;> rfl) | (simp [*, errW_none, errW_some] <;> rfl), by (with_reducible repeat (first | apply Va_ | apply Vn_ | apply Vd_)); exact Vm_ (Vf_ (p := ⟨gb365, 2, none⟩) (Vf_ (p := ⟨gb365, 1, none⟩) (Vf_ (p := ⟨gb365, 0, none⟩) (Vm_ HO387.out (fun k_ hk => (⟨hk, hk.2.2.1⟩ : _ ∧ k_ ≠ gb365))) (fun _ hk => hk.2) (.slice Ao94 t385.length co94)) (fun _ hk => hk.2) (.int .i64 t388)) (fun _ hk => hk.2) (.int .i64 t389)) (fun _ hk => hk.1.1), by repeat (first | (with_reducible first | exact HB.out | apply Pa_ | apply Pn_ | apply Pd_ | refine Bs_ ?_ GE364.out | refine Bs_ ?_ GE365.out | refine Bs_ ?_ GE377.out) | exact HB.out)⟩
          ·rw [if_neg c78] at H
           exact absurd H (by simp)
         ·rw [if_neg c77] at H
          exact absurd H (by simp)
        ·rw [if_neg c76] at H
         exact absurd H (by simp)
       ·rw [if_neg c75] at H
        exact absurd H (by simp)
     ·rw [if_neg c47] at H
      exact absurd H (by simp)
 ·rw [if_neg c6] at H
  have c6b0 : (t376 == 0) = false := beq_eq_false_iff_ne.mpr c6
  have c6b1 : (t376 != 0) = true := bne_iff_ne.mpr c6
  simp only [Option.some.injEq, Prod.mk.injEq] at H
  obtain ⟨rfl, rfl, rfl, rfl⟩ := H
  go_enter Try.func17, Try.ntmps17
  go_wp2_with (first | ((with_reducible refine gate_dst (N := 4) rfl ?_); refine box_event ?hg (N := 4) ?hd (cs := #[.slice A0_0 l0_0.length c0_0, .int .i64 a0_1, .int .i64 a0_2]) (t := 33) ?hr ?_; (case hd => rfl); (case hg => rfl); (case hr => go_simp; try rfl); intro gb364 hg w98 hbox hb; have n0_ := Am_ (Vb_ (Ke_ (Pv_ HO0_0.out) gb364 (Nat.le_of_eq hg.symm)) hb); have n1_ := Am_ (Be_ (Pb0_ HB.out) hb); have n2_ := Am_ (hbox); have n3_ := Am_ ((by rw [hg]; exact (Bz_ (Pb0_ HB.out)) : w.heap.size ≤ gb364)); have n4_ := Am_ ((by rw [hg]; exact (Bz_ (Pb0_ HB.out)) : w.heap.size ≤ gb364)); clear HO0_0; clear HB; have HO0_0 := n0_; have HB := n1_; have BK364 := n2_; have GW364 := n3_; have GE364 := n4_; clear n0_ n1_ n2_ n3_ n4_; clear hb hbox hg) | ((with_reducible refine gate_dst (N := 8) rfl ?_); refine box_event ?hg (N := 8) ?hd (cs := #[.slice none 0 0, .int .i64 0, .int .i64 0]) (t := 33) ?hr ?_; (case hd => rfl); (case hg => rfl); (case hr => go_simp; try rfl); intro gb365 hg w99 hbox hb; have n0_ := Am_ (Vb_ (Ke_ (Pv_ HO0_0.out) gb365 (Nat.le_of_eq hg.symm)) hb); have n1_ := Am_ (Bb_ (g := gb364) (o := .cells #[.slice A0_0 l0_0.length c0_0, .int .i64 a0_1, .int .i64 a0_2] 33 (0, 0)) (Pk_ BK364.out) hb); have n2_ := Am_ (Be_ (Pb1_ HB.out GE364.out) hb); have n3_ := Am_ (hbox); have n4_ := Am_ ((by rw [hg]; exact (Bz_ (Pb1_ HB.out GE364.out)) : w.heap.size ≤ gb365)); have n5_ := Am_ ((by rw [hg]; exact (Bz_ (Pb1_ HB.out GE364.out)) : w.heap.size ≤ gb365)); have n6_ := Am_ ((by rw [hg]; exact Nat.ne_of_lt (blk_lt (g := gb364) (o := .cells #[.slice A0_0 l0_0.length c0_0, .int .i64 a0_1, .int .i64 a0_2] 33 (0, 0)) (Pk_ BK364.out)) : gb364 ≠ gb365)); have n7_ := Am_ ((by rw [hg]; exact Nat.ne_of_gt (blk_lt (g := gb364) (o := .cells #[.slice A0_0 l0_0.length c0_0, .int .i64 a0_1, .int .i64 a0_2] 33 (0, 0)) (Pk_ BK364.out)) : gb365 ≠ gb364)); clear HO0_0; clear BK364; clear HB; have HO0_0 := n0_; have BK364 := n1_; have HB := n2_; have BK365 := n3_; have GW365 := n4_; have GE365 := n5_; have NB364_365 := n6_; have NB365_364 := n7_; clear n0_ n1_ n2_ n3_ n4_ n5_ n6_ n7_; clear hb hbox hg; have hnb100 := NB364_365.out; have hnc100 := NB365_364.out; obtain ⟨hcz101_0, hcz101_1, hcz101_2, hfz101_0, hfz101_1, hfz101_2⟩ := Ce3_ BK364.out) | ((with_reducible refine gate_callee (f := 25) rfl ?_); refine goesL_ (some 17) rfl rfl Try.func25 (by kernel_rfl) rfl #[.agg #[.slice A0_0 l0_0.length c0_0, .int .i64 a0_1, .int .i64 a0_2], .int .i64 a1] rfl (by (try simp only [List.map_toArray, List.map_cons, List.map_nil]); first | done | rfl | (simp only [ByteArray.size_append]; rfl) | (simp only [List.length_drop, List.length_take]; rfl)) ?_; (with_reducible refine (flagstoneref09_file.calls (fun k_ => (((P0_0_ k_ ∨ w.heap.size ≤ k_) ∧ k_ ≠ gb364) ∧ k_ ≠ gb365)) _ _ l0_0 a0_1 a0_2 a1 t366 t367 t368 t369 t370 t371 t372 t373 t376 _ ?side1 A5.out).mono ?_); (case side1 => exact HO0_0.out); rintro e w102 ⟨v374, rfl, ho0, hb⟩; refine ⟨_, rfl, ?_⟩; have n0_ := Am_ (Vb_ (Pv_ HO0_0.out) hb); have n1_ := Am_ (Vl_ (Vm_ (ok' := fun k_ => (P0_0_ k_ ∨ w.heap.size ≤ k_) ∧ k_ ≠ gb364 ∧ k_ ≠ gb365) ho0 (fun k_ hk_ => ⟨Or.elim hk_ (fun hs_ => hs_.1.1) (fun hn_ => (.inr (Nat.le_trans (Bz_ (Pb2_ HB.out GE364.out GE365.out)) hn_))), Or.elim hk_ (fun hs_ => hs_.1.2) (fun hn_ => (Kd.freshB (g := gb364) (o := .cells #[.slice A0_0 l0_0.length c0_0, .int .i64 a0_1, .int .i64 a0_2] 33 (0, 0)) (Pk_ BK364.out) k_ hn_)), Or.elim hk_ (fun hs_ => hs_.2) (fun hn_ => (Kd.freshB (g := gb365) (o := .cells #[.slice none 0 0, .int .i64 0, .int .i64 0] 33 (0, 0)) (Pk_ BK365.out) k_ hn_))⟩)) (Bz_ (Pb2_ HB.out GE364.out GE365.out))); have n2_ := Am_ (Bb_ (g := gb364) (o := .cells #[.slice A0_0 l0_0.length c0_0, .int .i64 a0_1, .int .i64 a0_2] 33 (0, 0)) (Pk_ BK364.out) hb); have n3_ := Am_ (Bb_ (g := gb365) (o := .cells #[.slice none 0 0, .int .i64 0, .int .i64 0] 33 (0, 0)) (Pk_ BK365.out) hb); have n4_ := Am_ (Be_ (Pb2_ HB.out GE364.out GE365.out) hb); clear HO0_0; clear BK364; clear BK365; clear HB; have HO0_0 := n0_; have HO375 := n1_; have BK364 := n2_; have BK365 := n3_; have HB := n4_; clear n0_ n1_ n2_ n3_ n4_; (try clear hb); (try clear hb2); (try clear hk); (try clear hi); (try clear ho0)) | ((with_reducible refine gate_dst (N := 10) rfl ?_); refine box_event ?hg (N := 10) ?hd (cs := #[.int .i64 0, .int .i64 0, .int .i64 0, .int .i64 0, .int .i64 0, .int .i64 0, .string (⟨#[]⟩ : ByteArray), .slice none 0 0]) (t := 53) ?hr ?_; (case hd => rfl); (case hg => rfl); (case hr => go_simp; try rfl); intro gb377 hg w103 hbox hb; have n0_ := Am_ (Vb_ (Ke_ (Pv_ HO0_0.out) gb377 (Nat.le_of_eq hg.symm)) hb); have n1_ := Am_ (Vb_ (Ke_ (Pv_ HO375.out) gb377 (Nat.le_of_eq hg.symm)) hb); have n2_ := Am_ (Bb_ (g := gb364) (o := .cells #[.slice A0_0 l0_0.length c0_0, .int .i64 a0_1, .int .i64 a0_2] 33 (0, 0)) (Pk_ BK364.out) hb); have n3_ := Am_ (Bb_ (g := gb365) (o := .cells #[.slice none 0 0, .int .i64 0, .int .i64 0] 33 (0, 0)) (Pk_ BK365.out) hb); have n4_ := Am_ (Be_ (Pb2_ HB.out GE364.out GE365.out) hb); have n5_ := Am_ (hbox); have n6_ := Am_ ((by rw [hg]; exact (Bz_ (Pb2_ HB.out GE364.out GE365.out)) : w.heap.size ≤ gb377)); have n7_ := Am_ ((by rw [hg]; exact (Bz_ (Pb2_ HB.out GE364.out GE365.out)) : w.heap.size ≤ gb377)); have n8_ := Am_ ((by rw [hg]; exact Nat.ne_of_lt (blk_lt (g := gb364) (o := .cells #[.slice A0_0 l0_0.length c0_0, .int .i64 a0_1, .int .i64 a0_2] 33 (0, 0)) (Pk_ BK364.out)) : gb364 ≠ gb377)); have n9_ := Am_ ((by rw [hg]; exact Nat.ne_of_gt (blk_lt (g := gb364) (o := .cells #[.slice A0_0 l0_0.length c0_0, .int .i64 a0_1, .int .i64 a0_2] 33 (0, 0)) (Pk_ BK364.out)) : gb377 ≠ gb364)); have n10_ := Am_ ((by rw [hg]; exact Nat.ne_of_lt (blk_lt (g := gb365) (o := .cells #[.slice none 0 0, .int .i64 0, .int .i64 0] 33 (0, 0)) (Pk_ BK365.out)) : gb365 ≠ gb377)); have n11_ := Am_ ((by rw [hg]; exact Nat.ne_of_gt (blk_lt (g := gb365) (o := .cells #[.slice none 0 0, .int .i64 0, .int .i64 0] 33 (0, 0)) (Pk_ BK365.out)) : gb377 ≠ gb365)); clear HO0_0; clear HO375; clear BK364; clear BK365; clear HB; have HO0_0 := n0_; have HO375 := n1_; have BK364 := n2_; have BK365 := n3_; have HB := n4_; have BK377 := n5_; have GW377 := n6_; have GE377 := n7_; have NB364_377 := n8_; have NB377_364 := n9_; have NB365_377 := n10_; have NB377_365 := n11_; clear n0_ n1_ n2_ n3_ n4_ n5_ n6_ n7_ n8_ n9_ n10_ n11_; clear hb hbox hg; have hnb104 := NB377_364.out; have hnc104 := NB364_377.out; have hnb105 := NB377_365.out; have hnc105 := NB365_377.out; obtain ⟨hcz106_0, hcz106_1, hcz106_2, hcz106_3, hcz106_4, hcz106_5, hcz106_6, hcz106_7, hfz106_0, hfz106_1, hfz106_2, hfz106_3, hfz106_4, hfz106_5, hfz106_6, hfz106_7⟩ := Ce8_ BK377.out; obtain ⟨Ao107, co107, eo107⟩ := Vx_ HO375.out; subst eo107; obtain ⟨hcz108_0, hcz108_1, hcz108_2, hfz108_0, hfz108_1, hfz108_2⟩ := Ce3_ BK364.out; obtain ⟨hcz109_0, hcz109_1, hcz109_2, hfz109_0, hfz109_1, hfz109_2⟩ := Ce3_ BK365.out))
  refine bodyPost_ret (results_ct rfl _ _ gb365 33 #[.slice A0_0 l0_0.length c0_0, .int .i64 a0_1, .int .i64 a0_2] (0, 0) _ rfl (by (with_reducible repeat (first | refine Bn_ ?_ _ | refine Bd_ ?_ | refine Ba_ ?_ _)); refine Bp_ (cs := #[.slice A0_0 l0_0.length c0_0, .int .i64 a0_1, .int .i64 0]) ?_ 2 _ rfl; (with_reducible repeat (first | refine Bn_ ?_ _ | refine Bd_ ?_ | refine Ba_ ?_ _)); refine Bp_ (cs := #[.slice A0_0 l0_0.length c0_0, .int .i64 0, .int .i64 0]) ?_ 1 _ rfl; (with_reducible repeat (first | refine Bn_ ?_ _ | refine Bd_ ?_ | refine Ba_ ?_ _)); refine Bp_ (cs := #[.slice none 0 0, .int .i64 0, .int .i64 0]) ?_ 0 _ rfl; (with_reducible repeat (first | refine Bn_ ?_ _ | refine Bd_ ?_ | refine Ba_ ?_ _)); refine blk_far ?_ NB365_377.out _; (with_reducible repeat (first | refine Bn_ ?_ _ | refine Bd_ ?_ | refine Ba_ ?_ _)); refine blk_far ?_ NB365_377.out _; (with_reducible repeat (first | refine Bn_ ?_ _ | refine Bd_ ?_ | refine Ba_ ?_ _)); refine blk_far ?_ NB365_377.out _; (with_reducible repeat (first | refine Bn_ ?_ _ | refine Bd_ ?_ | refine Ba_ ?_ _)); refine blk_far ?_ NB365_377.out _; (with_reducible repeat (first | refine Bn_ ?_ _ | refine Bd_ ?_ | refine Ba_ ?_ _)); refine blk_far ?_ NB365_377.out _; (with_reducible repeat (first | refine Bn_ ?_ _ | refine Bd_ ?_ | refine Ba_ ?_ _)); refine blk_far ?_ NB365_377.out _; (with_reducible repeat (first | refine Bn_ ?_ _ | refine Bd_ ?_ | refine Ba_ ?_ _)); refine blk_far ?_ NB365_377.out _; (with_reducible repeat (first | refine Bn_ ?_ _ | refine Bd_ ?_ | refine Ba_ ?_ _)); refine blk_far ?_ NB365_377.out _; (with_reducible repeat (first | refine Bn_ ?_ _ | refine Bd_ ?_ | refine Ba_ ?_ _)); exact BK365.out) Try.underlying33 rfl (by kernel_rfl)) rfl ?_
  exact ⟨_, by first | rfl | (simp [errW_none, errW_some] <;> rfl) | (simp [*, errW_none, errW_some] <;> rfl), by (with_reducible repeat (first | apply Va_ | apply Vn_ | apply Vd_)); exact Vm_ (Vf_ (p := ⟨gb365, 2, none⟩) (Vf_ (p := ⟨gb365, 1, none⟩) (Vf_ (p := ⟨gb365, 0, none⟩) (Vf_ (p := ⟨gb377, 7, none⟩) (Vf_ (p := ⟨gb377, 6, none⟩) (Vf_ (p := ⟨gb377, 5, none⟩) (Vf_ (p := ⟨gb377, 4, none⟩) (Vf_ (p := ⟨gb377, 3, none⟩) (Vf_ (p := ⟨gb377, 2, none⟩) (Vf_ (p := ⟨gb377, 1, none⟩) (Vf_ (p := ⟨gb377, 0, none⟩) (Vm_ (Vm_ HO0_0.out (fun k_ hk => (⟨hk, hk.2⟩ : _ ∧ k_ ≠ gb377))) (fun k_ hk => (⟨hk, hk.1.1.2⟩ : _ ∧ k_ ≠ gb365))) (fun _ hk => hk.1.2) (.int .i64 t366)) (fun _ hk => hk.1.2) (.int .i64 t367)) (fun _ hk => hk.1.2) (.int .i64 t368)) (fun _ hk => hk.1.2) (.int .i64 t369)) (fun _ hk => hk.1.2) (.int .i64 t370)) (fun _ hk => hk.1.2) (.int .i64 t371)) (fun _ hk => hk.1.2) (.string t372)) (fun _ hk => hk.1.2) (.slice Ao107 t373.length co107)) (fun _ hk => hk.2) (.slice A0_0 l0_0.length c0_0)) (fun _ hk => hk.2) (.int .i64 a0_1)) (fun _ hk => hk.2) (.int .i64 a0_2)) (fun _ hk => hk.1.1.1.1.1), by repeat (first | (with_reducible first | exact HB.out | apply Pa_ | apply Pn_ | apply Pd_ | refine Bs_ ?_ GE364.out | refine Bs_ ?_ GE365.out | refine Bs_ ?_ GE377.out) | exact HB.out)⟩

end Go.Proofs.Ytpeelfambaedkaa.P
