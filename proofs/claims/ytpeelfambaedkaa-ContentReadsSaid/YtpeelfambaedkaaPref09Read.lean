-- Printed by a program of this session (inject.py) over the kit's print, with functions that were proved by hand in their places.
import Derived.Test.YtpeelfambaedkaaPK
import Derived.Test.YtpeelfambaedkaaPref09file
namespace Go.Proofs.Ytpeelfambaedkaa.P
open Go.RowKit Go.Proofs.YtpeelfambaedkaaW.PrintWords Go.Proofs.YtpeelfambaedkaaW.PrintLast Go.Proofs.YtpeelfambaedkaaW.PrintMore
attribute [local go_sem] max2_int min2_int max_two min_two max_three min_three max_four min_four   -- for this text's walks alone
set_option linter.unusedVariables false
set_option linter.unusedSimpArgs false

/-! ### flagstoneref09_Read: function 12 -/
def flagstoneref09_Read.j0 : Nat → Int → Int → Bool → Int → Int → Int → Int → Int → Int → ByteArray → List (S75) → Option (ByteArray × Int)
 | 0, _, _, _, _, _, _, _, _, _, _, _ => none
 | k + 1, x2, x3, x27, x206000, x206001, x206002, x206003, x206004, x206005, x206006, x206007 => if x27 = true then (some ((⟨#[]⟩ : ByteArray), 1)) else (if x2 > (x206006.size : Int) then (some ((⟨#[]⟩ : ByteArray), 0)) else (if 0 ≤ x2 then (if x2 ≤ (x206006.size : Int) then (if x3 < ((x206006.extract (x2 : Int).toNat x206006.size).size : Int) then (if 0 ≤ x3 then (if x3 ≤ ((x206006.extract (x2 : Int).toNat x206006.size).size : Int) then (some ((x206006.extract (x2 : Int).toNat x206006.size).extract 0 (x3 : Int).toNat, 0)) else (none)) else (none)) else (some (x206006.extract (x2 : Int).toNat x206006.size, 0))) else (none)) else (none)))
def flagstoneref09_Read.f (k : Nat) (l0_0 : List (S53)) (a0_1 : Int) (a0_2 : Int) (a1 : Int) (a2 : Int) (a3 : Int) : Option (ByteArray × Int) := (flagstoneref09_file.f l0_0 a0_1 a0_2 a1).bind fun bt194 => (if bt194.2.2.2.2.2.2.2.2 = 0 then (if a2 < 0 then (flagstoneref09_Read.j0 k a2 a3 true bt194.1 bt194.2.1 bt194.2.2.1 bt194.2.2.2.1 bt194.2.2.2.2.1 bt194.2.2.2.2.2.1 bt194.2.2.2.2.2.2.1 bt194.2.2.2.2.2.2.2.1) else (flagstoneref09_Read.j0 k a2 a3 (decide (a3 < 0)) bt194.1 bt194.2.1 bt194.2.2.1 bt194.2.2.2.1 bt194.2.2.2.2.1 bt194.2.2.2.2.2.1 bt194.2.2.2.2.2.2.1 bt194.2.2.2.2.2.2.2.1)) else (some ((⟨#[]⟩ : ByteArray), bt194.2.2.2.2.2.2.2.2)))
theorem flagstoneref09_Read.mono_l : ∀ k, (∀ y0 y1 y2 y3 y4 y5 y6 y7 y8 y9 y10, LeO (flagstoneref09_Read.j0 k y0 y1 y2 y3 y4 y5 y6 y7 y8 y9 y10) (flagstoneref09_Read.j0 (k + 1) y0 y1 y2 y3 y4 y5 y6 y7 y8 y9 y10))
 | 0 => fun _ _ _ _ _ _ _ _ _ _ _ r h => by simp [flagstoneref09_Read.j0] at h
 | k + 1 => by
  have ih0 := flagstoneref09_Read.mono_l k
  ·intro y0 y1 y2 y3 y4 y5 y6 y7 y8 y9 y10
   unfold flagstoneref09_Read.j0
   repeat' first
   | (with_reducible exact ih0 _ _ _ _ _ _ _ _ _ _ _)
   | (with_reducible exact LeO.refl _)
   | (with_reducible exact LeO.none _)
   | (with_reducible refine LeO.ite ?_ ?_)
   | (with_reducible refine LeO.bind ?_ (fun _ => ?_))
   | exact ih0 _ _ _ _ _ _ _ _ _ _ _
   | exact LeO.none _
   | refine LeO.ite ?_ ?_
   | refine LeO.bind ?_ (fun _ => ?_)
theorem flagstoneref09_Read.mono : ∀ a0 a1 a2 a3 a4 a5 k, LeO (flagstoneref09_Read.f k a0 a1 a2 a3 a4 a5) (flagstoneref09_Read.f (k + 1) a0 a1 a2 a3 a4 a5) := by
 intro a0 a1 a2 a3 a4 a5 k
 have ih0 := flagstoneref09_Read.mono_l k
 unfold flagstoneref09_Read.f
 repeat' first
   | (with_reducible exact ih0 _ _ _ _ _ _ _ _ _ _ _)
   | (with_reducible exact LeO.refl _)
   | (with_reducible exact LeO.none _)
   | (with_reducible refine LeO.ite ?_ ?_)
   | (with_reducible refine LeO.bind ?_ (fun _ => ?_))
   | exact ih0 _ _ _ _ _ _ _ _ _ _ _
   | exact LeO.none _
   | refine LeO.ite ?_ ?_
   | refine LeO.bind ?_ (fun _ => ?_)
set_option maxHeartbeats 8000000 in
set_option maxRecDepth 100000 in
theorem flagstoneref09_Read.calls (k : Nat) (A0_0 : Option Addr) (c0_0 : Nat) (l0_0 : List (S53)) (a0_1 : Int) (a0_2 : Int) (a1 : Int) (a2 : Int) (a3 : Int) (r1 : ByteArray) (r2 : Int) (w : World) (hr0_0 : Kd.C k53 w A0_0 l0_0.length l0_0) (hc0_0 : l0_0.length ≤ c0_0) (h : flagstoneref09_Read.f k l0_0 a0_1 a0_2 a1 a2 a3 = some (r1, r2)) :
  Calls Try.prog 12 #[.agg #[.slice A0_0 l0_0.length c0_0, .int .i64 a0_1, .int .i64 a0_2], .int .i64 a1, .int .i64 a2, .int .i64 a3] w fun e w' => e = .returned (.tuple #[.string r1, .int .i64 r2]) ∧ Below w.heap.size w w' := by
 have hu33 := Try.underlying33
 have hu53 := Try.underlying53
 have HR0_0 := Am_ hr0_0
 have HC0_0 := Am_ hc0_0
 clear hr0_0 hc0_0
 have HB := Am_ (Below.refl w.heap.size w)
 have H : ((flagstoneref09_file.f l0_0 a0_1 a0_2 a1).bind fun bt194 => (if bt194.2.2.2.2.2.2.2.2 = 0 then (if a2 < 0 then (flagstoneref09_Read.j0 k a2 a3 true bt194.1 bt194.2.1 bt194.2.2.1 bt194.2.2.2.1 bt194.2.2.2.2.1 bt194.2.2.2.2.2.1 bt194.2.2.2.2.2.2.1 bt194.2.2.2.2.2.2.2.1) else (flagstoneref09_Read.j0 k a2 a3 (decide (a3 < 0)) bt194.1 bt194.2.1 bt194.2.2.1 bt194.2.2.2.1 bt194.2.2.2.2.1 bt194.2.2.2.2.2.1 bt194.2.2.2.2.2.2.1 bt194.2.2.2.2.2.2.2.1)) else (some ((⟨#[]⟩ : ByteArray), bt194.2.2.2.2.2.2.2.2)))) = some (r1, r2) := h
 clear h
 replace H := Option.bind_eq_some_iff.mp H
 obtain ⟨⟨t194, t195, t196, t197, t198, t199, t200, t201, t204⟩, A50, H⟩ := H
 replace H : (if t204 = 0 then (if a2 < 0 then (flagstoneref09_Read.j0 k a2 a3 true t194 t195 t196 t197 t198 t199 t200 t201) else (flagstoneref09_Read.j0 k a2 a3 (decide (a3 < 0)) t194 t195 t196 t197 t198 t199 t200 t201)) else (some ((⟨#[]⟩ : ByteArray), t204))) = some (r1, r2) := H
 have A5 := Am_ A50
 clear A50
 by_cases c6 : t204 = 0
 ·rw [if_pos c6] at H
  have c6b0 : (t204 == 0) = true := beq_iff_eq.mpr c6
  have c6b1 : (t204 != 0) = false := bne_eq_false_iff_eq.mpr c6
  clear c6
  have HC7 := Am_ H
  clear H
  go_enter Try.func12, Try.ntmps12
  go_upto_region 4 with (first | ((with_reducible refine gate_dst (N := 4) rfl ?_); refine box_event ?hg (N := 4) ?hd (cs := #[.slice A0_0 l0_0.length c0_0, .int .i64 a0_1, .int .i64 a0_2]) (t := 33) ?hr ?_; (case hd => rfl); (case hg => rfl); (case hr => first | (go_simp; done) | (go_simp; rfl)); intro gb193 hg w8 hbox hb; have n0_ := Am_ (Be_ (by repeat (first | (with_reducible first | exact HB.out | apply Pa_ | apply Pn_ | apply Pd_) | exact HB.out)) hb); have n1_ := Am_ (hbox); have n2_ := Am_ ((by rw [hg]; exact (Bz_ (by repeat (first | (with_reducible first | exact HB.out | apply Pa_ | apply Pn_ | apply Pd_) | exact HB.out))) : w.heap.size ≤ gb193)); have n3_ := Am_ ((by rw [hg]; exact (Bz_ (by repeat (first | (with_reducible first | exact HB.out | apply Pa_ | apply Pn_ | apply Pd_) | exact HB.out))) : w.heap.size ≤ gb193)); clear HB; have HB := n0_; have BK193 := n1_; have GW193 := n2_; have GE193 := n3_; clear n0_ n1_ n2_ n3_; clear hb hbox hg; have hcz9_0 : w8.cell? ⟨gb193, 0, none⟩ = some (.slice A0_0 l0_0.length c0_0) := (Bc_ BK193.out 0).trans rfl; have hcz9_1 : w8.cell? ⟨gb193, 1, none⟩ = some (.int .i64 a0_1) := (Bc_ BK193.out 1).trans rfl; have hcz9_2 : w8.cell? ⟨gb193, 2, none⟩ = some (.int .i64 a0_2) := (Bc_ BK193.out 2).trans rfl; have hfz9_0 := Bf_ BK193.out 0; have hfz9_1 := Bf_ BK193.out 1; have hfz9_2 := Bf_ BK193.out 2) | ((with_reducible refine gate_callee (f := 25) rfl ?_); refine goesL_ (some 16) rfl rfl Try.func25 (by kernel_rfl) rfl #[.agg #[.slice A0_0 l0_0.length c0_0, .int .i64 a0_1, .int .i64 a0_2], .int .i64 a1] rfl (by (try simp only [List.map_toArray, List.map_cons, List.map_nil]); first | done | rfl | (simp only [List.length_drop, List.length_take]; rfl)) ?_; (with_reducible refine (flagstoneref09_file.calls (fun k_ => k_ < w.heap.size) _ _ l0_0 a0_1 a0_2 a1 t194 t195 t196 t197 t198 t199 t200 t201 t204 _ ?side1 A5.out).mono ?_); (case side1 => exact Kd.V_mk HC0_0.out (Kd.F_below (Kd.C_F k53_heap HR0_0.out) (by repeat (first | (with_reducible first | exact HB.out | apply Pa_ | apply Pn_ | apply Pd_ | refine Bs_ ?_ GE193.out) | exact HB.out)))); rintro e w10 ⟨v202, rfl, ho0, hb⟩; refine ⟨_, rfl, ?_⟩; have n0_ := Am_ (Vl_ (Vm_ (ok' := fun k_ => k_ ≠ gb193) ho0 (fun k_ hk_ => Or.elim hk_ (fun hs_ => fun e_ => Nat.not_le.2 hs_ (by rw [e_]; exact GW193.out)) (fun hn_ => (Kd.freshB (g := gb193) (o := .cells #[.slice A0_0 l0_0.length c0_0, .int .i64 a0_1, .int .i64 a0_2] 33 (0, 0)) (by (with_reducible repeat (first | refine Bn_ ?_ _ | refine Bd_ ?_ | refine Ba_ ?_ _)); exact BK193.out) k_ hn_)))) (Bz_ (by repeat (first | (with_reducible first | exact HB.out | apply Pa_ | apply Pn_ | apply Pd_ | refine Bs_ ?_ GE193.out) | exact HB.out)))); have n1_ := Am_ (Bb_ (g := gb193) (o := .cells #[.slice A0_0 l0_0.length c0_0, .int .i64 a0_1, .int .i64 a0_2] 33 (0, 0)) (by (with_reducible repeat (first | refine Bn_ ?_ _ | refine Bd_ ?_ | refine Ba_ ?_ _)); exact BK193.out) hb); have n2_ := Am_ (Be_ (by repeat (first | (with_reducible first | exact HB.out | apply Pa_ | apply Pn_ | apply Pd_ | refine Bs_ ?_ GE193.out) | exact HB.out)) hb); clear BK193; clear HB; have HO203 := n0_; have BK193 := n1_; have HB := n2_; clear n0_ n1_ n2_; (try clear hb); (try clear hb2); (try clear hk); (try clear hi); (try clear ho0)) | ((with_reducible refine gate_dst (N := 10) rfl ?_); refine box_event ?hg (N := 10) ?hd (cs := #[.int .i64 0, .int .i64 0, .int .i64 0, .int .i64 0, .int .i64 0, .int .i64 0, .string (⟨#[]⟩ : ByteArray), .slice none 0 0]) (t := 53) ?hr ?_; (case hd => rfl); (case hg => rfl); (case hr => first | (go_simp; done) | (go_simp; rfl)); intro gb205 hg w11 hbox hb; have n0_ := Am_ (Vb_ (Ke_ (by (with_reducible repeat (first | apply Va_ | apply Vn_ | apply Vd_)); exact HO203.out) gb205 (Nat.le_of_eq hg.symm)) hb); have n1_ := Am_ (Bb_ (g := gb193) (o := .cells #[.slice A0_0 l0_0.length c0_0, .int .i64 a0_1, .int .i64 a0_2] 33 (0, 0)) (by (with_reducible repeat (first | refine Bn_ ?_ _ | refine Bd_ ?_ | refine Ba_ ?_ _)); exact BK193.out) hb); have n2_ := Am_ (Be_ (by repeat (first | (with_reducible first | exact HB.out | apply Pa_ | apply Pn_ | apply Pd_ | refine Bs_ ?_ GE193.out) | exact HB.out)) hb); have n3_ := Am_ (hbox); have n4_ := Am_ ((by rw [hg]; exact (Bz_ (by repeat (first | (with_reducible first | exact HB.out | apply Pa_ | apply Pn_ | apply Pd_ | refine Bs_ ?_ GE193.out) | exact HB.out))) : w.heap.size ≤ gb205)); have n5_ := Am_ ((by rw [hg]; exact (Bz_ (by repeat (first | (with_reducible first | exact HB.out | apply Pa_ | apply Pn_ | apply Pd_ | refine Bs_ ?_ GE193.out) | exact HB.out))) : w.heap.size ≤ gb205)); have n6_ := Am_ ((by rw [hg]; exact Nat.ne_of_lt (blk_lt (g := gb193) (o := .cells #[.slice A0_0 l0_0.length c0_0, .int .i64 a0_1, .int .i64 a0_2] 33 (0, 0)) (by (with_reducible repeat (first | refine Bn_ ?_ _ | refine Bd_ ?_ | refine Ba_ ?_ _)); exact BK193.out)) : gb193 ≠ gb205)); have n7_ := Am_ ((by rw [hg]; exact Nat.ne_of_gt (blk_lt (g := gb193) (o := .cells #[.slice A0_0 l0_0.length c0_0, .int .i64 a0_1, .int .i64 a0_2] 33 (0, 0)) (by (with_reducible repeat (first | refine Bn_ ?_ _ | refine Bd_ ?_ | refine Ba_ ?_ _)); exact BK193.out)) : gb205 ≠ gb193)); clear HO203; clear BK193; clear HB; have HO203 := n0_; have BK193 := n1_; have HB := n2_; have BK205 := n3_; have GW205 := n4_; have GE205 := n5_; have NB193_205 := n6_; have NB205_193 := n7_; clear n0_ n1_ n2_ n3_ n4_ n5_ n6_ n7_; clear hb hbox hg; have hnb12 := NB205_193.out; have hnc12 := NB193_205.out; have hcz13_0 : w11.cell? ⟨gb205, 0, none⟩ = some (.int .i64 0) := (Bc_ BK205.out 0).trans rfl; have hcz13_1 : w11.cell? ⟨gb205, 1, none⟩ = some (.int .i64 0) := (Bc_ BK205.out 1).trans rfl; have hcz13_2 : w11.cell? ⟨gb205, 2, none⟩ = some (.int .i64 0) := (Bc_ BK205.out 2).trans rfl; have hcz13_3 : w11.cell? ⟨gb205, 3, none⟩ = some (.int .i64 0) := (Bc_ BK205.out 3).trans rfl; have hcz13_4 : w11.cell? ⟨gb205, 4, none⟩ = some (.int .i64 0) := (Bc_ BK205.out 4).trans rfl; have hcz13_5 : w11.cell? ⟨gb205, 5, none⟩ = some (.int .i64 0) := (Bc_ BK205.out 5).trans rfl; have hcz13_6 : w11.cell? ⟨gb205, 6, none⟩ = some (.string (⟨#[]⟩ : ByteArray)) := (Bc_ BK205.out 6).trans rfl; have hcz13_7 : w11.cell? ⟨gb205, 7, none⟩ = some (.slice none 0 0) := (Bc_ BK205.out 7).trans rfl; have hfz13_0 := Bf_ BK205.out 0; have hfz13_1 := Bf_ BK205.out 1; have hfz13_2 := Bf_ BK205.out 2; have hfz13_3 := Bf_ BK205.out 3; have hfz13_4 := Bf_ BK205.out 4; have hfz13_5 := Bf_ BK205.out 5; have hfz13_6 := Bf_ BK205.out 6; have hfz13_7 := Bf_ BK205.out 7; obtain ⟨Ao14, co14, eo14⟩ := Vx_ HO203.out; subst eo14))
  (try simp only [Act.put, La_, Lb_, Lc_])
  go_cut [27] (fun v27 wc => ∃ (kq : Nat) (x27_6 : Bool), v27 = .bool x27_6 ∧ Aside0 (flagstoneref09_Read.j0 kq a2 a3 x27_6 t194 t195 t196 t197 t198 t199 t200 t201 = some (r1, r2)) ∧ Aside0 (kq ≤ k) ∧ Aside0 (Kd.V k75 75 wc w.heap.size (fun k_ => k_ ≠ gb193 ∧ k_ ≠ gb205) (.slice Ao14 t201.length co14) t201) ∧ Aside0 (wc.heap[gb193]? = some (.cells #[(.slice A0_0 l0_0.length c0_0), .int .i64 a0_1, .int .i64 a0_2] 33 (0, 0))) ∧ Aside0 (wc.heap[gb205]? = some (.cells #[.int .i64 t194, .int .i64 t195, .int .i64 t196, .int .i64 t197, .int .i64 t198, .int .i64 t199, .string t200, (.slice Ao14 t201.length co14)] 53 (0, 0))) ∧ Aside0 (Below w.heap.size w wc))
  case first =>
   have H := HC7.out
   clear HC7
   by_cases c15 : a2 < 0
   ·rw [if_pos c15] at H
    have c15b0 : decide (a2 < 0) = true := Dt_ c15
    clear c15
    (first | rw [c15b0] | (simp only [i64_w, i32_w]; rw [c15b0]) | skip)
    have H' := Am_ H
    clear H
    go_wp2
    go_meet
    case rel => exact ⟨_, (true), (by first | rfl | (simp; done) | (simp [*]; done)), H', ⟨by first | omega | exact Nat.le_refl _⟩, ⟨by (with_reducible repeat (first | apply Va_ | apply Vn_ | apply Vd_)); exact Vm_ (Vf_ (p := ⟨gb205, 7, none⟩) (Vf_ (p := ⟨gb205, 6, none⟩) (Vf_ (p := ⟨gb205, 5, none⟩) (Vf_ (p := ⟨gb205, 4, none⟩) (Vf_ (p := ⟨gb205, 3, none⟩) (Vf_ (p := ⟨gb205, 2, none⟩) (Vf_ (p := ⟨gb205, 1, none⟩) (Vf_ (p := ⟨gb205, 0, none⟩) (Vm_ HO203.out (fun k_ hk => (⟨hk, hk.2⟩ : _ ∧ k_ ≠ gb205))) (fun _ hk => hk.2) (.int .i64 t194)) (fun _ hk => hk.2) (.int .i64 t195)) (fun _ hk => hk.2) (.int .i64 t196)) (fun _ hk => hk.2) (.int .i64 t197)) (fun _ hk => hk.2) (.int .i64 t198)) (fun _ hk => hk.2) (.int .i64 t199)) (fun _ hk => hk.2) (.string t200)) (fun _ hk => hk.2) (.slice Ao14 t201.length co14)) (fun _ hk => ⟨hk.1.1, hk.1.2⟩)⟩, ⟨by (with_reducible repeat (first | refine Bn_ ?_ _ | refine Bd_ ?_ | refine Ba_ ?_ _)); refine blk_far ?_ NB193_205.out _; (with_reducible repeat (first | refine Bn_ ?_ _ | refine Bd_ ?_ | refine Ba_ ?_ _)); refine blk_far ?_ NB193_205.out _; (with_reducible repeat (first | refine Bn_ ?_ _ | refine Bd_ ?_ | refine Ba_ ?_ _)); refine blk_far ?_ NB193_205.out _; (with_reducible repeat (first | refine Bn_ ?_ _ | refine Bd_ ?_ | refine Ba_ ?_ _)); refine blk_far ?_ NB193_205.out _; (with_reducible repeat (first | refine Bn_ ?_ _ | refine Bd_ ?_ | refine Ba_ ?_ _)); refine blk_far ?_ NB193_205.out _; (with_reducible repeat (first | refine Bn_ ?_ _ | refine Bd_ ?_ | refine Ba_ ?_ _)); refine blk_far ?_ NB193_205.out _; (with_reducible repeat (first | refine Bn_ ?_ _ | refine Bd_ ?_ | refine Ba_ ?_ _)); refine blk_far ?_ NB193_205.out _; (with_reducible repeat (first | refine Bn_ ?_ _ | refine Bd_ ?_ | refine Ba_ ?_ _)); refine blk_far ?_ NB193_205.out _; (with_reducible repeat (first | refine Bn_ ?_ _ | refine Bd_ ?_ | refine Ba_ ?_ _)); exact BK193.out⟩, ⟨by (with_reducible repeat (first | refine Bn_ ?_ _ | refine Bd_ ?_ | refine Ba_ ?_ _)); refine Bp_ (cs := #[.int .i64 t194, .int .i64 t195, .int .i64 t196, .int .i64 t197, .int .i64 t198, .int .i64 t199, .string t200, .slice none 0 0]) ?_ 7 _ rfl; (with_reducible repeat (first | refine Bn_ ?_ _ | refine Bd_ ?_ | refine Ba_ ?_ _)); refine Bp_ (cs := #[.int .i64 t194, .int .i64 t195, .int .i64 t196, .int .i64 t197, .int .i64 t198, .int .i64 t199, .string (⟨#[]⟩ : ByteArray), .slice none 0 0]) ?_ 6 _ rfl; (with_reducible repeat (first | refine Bn_ ?_ _ | refine Bd_ ?_ | refine Ba_ ?_ _)); refine Bp_ (cs := #[.int .i64 t194, .int .i64 t195, .int .i64 t196, .int .i64 t197, .int .i64 t198, .int .i64 0, .string (⟨#[]⟩ : ByteArray), .slice none 0 0]) ?_ 5 _ rfl; (with_reducible repeat (first | refine Bn_ ?_ _ | refine Bd_ ?_ | refine Ba_ ?_ _)); refine Bp_ (cs := #[.int .i64 t194, .int .i64 t195, .int .i64 t196, .int .i64 t197, .int .i64 0, .int .i64 0, .string (⟨#[]⟩ : ByteArray), .slice none 0 0]) ?_ 4 _ rfl; (with_reducible repeat (first | refine Bn_ ?_ _ | refine Bd_ ?_ | refine Ba_ ?_ _)); refine Bp_ (cs := #[.int .i64 t194, .int .i64 t195, .int .i64 t196, .int .i64 0, .int .i64 0, .int .i64 0, .string (⟨#[]⟩ : ByteArray), .slice none 0 0]) ?_ 3 _ rfl; (with_reducible repeat (first | refine Bn_ ?_ _ | refine Bd_ ?_ | refine Ba_ ?_ _)); refine Bp_ (cs := #[.int .i64 t194, .int .i64 t195, .int .i64 0, .int .i64 0, .int .i64 0, .int .i64 0, .string (⟨#[]⟩ : ByteArray), .slice none 0 0]) ?_ 2 _ rfl; (with_reducible repeat (first | refine Bn_ ?_ _ | refine Bd_ ?_ | refine Ba_ ?_ _)); refine Bp_ (cs := #[.int .i64 t194, .int .i64 0, .int .i64 0, .int .i64 0, .int .i64 0, .int .i64 0, .string (⟨#[]⟩ : ByteArray), .slice none 0 0]) ?_ 1 _ rfl; (with_reducible repeat (first | refine Bn_ ?_ _ | refine Bd_ ?_ | refine Ba_ ?_ _)); refine Bp_ (cs := #[.int .i64 0, .int .i64 0, .int .i64 0, .int .i64 0, .int .i64 0, .int .i64 0, .string (⟨#[]⟩ : ByteArray), .slice none 0 0]) ?_ 0 _ rfl; (with_reducible repeat (first | refine Bn_ ?_ _ | refine Bd_ ?_ | refine Ba_ ?_ _)); exact BK205.out⟩, ⟨by repeat (first | (with_reducible first | exact HB.out | apply Pa_ | apply Pn_ | apply Pd_ | refine Bs_ ?_ GE193.out | refine Bs_ ?_ GE205.out) | exact HB.out)⟩⟩
   ·rw [if_neg c15] at H
    have c15b0 : decide (a2 < 0) = false := Df_ c15
    clear c15
    (first | rw [c15b0] | (simp only [i64_w, i32_w]; rw [c15b0]) | skip)
    have H' := Am_ H
    clear H
    go_wp2
    go_meet
    case rel => exact ⟨_, (decide (a3 < 0)), (by first | rfl | (simp; done) | (simp [*]; done)), H', ⟨by first | omega | exact Nat.le_refl _⟩, ⟨by (with_reducible repeat (first | apply Va_ | apply Vn_ | apply Vd_)); exact Vm_ (Vf_ (p := ⟨gb205, 7, none⟩) (Vf_ (p := ⟨gb205, 6, none⟩) (Vf_ (p := ⟨gb205, 5, none⟩) (Vf_ (p := ⟨gb205, 4, none⟩) (Vf_ (p := ⟨gb205, 3, none⟩) (Vf_ (p := ⟨gb205, 2, none⟩) (Vf_ (p := ⟨gb205, 1, none⟩) (Vf_ (p := ⟨gb205, 0, none⟩) (Vm_ HO203.out (fun k_ hk => (⟨hk, hk.2⟩ : _ ∧ k_ ≠ gb205))) (fun _ hk => hk.2) (.int .i64 t194)) (fun _ hk => hk.2) (.int .i64 t195)) (fun _ hk => hk.2) (.int .i64 t196)) (fun _ hk => hk.2) (.int .i64 t197)) (fun _ hk => hk.2) (.int .i64 t198)) (fun _ hk => hk.2) (.int .i64 t199)) (fun _ hk => hk.2) (.string t200)) (fun _ hk => hk.2) (.slice Ao14 t201.length co14)) (fun _ hk => ⟨hk.1.1, hk.1.2⟩)⟩, ⟨by (with_reducible repeat (first | refine Bn_ ?_ _ | refine Bd_ ?_ | refine Ba_ ?_ _)); refine blk_far ?_ NB193_205.out _; (with_reducible repeat (first | refine Bn_ ?_ _ | refine Bd_ ?_ | refine Ba_ ?_ _)); refine blk_far ?_ NB193_205.out _; (with_reducible repeat (first | refine Bn_ ?_ _ | refine Bd_ ?_ | refine Ba_ ?_ _)); refine blk_far ?_ NB193_205.out _; (with_reducible repeat (first | refine Bn_ ?_ _ | refine Bd_ ?_ | refine Ba_ ?_ _)); refine blk_far ?_ NB193_205.out _; (with_reducible repeat (first | refine Bn_ ?_ _ | refine Bd_ ?_ | refine Ba_ ?_ _)); refine blk_far ?_ NB193_205.out _; (with_reducible repeat (first | refine Bn_ ?_ _ | refine Bd_ ?_ | refine Ba_ ?_ _)); refine blk_far ?_ NB193_205.out _; (with_reducible repeat (first | refine Bn_ ?_ _ | refine Bd_ ?_ | refine Ba_ ?_ _)); refine blk_far ?_ NB193_205.out _; (with_reducible repeat (first | refine Bn_ ?_ _ | refine Bd_ ?_ | refine Ba_ ?_ _)); refine blk_far ?_ NB193_205.out _; (with_reducible repeat (first | refine Bn_ ?_ _ | refine Bd_ ?_ | refine Ba_ ?_ _)); exact BK193.out⟩, ⟨by (with_reducible repeat (first | refine Bn_ ?_ _ | refine Bd_ ?_ | refine Ba_ ?_ _)); refine Bp_ (cs := #[.int .i64 t194, .int .i64 t195, .int .i64 t196, .int .i64 t197, .int .i64 t198, .int .i64 t199, .string t200, .slice none 0 0]) ?_ 7 _ rfl; (with_reducible repeat (first | refine Bn_ ?_ _ | refine Bd_ ?_ | refine Ba_ ?_ _)); refine Bp_ (cs := #[.int .i64 t194, .int .i64 t195, .int .i64 t196, .int .i64 t197, .int .i64 t198, .int .i64 t199, .string (⟨#[]⟩ : ByteArray), .slice none 0 0]) ?_ 6 _ rfl; (with_reducible repeat (first | refine Bn_ ?_ _ | refine Bd_ ?_ | refine Ba_ ?_ _)); refine Bp_ (cs := #[.int .i64 t194, .int .i64 t195, .int .i64 t196, .int .i64 t197, .int .i64 t198, .int .i64 0, .string (⟨#[]⟩ : ByteArray), .slice none 0 0]) ?_ 5 _ rfl; (with_reducible repeat (first | refine Bn_ ?_ _ | refine Bd_ ?_ | refine Ba_ ?_ _)); refine Bp_ (cs := #[.int .i64 t194, .int .i64 t195, .int .i64 t196, .int .i64 t197, .int .i64 0, .int .i64 0, .string (⟨#[]⟩ : ByteArray), .slice none 0 0]) ?_ 4 _ rfl; (with_reducible repeat (first | refine Bn_ ?_ _ | refine Bd_ ?_ | refine Ba_ ?_ _)); refine Bp_ (cs := #[.int .i64 t194, .int .i64 t195, .int .i64 t196, .int .i64 0, .int .i64 0, .int .i64 0, .string (⟨#[]⟩ : ByteArray), .slice none 0 0]) ?_ 3 _ rfl; (with_reducible repeat (first | refine Bn_ ?_ _ | refine Bd_ ?_ | refine Ba_ ?_ _)); refine Bp_ (cs := #[.int .i64 t194, .int .i64 t195, .int .i64 0, .int .i64 0, .int .i64 0, .int .i64 0, .string (⟨#[]⟩ : ByteArray), .slice none 0 0]) ?_ 2 _ rfl; (with_reducible repeat (first | refine Bn_ ?_ _ | refine Bd_ ?_ | refine Ba_ ?_ _)); refine Bp_ (cs := #[.int .i64 t194, .int .i64 0, .int .i64 0, .int .i64 0, .int .i64 0, .int .i64 0, .string (⟨#[]⟩ : ByteArray), .slice none 0 0]) ?_ 1 _ rfl; (with_reducible repeat (first | refine Bn_ ?_ _ | refine Bd_ ?_ | refine Ba_ ?_ _)); refine Bp_ (cs := #[.int .i64 0, .int .i64 0, .int .i64 0, .int .i64 0, .int .i64 0, .int .i64 0, .string (⟨#[]⟩ : ByteArray), .slice none 0 0]) ?_ 0 _ rfl; (with_reducible repeat (first | refine Bn_ ?_ _ | refine Bd_ ?_ | refine Ba_ ?_ _)); exact BK205.out⟩, ⟨by repeat (first | (with_reducible first | exact HB.out | apply Pa_ | apply Pn_ | apply Pd_ | refine Bs_ ?_ GE193.out | refine Bs_ ?_ GE205.out) | exact HB.out)⟩⟩
  case rest =>
   clear HC7
   try clear c1
   try clear c2
   try clear p2
   try clear c6
   try clear c6b0
   try clear c6b1
   try clear c12
   try clear c15
   try clear c15b0
   try clear hcz13_0
   try clear hcz13_1
   try clear hcz13_2
   try clear hcz13_3
   try clear hcz13_4
   try clear hcz13_5
   try clear hcz13_6
   try clear hcz13_7
   try clear hcz9_0
   try clear hcz9_1
   try clear hcz9_2
   try clear hfz13_0
   try clear hfz13_1
   try clear hfz13_2
   try clear hfz13_3
   try clear hfz13_4
   try clear hfz13_5
   try clear hfz13_6
   try clear hfz13_7
   try clear hfz9_0
   try clear hfz9_1
   try clear hfz9_2
   obtain ⟨kq, x27_6, rfl, HA, HJ6, HO_206007, BK193, BK205, HB⟩ := hcut
   cases kq with
   | zero => exact absurd HA.out (by simp [flagstoneref09_Read.j0])
   | succ kj6 =>
    have H := HA.out
    clear HA
    simp only [flagstoneref09_Read.j0] at H
    by_cases c16 : x27_6 = true
    ·subst c16
     have H1 : (some ((⟨#[]⟩ : ByteArray), 1)) = some (r1, r2) := by rw [if_pos rfl] at H; exact H
     clear H
     have H := H1
     clear H1
     simp only [Option.some.injEq, Prod.mk.injEq] at H
     obtain ⟨rfl, rfl⟩ := H
     go_wp2
     go_ret2
     exact ⟨by first | rfl | (simp [errW_none, errW_some] <;> rfl) | (simp [*, errW_none, errW_some] <;> rfl), by repeat (first | (with_reducible first | exact HB.out | apply Pa_ | apply Pn_ | apply Pd_ | refine Bs_ ?_ GE193.out | refine Bs_ ?_ GE205.out) | exact HB.out)⟩
    ·replace c16 := Bool.eq_false_iff.mpr c16
     subst c16
     have H1 : (if a2 > (t200.size : Int) then (some ((⟨#[]⟩ : ByteArray), 0)) else (if 0 ≤ a2 then (if a2 ≤ (t200.size : Int) then (if a3 < ((t200.extract (a2 : Int).toNat t200.size).size : Int) then (if 0 ≤ a3 then (if a3 ≤ ((t200.extract (a2 : Int).toNat t200.size).size : Int) then (some ((t200.extract (a2 : Int).toNat t200.size).extract 0 (a3 : Int).toNat, 0)) else (none)) else (none)) else (some (t200.extract (a2 : Int).toNat t200.size, 0))) else (none)) else (none))) = some (r1, r2) := by rw [if_neg (show ¬ (false = true) by decide)] at H; exact H
     clear H
     have H := H1
     clear H1
     by_cases c17 : a2 > (t200.size : Int)
     ·rw [if_pos c17] at H
      have c17b0 : decide ((t200.size : Int) < a2) = true := Dt_ c17
      clear c17
      simp only [Option.some.injEq, Prod.mk.injEq] at H
      obtain ⟨rfl, rfl⟩ := H
      have hnb18 := NB205_193.out
      have hnc18 := NB193_205.out
      have hcz19_0 : wc.cell? ⟨gb205, 0, none⟩ = some (.int .i64 t194) := (Bc_ BK205.out 0).trans rfl
      have hcz19_1 : wc.cell? ⟨gb205, 1, none⟩ = some (.int .i64 t195) := (Bc_ BK205.out 1).trans rfl
      have hcz19_2 : wc.cell? ⟨gb205, 2, none⟩ = some (.int .i64 t196) := (Bc_ BK205.out 2).trans rfl
      have hcz19_3 : wc.cell? ⟨gb205, 3, none⟩ = some (.int .i64 t197) := (Bc_ BK205.out 3).trans rfl
      have hcz19_4 : wc.cell? ⟨gb205, 4, none⟩ = some (.int .i64 t198) := (Bc_ BK205.out 4).trans rfl
      have hcz19_5 : wc.cell? ⟨gb205, 5, none⟩ = some (.int .i64 t199) := (Bc_ BK205.out 5).trans rfl
      have hcz19_6 : wc.cell? ⟨gb205, 6, none⟩ = some (.string t200) := (Bc_ BK205.out 6).trans rfl
      have hcz19_7 : wc.cell? ⟨gb205, 7, none⟩ = some (.slice Ao14 t201.length co14) := (Bc_ BK205.out 7).trans rfl
      have hfz19_0 := Bf_ BK205.out 0
      have hfz19_1 := Bf_ BK205.out 1
      have hfz19_2 := Bf_ BK205.out 2
      have hfz19_3 := Bf_ BK205.out 3
      have hfz19_4 := Bf_ BK205.out 4
      have hfz19_5 := Bf_ BK205.out 5
      have hfz19_6 := Bf_ BK205.out 6
      have hfz19_7 := Bf_ BK205.out 7
      go_wp2
      go_ret2
      exact ⟨by first | rfl | (simp [errW_none, errW_some] <;> rfl) | (simp [*, errW_none, errW_some] <;> rfl), by repeat (first | (with_reducible first | exact HB.out | apply Pa_ | apply Pn_ | apply Pd_ | refine Bs_ ?_ GE193.out | refine Bs_ ?_ GE205.out) | exact HB.out)⟩
     ·rw [if_neg c17] at H
      have c17b0 : decide ((t200.size : Int) < a2) = false := Df_ c17
      clear c17
      by_cases c20 : 0 ≤ a2
      ·rw [if_pos c20] at H
       have c20b0 := eq_true c20
       have c20b1 : decide (0 ≤ a2) = true := Dt_ c20
       clear c20
       by_cases c21 : a2 ≤ (t200.size : Int)
       ·rw [if_pos c21] at H
        have c21b0 := eq_true c21
        have c21b1 : decide (a2 ≤ (t200.size : Int)) = true := Dt_ c21
        clear c21
        by_cases c22 : a3 < ((t200.extract (a2 : Int).toNat t200.size).size : Int)
        ·rw [if_pos c22] at H
         have c22b0 : decide (a3 < ((t200.extract (a2 : Int).toNat t200.size).size : Int)) = true := Dt_ c22
         (try (have c22b09 := c22b0; simp only [ByteArray.size_extract, Nat.min_self] at c22b09; have c22b08 := eq_true (Ot_ c22b09)))
         (try (have c22b07 := c22b0; simp only [ByteArray.size_extract, Nat.min_self] at c22b07))
         clear c22
         by_cases c23 : 0 ≤ a3
         ·rw [if_pos c23] at H
          have c23b0 := eq_true c23
          have c23b1 : decide (0 ≤ a3) = true := Dt_ c23
          clear c23
          by_cases c24 : a3 ≤ ((t200.extract (a2 : Int).toNat t200.size).size : Int)
          ·rw [if_pos c24] at H
           have c24b0 := eq_true c24
           have c24b1 : decide (a3 ≤ ((t200.extract (a2 : Int).toNat t200.size).size : Int)) = true := Dt_ c24
           (try (have c24b19 := c24b1; simp only [ByteArray.size_extract, Nat.min_self] at c24b19; have c24b18 := eq_true (Ot_ c24b19)))
           (try (have c24b17 := c24b1; simp only [ByteArray.size_extract, Nat.min_self] at c24b17))
           clear c24
           simp only [Option.some.injEq, Prod.mk.injEq] at H
           obtain ⟨rfl, rfl⟩ := H
           have hnb25 := NB205_193.out
           have hnc25 := NB193_205.out
           have hcz26_0 : wc.cell? ⟨gb205, 0, none⟩ = some (.int .i64 t194) := (Bc_ BK205.out 0).trans rfl
           have hcz26_1 : wc.cell? ⟨gb205, 1, none⟩ = some (.int .i64 t195) := (Bc_ BK205.out 1).trans rfl
           have hcz26_2 : wc.cell? ⟨gb205, 2, none⟩ = some (.int .i64 t196) := (Bc_ BK205.out 2).trans rfl
           have hcz26_3 : wc.cell? ⟨gb205, 3, none⟩ = some (.int .i64 t197) := (Bc_ BK205.out 3).trans rfl
           have hcz26_4 : wc.cell? ⟨gb205, 4, none⟩ = some (.int .i64 t198) := (Bc_ BK205.out 4).trans rfl
           have hcz26_5 : wc.cell? ⟨gb205, 5, none⟩ = some (.int .i64 t199) := (Bc_ BK205.out 5).trans rfl
           have hcz26_6 : wc.cell? ⟨gb205, 6, none⟩ = some (.string t200) := (Bc_ BK205.out 6).trans rfl
           have hcz26_7 : wc.cell? ⟨gb205, 7, none⟩ = some (.slice Ao14 t201.length co14) := (Bc_ BK205.out 7).trans rfl
           have hfz26_0 := Bf_ BK205.out 0
           have hfz26_1 := Bf_ BK205.out 1
           have hfz26_2 := Bf_ BK205.out 2
           have hfz26_3 := Bf_ BK205.out 3
           have hfz26_4 := Bf_ BK205.out 4
           have hfz26_5 := Bf_ BK205.out 5
           have hfz26_6 := Bf_ BK205.out 6
           have hfz26_7 := Bf_ BK205.out 7
           go_wp2
           go_ret2
           exact ⟨by first | rfl | (simp [errW_none, errW_some] <;> rfl) | (simp [*, errW_none, errW_some] <;> rfl), by repeat (first | (with_reducible first | exact HB.out | apply Pa_ | apply Pn_ | apply Pd_ | refine Bs_ ?_ GE193.out | refine Bs_ ?_ GE205.out) | exact HB.out)⟩
          ·rw [if_neg c24] at H
           exact absurd H (by simp)
         ·rw [if_neg c23] at H
          exact absurd H (by simp)
        ·rw [if_neg c22] at H
         have c22b0 : decide (a3 < ((t200.extract (a2 : Int).toNat t200.size).size : Int)) = false := Df_ c22
         (try (have c22b09 := c22b0; simp only [ByteArray.size_extract, Nat.min_self] at c22b09; have c22b08 := eq_true (Ot_ c22b09)))
         (try (have c22b07 := c22b0; simp only [ByteArray.size_extract, Nat.min_self] at c22b07))
         clear c22
         simp only [Option.some.injEq, Prod.mk.injEq] at H
         obtain ⟨rfl, rfl⟩ := H
         have hnb27 := NB205_193.out
         have hnc27 := NB193_205.out
         have hcz28_0 : wc.cell? ⟨gb205, 0, none⟩ = some (.int .i64 t194) := (Bc_ BK205.out 0).trans rfl
         have hcz28_1 : wc.cell? ⟨gb205, 1, none⟩ = some (.int .i64 t195) := (Bc_ BK205.out 1).trans rfl
         have hcz28_2 : wc.cell? ⟨gb205, 2, none⟩ = some (.int .i64 t196) := (Bc_ BK205.out 2).trans rfl
         have hcz28_3 : wc.cell? ⟨gb205, 3, none⟩ = some (.int .i64 t197) := (Bc_ BK205.out 3).trans rfl
         have hcz28_4 : wc.cell? ⟨gb205, 4, none⟩ = some (.int .i64 t198) := (Bc_ BK205.out 4).trans rfl
         have hcz28_5 : wc.cell? ⟨gb205, 5, none⟩ = some (.int .i64 t199) := (Bc_ BK205.out 5).trans rfl
         have hcz28_6 : wc.cell? ⟨gb205, 6, none⟩ = some (.string t200) := (Bc_ BK205.out 6).trans rfl
         have hcz28_7 : wc.cell? ⟨gb205, 7, none⟩ = some (.slice Ao14 t201.length co14) := (Bc_ BK205.out 7).trans rfl
         have hfz28_0 := Bf_ BK205.out 0
         have hfz28_1 := Bf_ BK205.out 1
         have hfz28_2 := Bf_ BK205.out 2
         have hfz28_3 := Bf_ BK205.out 3
         have hfz28_4 := Bf_ BK205.out 4
         have hfz28_5 := Bf_ BK205.out 5
         have hfz28_6 := Bf_ BK205.out 6
         have hfz28_7 := Bf_ BK205.out 7
         go_wp2
         go_ret2
         exact ⟨by first | rfl | (simp [errW_none, errW_some] <;> rfl) | (simp [*, errW_none, errW_some] <;> rfl), by repeat (first | (with_reducible first | exact HB.out | apply Pa_ | apply Pn_ | apply Pd_ | refine Bs_ ?_ GE193.out | refine Bs_ ?_ GE205.out) | exact HB.out)⟩
       ·rw [if_neg c21] at H
        exact absurd H (by simp)
      ·rw [if_neg c20] at H
       exact absurd H (by simp)
 ·rw [if_neg c6] at H
  have c6b0 : (t204 == 0) = false := beq_eq_false_iff_ne.mpr c6
  have c6b1 : (t204 != 0) = true := bne_iff_ne.mpr c6
  simp only [Option.some.injEq, Prod.mk.injEq] at H
  obtain ⟨rfl, rfl⟩ := H
  go_enter Try.func12, Try.ntmps12
  go_wp2_with (first | ((with_reducible refine gate_dst (N := 4) rfl ?_); refine box_event ?hg (N := 4) ?hd (cs := #[.slice A0_0 l0_0.length c0_0, .int .i64 a0_1, .int .i64 a0_2]) (t := 33) ?hr ?_; (case hd => rfl); (case hg => rfl); (case hr => first | (go_simp; done) | (go_simp; rfl)); intro gb193 hg w29 hbox hb; have n0_ := Am_ (Be_ (by repeat (first | (with_reducible first | exact HB.out | apply Pa_ | apply Pn_ | apply Pd_) | exact HB.out)) hb); have n1_ := Am_ (hbox); have n2_ := Am_ ((by rw [hg]; exact (Bz_ (by repeat (first | (with_reducible first | exact HB.out | apply Pa_ | apply Pn_ | apply Pd_) | exact HB.out))) : w.heap.size ≤ gb193)); have n3_ := Am_ ((by rw [hg]; exact (Bz_ (by repeat (first | (with_reducible first | exact HB.out | apply Pa_ | apply Pn_ | apply Pd_) | exact HB.out))) : w.heap.size ≤ gb193)); clear HB; have HB := n0_; have BK193 := n1_; have GW193 := n2_; have GE193 := n3_; clear n0_ n1_ n2_ n3_; clear hb hbox hg; have hcz30_0 : w29.cell? ⟨gb193, 0, none⟩ = some (.slice A0_0 l0_0.length c0_0) := (Bc_ BK193.out 0).trans rfl; have hcz30_1 : w29.cell? ⟨gb193, 1, none⟩ = some (.int .i64 a0_1) := (Bc_ BK193.out 1).trans rfl; have hcz30_2 : w29.cell? ⟨gb193, 2, none⟩ = some (.int .i64 a0_2) := (Bc_ BK193.out 2).trans rfl; have hfz30_0 := Bf_ BK193.out 0; have hfz30_1 := Bf_ BK193.out 1; have hfz30_2 := Bf_ BK193.out 2) | ((with_reducible refine gate_callee (f := 25) rfl ?_); refine goesL_ (some 16) rfl rfl Try.func25 (by kernel_rfl) rfl #[.agg #[.slice A0_0 l0_0.length c0_0, .int .i64 a0_1, .int .i64 a0_2], .int .i64 a1] rfl (by (try simp only [List.map_toArray, List.map_cons, List.map_nil]); first | done | rfl | (simp only [List.length_drop, List.length_take]; rfl)) ?_; (with_reducible refine (flagstoneref09_file.calls (fun k_ => k_ < w.heap.size) _ _ l0_0 a0_1 a0_2 a1 t194 t195 t196 t197 t198 t199 t200 t201 t204 _ ?side1 A5.out).mono ?_); (case side1 => exact Kd.V_mk HC0_0.out (Kd.F_below (Kd.C_F k53_heap HR0_0.out) (by repeat (first | (with_reducible first | exact HB.out | apply Pa_ | apply Pn_ | apply Pd_ | refine Bs_ ?_ GE193.out) | exact HB.out)))); rintro e w31 ⟨v202, rfl, ho0, hb⟩; refine ⟨_, rfl, ?_⟩; have n0_ := Am_ (Vl_ (Vm_ (ok' := fun k_ => k_ ≠ gb193) ho0 (fun k_ hk_ => Or.elim hk_ (fun hs_ => fun e_ => Nat.not_le.2 hs_ (by rw [e_]; exact GW193.out)) (fun hn_ => (Kd.freshB (g := gb193) (o := .cells #[.slice A0_0 l0_0.length c0_0, .int .i64 a0_1, .int .i64 a0_2] 33 (0, 0)) (by (with_reducible repeat (first | refine Bn_ ?_ _ | refine Bd_ ?_ | refine Ba_ ?_ _)); exact BK193.out) k_ hn_)))) (Bz_ (by repeat (first | (with_reducible first | exact HB.out | apply Pa_ | apply Pn_ | apply Pd_ | refine Bs_ ?_ GE193.out) | exact HB.out)))); have n1_ := Am_ (Bb_ (g := gb193) (o := .cells #[.slice A0_0 l0_0.length c0_0, .int .i64 a0_1, .int .i64 a0_2] 33 (0, 0)) (by (with_reducible repeat (first | refine Bn_ ?_ _ | refine Bd_ ?_ | refine Ba_ ?_ _)); exact BK193.out) hb); have n2_ := Am_ (Be_ (by repeat (first | (with_reducible first | exact HB.out | apply Pa_ | apply Pn_ | apply Pd_ | refine Bs_ ?_ GE193.out) | exact HB.out)) hb); clear BK193; clear HB; have HO203 := n0_; have BK193 := n1_; have HB := n2_; clear n0_ n1_ n2_; (try clear hb); (try clear hb2); (try clear hk); (try clear hi); (try clear ho0)) | ((with_reducible refine gate_dst (N := 10) rfl ?_); refine box_event ?hg (N := 10) ?hd (cs := #[.int .i64 0, .int .i64 0, .int .i64 0, .int .i64 0, .int .i64 0, .int .i64 0, .string (⟨#[]⟩ : ByteArray), .slice none 0 0]) (t := 53) ?hr ?_; (case hd => rfl); (case hg => rfl); (case hr => first | (go_simp; done) | (go_simp; rfl)); intro gb205 hg w32 hbox hb; have n0_ := Am_ (Vb_ (Ke_ (by (with_reducible repeat (first | apply Va_ | apply Vn_ | apply Vd_)); exact HO203.out) gb205 (Nat.le_of_eq hg.symm)) hb); have n1_ := Am_ (Bb_ (g := gb193) (o := .cells #[.slice A0_0 l0_0.length c0_0, .int .i64 a0_1, .int .i64 a0_2] 33 (0, 0)) (by (with_reducible repeat (first | refine Bn_ ?_ _ | refine Bd_ ?_ | refine Ba_ ?_ _)); exact BK193.out) hb); have n2_ := Am_ (Be_ (by repeat (first | (with_reducible first | exact HB.out | apply Pa_ | apply Pn_ | apply Pd_ | refine Bs_ ?_ GE193.out) | exact HB.out)) hb); have n3_ := Am_ (hbox); have n4_ := Am_ ((by rw [hg]; exact (Bz_ (by repeat (first | (with_reducible first | exact HB.out | apply Pa_ | apply Pn_ | apply Pd_ | refine Bs_ ?_ GE193.out) | exact HB.out))) : w.heap.size ≤ gb205)); have n5_ := Am_ ((by rw [hg]; exact (Bz_ (by repeat (first | (with_reducible first | exact HB.out | apply Pa_ | apply Pn_ | apply Pd_ | refine Bs_ ?_ GE193.out) | exact HB.out))) : w.heap.size ≤ gb205)); have n6_ := Am_ ((by rw [hg]; exact Nat.ne_of_lt (blk_lt (g := gb193) (o := .cells #[.slice A0_0 l0_0.length c0_0, .int .i64 a0_1, .int .i64 a0_2] 33 (0, 0)) (by (with_reducible repeat (first | refine Bn_ ?_ _ | refine Bd_ ?_ | refine Ba_ ?_ _)); exact BK193.out)) : gb193 ≠ gb205)); have n7_ := Am_ ((by rw [hg]; exact Nat.ne_of_gt (blk_lt (g := gb193) (o := .cells #[.slice A0_0 l0_0.length c0_0, .int .i64 a0_1, .int .i64 a0_2] 33 (0, 0)) (by (with_reducible repeat (first | refine Bn_ ?_ _ | refine Bd_ ?_ | refine Ba_ ?_ _)); exact BK193.out)) : gb205 ≠ gb193)); clear HO203; clear BK193; clear HB; have HO203 := n0_; have BK193 := n1_; have HB := n2_; have BK205 := n3_; have GW205 := n4_; have GE205 := n5_; have NB193_205 := n6_; have NB205_193 := n7_; clear n0_ n1_ n2_ n3_ n4_ n5_ n6_ n7_; clear hb hbox hg; have hnb33 := NB205_193.out; have hnc33 := NB193_205.out; have hcz34_0 : w32.cell? ⟨gb205, 0, none⟩ = some (.int .i64 0) := (Bc_ BK205.out 0).trans rfl; have hcz34_1 : w32.cell? ⟨gb205, 1, none⟩ = some (.int .i64 0) := (Bc_ BK205.out 1).trans rfl; have hcz34_2 : w32.cell? ⟨gb205, 2, none⟩ = some (.int .i64 0) := (Bc_ BK205.out 2).trans rfl; have hcz34_3 : w32.cell? ⟨gb205, 3, none⟩ = some (.int .i64 0) := (Bc_ BK205.out 3).trans rfl; have hcz34_4 : w32.cell? ⟨gb205, 4, none⟩ = some (.int .i64 0) := (Bc_ BK205.out 4).trans rfl; have hcz34_5 : w32.cell? ⟨gb205, 5, none⟩ = some (.int .i64 0) := (Bc_ BK205.out 5).trans rfl; have hcz34_6 : w32.cell? ⟨gb205, 6, none⟩ = some (.string (⟨#[]⟩ : ByteArray)) := (Bc_ BK205.out 6).trans rfl; have hcz34_7 : w32.cell? ⟨gb205, 7, none⟩ = some (.slice none 0 0) := (Bc_ BK205.out 7).trans rfl; have hfz34_0 := Bf_ BK205.out 0; have hfz34_1 := Bf_ BK205.out 1; have hfz34_2 := Bf_ BK205.out 2; have hfz34_3 := Bf_ BK205.out 3; have hfz34_4 := Bf_ BK205.out 4; have hfz34_5 := Bf_ BK205.out 5; have hfz34_6 := Bf_ BK205.out 6; have hfz34_7 := Bf_ BK205.out 7; obtain ⟨Ao35, co35, eo35⟩ := Vx_ HO203.out; subst eo35))
  go_ret2
  exact ⟨by first | rfl | (simp [errW_none, errW_some] <;> rfl) | (simp [*, errW_none, errW_some] <;> rfl), by repeat (first | (with_reducible first | exact HB.out | apply Pa_ | apply Pn_ | apply Pd_ | refine Bs_ ?_ GE193.out | refine Bs_ ?_ GE205.out) | exact HB.out)⟩

end Go.Proofs.Ytpeelfambaedkaa.P
