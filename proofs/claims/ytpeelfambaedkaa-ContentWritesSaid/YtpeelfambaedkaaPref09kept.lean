-- Printed by a program of this session (inject.py) over the kit's print, with functions that were proved by hand in their places.
import Derived.Test.YtpeelfambaedkaaPK
import Derived.Test.YtpeelfambaedkaaPref06Bytes
import Derived.Test.YtpeelfambaedkaaPref06Set
namespace Go.Proofs.Ytpeelfambaedkaa.P
open Go.RowKit Go.Proofs.YtpeelfambaedkaaW.PrintWords Go.Proofs.YtpeelfambaedkaaW.PrintLast Go.Proofs.YtpeelfambaedkaaW.PrintMore
attribute [local go_sem] max2_int min2_int max_two min_two max_three min_three max_four min_four   -- for this text's walks alone
set_option linter.unusedVariables false
set_option linter.unusedSimpArgs false

/-! ### flagstoneref09_kept: function 30 -/
def flagstoneref09_kept.f (k : Nat) (l0_0 : List (S53)) (a0_1 : Int) (a0_2 : Int) (a1 : Int) (a2_0 : Int) (a2_1 : Int) (a2_2 : Int) (a2_3 : Int) (a2_4 : Int) (a2_5 : Int) (a2_6 : ByteArray) (l2_7 : List (S75)) (a3 : ByteArray) : Option ((List (S53)) × Int × Int × Int) := if (a3.size : Int) > (a2_6.size : Int) then ((flagstoneref06_Bytes.f k l0_0 a0_1 a0_2).bind fun t353 => (if (wrap64 ((wrap64 (t353 + (a3.size : Int))) - (a2_6.size : Int))) > a0_2 then (some (l0_0, a0_1, a0_2, 10)) else ((flagstoneref06_Set.f l0_0 a0_1 a0_2 a1 a2_0 a2_1 a2_2 a2_3 a2_4 a2_5 a3 l2_7).bind fun bt354 => (some (bt354.1, bt354.2.1, bt354.2.2, 0))))) else ((flagstoneref06_Set.f l0_0 a0_1 a0_2 a1 a2_0 a2_1 a2_2 a2_3 a2_4 a2_5 a3 l2_7).bind fun bt359 => (some (bt359.1, bt359.2.1, bt359.2.2, 0)))
theorem flagstoneref09_kept.mono : ∀ a0 a1 a2 a3 a4 a5 a6 a7 a8 a9 a10 a11 a12 k, LeO (flagstoneref09_kept.f k a0 a1 a2 a3 a4 a5 a6 a7 a8 a9 a10 a11 a12) (flagstoneref09_kept.f (k + 1) a0 a1 a2 a3 a4 a5 a6 a7 a8 a9 a10 a11 a12) := by
 intro a0 a1 a2 a3 a4 a5 a6 a7 a8 a9 a10 a11 a12 k
 unfold flagstoneref09_kept.f
 repeat' first
   | (with_reducible exact flagstoneref06_Bytes.mono _ _ _ _)
   | (with_reducible exact LeO.refl _)
   | (with_reducible exact LeO.none _)
   | (with_reducible refine LeO.ite ?_ ?_)
   | (with_reducible refine LeO.bind ?_ (fun _ => ?_))
   | exact flagstoneref06_Bytes.mono _ _ _ _
   | exact LeO.none _
   | refine LeO.ite ?_ ?_
   | refine LeO.bind ?_ (fun _ => ?_)
def flagstoneref09_kept.T1 : Bool × List (List Nat × List Nat) := (true, [([], []), ([0], [0]), ([], []), ([2], [2]), ([3], [3]), ([1, 4], [1, 4]), ([5], [5]), ([6], [6]), ([7, 6, 6], [6, 7]), ([6], [6]), ([9, 6], [6, 9]), ([8, 10, 6], [6, 8, 10]), ([6], [6]), ([12, 6], [6, 12]), ([13, 6], [6, 13]), ([11, 14, 6], [6, 11, 14]), ([6], [6]), ([16, 6], [6, 16]), ([15, 17, 6], [6, 15, 17]), ([6, 18], [6, 18])])
def flagstoneref09_kept.B1 : List Nat := [0, 1, 0, 4, 12, 31, 63, 127, 255, 127, 639, 2047, 127, 4223, 12415, 32767, 127, 65663, 262143, 524287]
theorem flagstoneref09_kept.tab1 : rtab .any (opsOf Try.f30 1) = flagstoneref09_kept.T1 := by kernel_rfl
theorem flagstoneref09_kept.bits1 : waitsOk flagstoneref09_kept.T1.2 flagstoneref09_kept.B1 = true := by kernel_rfl
set_option maxHeartbeats 8000000 in
set_option maxRecDepth 100000 in
theorem flagstoneref09_kept.calls (k : Nat) (P0_0_ : Nat → Prop) (A0_0 : Option Addr) (c0_0 : Nat) (l0_0 : List (S53)) (a0_1 : Int) (a0_2 : Int) (a1 : Int) (a2_0 : Int) (a2_1 : Int) (a2_2 : Int) (a2_3 : Int) (a2_4 : Int) (a2_5 : Int) (a2_6 : ByteArray) (P2_7_ : Nat → Prop) (A2_7 : Option Addr) (c2_7 : Nat) (l2_7 : List (S75)) (a3 : ByteArray) (r1 : List (S53)) (r2 : Int) (r3 : Int) (r4 : Int) (w : World) (hs0_0 : Kd.V k53 53 w w.heap.size (fun k_ => P0_0_ k_) (.slice A0_0 l0_0.length c0_0) l0_0) (hs2_7 : Kd.V k75 75 w w.heap.size (fun k_ => P2_7_ k_) (.slice A2_7 l2_7.length c2_7) l2_7) (h : flagstoneref09_kept.f k l0_0 a0_1 a0_2 a1 a2_0 a2_1 a2_2 a2_3 a2_4 a2_5 a2_6 l2_7 a3 = some (r1, r2, r3, r4)) :
  Calls Try.prog 30 #[.agg #[.slice A0_0 l0_0.length c0_0, .int .i64 a0_1, .int .i64 a0_2], .int .i64 a1, .agg #[.int .i64 a2_0, .int .i64 a2_1, .int .i64 a2_2, .int .i64 a2_3, .int .i64 a2_4, .int .i64 a2_5, .string a2_6, .slice A2_7 l2_7.length c2_7], .string a3] w fun e w' => ∃ v0_ : Value, e = .returned (.tuple #[.agg #[v0_, .int .i64 r2, .int .i64 r3], .int .i64 r4]) ∧ Kd.V k53 53 w' w.heap.size (fun k_ => ((P0_0_ k_ ∨ P2_7_ k_) ∨ w.heap.size ≤ k_)) v0_ r1 ∧ Below w.heap.size w w' := by
 have hu33 := Try.underlying33
 have hu53 := Try.underlying53
 have HO0_0 := Am_ (show Kd.V k53 53 w w.heap.size (fun k_ => ((P0_0_ k_ ∨ P2_7_ k_) ∨ w.heap.size ≤ k_)) (.slice A0_0 l0_0.length c0_0) l0_0 from Vm_ hs0_0 (fun k_ hk => .inl (.inl hk)))
 have HO2_7 := Am_ (show Kd.V k75 75 w w.heap.size (fun k_ => ((P0_0_ k_ ∨ P2_7_ k_) ∨ w.heap.size ≤ k_)) (.slice A2_7 l2_7.length c2_7) l2_7 from Vm_ hs2_7 (fun k_ hk => .inl (.inr hk)))
 have HB := Am_ (Below.refl w.heap.size w)
 have H : (if (a3.size : Int) > (a2_6.size : Int) then ((flagstoneref06_Bytes.f k l0_0 a0_1 a0_2).bind fun t353 => (if (wrap64 ((wrap64 (t353 + (a3.size : Int))) - (a2_6.size : Int))) > a0_2 then (some (l0_0, a0_1, a0_2, 10)) else ((flagstoneref06_Set.f l0_0 a0_1 a0_2 a1 a2_0 a2_1 a2_2 a2_3 a2_4 a2_5 a3 l2_7).bind fun bt354 => (some (bt354.1, bt354.2.1, bt354.2.2, 0))))) else ((flagstoneref06_Set.f l0_0 a0_1 a0_2 a1 a2_0 a2_1 a2_2 a2_3 a2_4 a2_5 a3 l2_7).bind fun bt359 => (some (bt359.1, bt359.2.1, bt359.2.2, 0)))) = some (r1, r2, r3, r4) := h
 clear h
 by_cases c5 : (a3.size : Int) > (a2_6.size : Int)
 ·rw [if_pos c5] at H
  have c5b0 : decide ((a2_6.size : Int) < (a3.size : Int)) = true := Dt_ c5
  have c5b1 : decide (a2_6.size < a3.size) = true := Dt_ (Int.ofNat_lt.mp c5)
  clear c5
  replace H := Option.bind_eq_some_iff.mp H
  obtain ⟨t353, A60, H⟩ := H
  replace H : (if (wrap64 ((wrap64 (t353 + (a3.size : Int))) - (a2_6.size : Int))) > a0_2 then (some (l0_0, a0_1, a0_2, 10)) else ((flagstoneref06_Set.f l0_0 a0_1 a0_2 a1 a2_0 a2_1 a2_2 a2_3 a2_4 a2_5 a3 l2_7).bind fun bt354 => (some (bt354.1, bt354.2.1, bt354.2.2, 0)))) = some (r1, r2, r3, r4) := H
  have A6 := Am_ A60
  clear A60
  by_cases c7 : (wrap64 ((wrap64 (t353 + (a3.size : Int))) - (a2_6.size : Int))) > a0_2
  ·rw [if_pos c7] at H
   have c7b0 : decide (a0_2 < (wrap64 ((wrap64 (t353 + (a3.size : Int))) - (a2_6.size : Int)))) = true := Dt_ c7
   clear c7
   simp only [Option.some.injEq, Prod.mk.injEq] at H
   obtain ⟨rfl, rfl, rfl, rfl⟩ := H
   go_enter Try.func30, Try.ntmps30
   try go_wp2_with (first | ((with_reducible refine gate_dst (N := 4) rfl ?_); (try (refine gate_guard (by rfl) ?_; dsimp only)); refine box_event ?hg (N := 4) ?hd (cs := #[.slice A0_0 l0_0.length c0_0, .int .i64 a0_1, .int .i64 a0_2]) (t := 33) ?hr ?_; (case hd => rfl); (case hg => rfl); (case hr => go_simp; try rfl); intro gb350 hg w8 hbox hb; have n0_ := Am_ (Vb_ (Ke_ (Pv_ HO0_0.out) gb350 (Nat.le_of_eq hg.symm)) hb); have n1_ := Am_ (Vb_ (Ke_ (Pv_ HO2_7.out) gb350 (Nat.le_of_eq hg.symm)) hb); have n2_ := Am_ (Be_ (Pb0_ HB.out) hb); have n3_ := Am_ (hbox); have n4_ := Am_ ((by rw [hg]; exact (Bz_ (Pb0_ HB.out)) : w.heap.size ≤ gb350)); have n5_ := Am_ ((by rw [hg]; exact (Bz_ (Pb0_ HB.out)) : w.heap.size ≤ gb350)); clear HO0_0; clear HO2_7; clear HB; have HO0_0 := n0_; have HO2_7 := n1_; have HB := n2_; have BK350 := n3_; have GW350 := n4_; have GE350 := n5_; clear n0_ n1_ n2_ n3_ n4_ n5_; clear hb hbox hg) | ((with_reducible refine gate_dst (N := 6) rfl ?_); (try (refine gate_guard (by rfl) ?_; dsimp only)); refine box_event ?hg (N := 6) ?hd (cs := #[.int .i64 a2_0, .int .i64 a2_1, .int .i64 a2_2, .int .i64 a2_3, .int .i64 a2_4, .int .i64 a2_5, .string a2_6, .slice A2_7 l2_7.length c2_7]) (t := 53) ?hr ?_; (case hd => rfl); (case hg => rfl); (case hr => go_simp; try rfl); intro gb351 hg w9 hbox hb; have n0_ := Am_ (Vb_ (Ke_ (Pv_ HO0_0.out) gb351 (Nat.le_of_eq hg.symm)) hb); have n1_ := Am_ (Vb_ (Ke_ (Pv_ HO2_7.out) gb351 (Nat.le_of_eq hg.symm)) hb); have n2_ := Am_ (Bb_ (g := gb350) (o := .cells #[.slice A0_0 l0_0.length c0_0, .int .i64 a0_1, .int .i64 a0_2] 33 (0, 0)) (Pk_ BK350.out) hb); have n3_ := Am_ (Be_ (Pb1_ HB.out GE350.out) hb); have n4_ := Am_ (hbox); have n5_ := Am_ ((by rw [hg]; exact (Bz_ (Pb1_ HB.out GE350.out)) : w.heap.size ≤ gb351)); have n6_ := Am_ ((by rw [hg]; exact (Bz_ (Pb1_ HB.out GE350.out)) : w.heap.size ≤ gb351)); have n7_ := Am_ ((by rw [hg]; exact Nat.ne_of_lt (blk_lt (g := gb350) (o := .cells #[.slice A0_0 l0_0.length c0_0, .int .i64 a0_1, .int .i64 a0_2] 33 (0, 0)) (Pk_ BK350.out)) : gb350 ≠ gb351)); have n8_ := Am_ ((by rw [hg]; exact Nat.ne_of_gt (blk_lt (g := gb350) (o := .cells #[.slice A0_0 l0_0.length c0_0, .int .i64 a0_1, .int .i64 a0_2] 33 (0, 0)) (Pk_ BK350.out)) : gb351 ≠ gb350)); clear HO0_0; clear HO2_7; clear BK350; clear HB; have HO0_0 := n0_; have HO2_7 := n1_; have BK350 := n2_; have HB := n3_; have BK351 := n4_; have GW351 := n5_; have GE351 := n6_; have NB350_351 := n7_; have NB351_350 := n8_; clear n0_ n1_ n2_ n3_ n4_ n5_ n6_ n7_ n8_; clear hb hbox hg) | ((with_reducible refine gate_dst (N := 8) rfl ?_); (try (refine gate_guard (by rfl) ?_; dsimp only)); refine box_event ?hg (N := 8) ?hd (cs := #[.slice none 0 0, .int .i64 0, .int .i64 0]) (t := 33) ?hr ?_; (case hd => rfl); (case hg => rfl); (case hr => go_simp; try rfl); intro gb352 hg w10 hbox hb; have n0_ := Am_ (Vb_ (Ke_ (Pv_ HO0_0.out) gb352 (Nat.le_of_eq hg.symm)) hb); have n1_ := Am_ (Vb_ (Ke_ (Pv_ HO2_7.out) gb352 (Nat.le_of_eq hg.symm)) hb); have n2_ := Am_ (Bb_ (g := gb350) (o := .cells #[.slice A0_0 l0_0.length c0_0, .int .i64 a0_1, .int .i64 a0_2] 33 (0, 0)) (Pk_ BK350.out) hb); have n3_ := Am_ (Bb_ (g := gb351) (o := .cells #[.int .i64 a2_0, .int .i64 a2_1, .int .i64 a2_2, .int .i64 a2_3, .int .i64 a2_4, .int .i64 a2_5, .string a2_6, .slice A2_7 l2_7.length c2_7] 53 (0, 0)) (Pk_ BK351.out) hb); have n4_ := Am_ (Be_ (Pb2_ HB.out GE350.out GE351.out) hb); have n5_ := Am_ (hbox); have n6_ := Am_ ((by rw [hg]; exact (Bz_ (Pb2_ HB.out GE350.out GE351.out)) : w.heap.size ≤ gb352)); have n7_ := Am_ ((by rw [hg]; exact (Bz_ (Pb2_ HB.out GE350.out GE351.out)) : w.heap.size ≤ gb352)); have n8_ := Am_ ((by rw [hg]; exact Nat.ne_of_lt (blk_lt (g := gb350) (o := .cells #[.slice A0_0 l0_0.length c0_0, .int .i64 a0_1, .int .i64 a0_2] 33 (0, 0)) (Pk_ BK350.out)) : gb350 ≠ gb352)); have n9_ := Am_ ((by rw [hg]; exact Nat.ne_of_gt (blk_lt (g := gb350) (o := .cells #[.slice A0_0 l0_0.length c0_0, .int .i64 a0_1, .int .i64 a0_2] 33 (0, 0)) (Pk_ BK350.out)) : gb352 ≠ gb350)); have n10_ := Am_ ((by rw [hg]; exact Nat.ne_of_lt (blk_lt (g := gb351) (o := .cells #[.int .i64 a2_0, .int .i64 a2_1, .int .i64 a2_2, .int .i64 a2_3, .int .i64 a2_4, .int .i64 a2_5, .string a2_6, .slice A2_7 l2_7.length c2_7] 53 (0, 0)) (Pk_ BK351.out)) : gb351 ≠ gb352)); have n11_ := Am_ ((by rw [hg]; exact Nat.ne_of_gt (blk_lt (g := gb351) (o := .cells #[.int .i64 a2_0, .int .i64 a2_1, .int .i64 a2_2, .int .i64 a2_3, .int .i64 a2_4, .int .i64 a2_5, .string a2_6, .slice A2_7 l2_7.length c2_7] 53 (0, 0)) (Pk_ BK351.out)) : gb352 ≠ gb351)); clear HO0_0; clear HO2_7; clear BK350; clear BK351; clear HB; have HO0_0 := n0_; have HO2_7 := n1_; have BK350 := n2_; have BK351 := n3_; have HB := n4_; have BK352 := n5_; have GW352 := n6_; have GE352 := n7_; have NB350_352 := n8_; have NB352_350 := n9_; have NB351_352 := n10_; have NB352_351 := n11_; clear n0_ n1_ n2_ n3_ n4_ n5_ n6_ n7_ n8_ n9_ n10_ n11_; clear hb hbox hg))
   have n0_ := Am_ (Vd_ HO0_0.out)
   have n1_ := Am_ (Vd_ HO2_7.out)
   have n2_ := Am_ (Bd_ BK350.out)
   have n3_ := Am_ (Bd_ BK351.out)
   have n4_ := Am_ (Bd_ BK352.out)
   have n5_ := Am_ (Pd_ HB.out)
   clear HO0_0
   clear HO2_7
   clear BK350
   clear BK351
   clear BK352
   clear HB
   have HO0_0 := n0_
   have HO2_7 := n1_
   have BK350 := n2_
   have BK351 := n3_
   have BK352 := n4_
   have HB := n5_
   clear n0_ n1_ n2_ n3_ n4_ n5_
   refine start_ (n := 20) (S := fun w' => w'.cell? ⟨gb351, 0, none⟩ = some (.int .i64 a2_0) ∧ w'.cell? ⟨gb351, 1, none⟩ = some (.int .i64 a2_1) ∧ w'.cell? ⟨gb351, 2, none⟩ = some (.int .i64 a2_2) ∧ w'.cell? ⟨gb351, 3, none⟩ = some (.int .i64 a2_3) ∧ w'.cell? ⟨gb351, 4, none⟩ = some (.int .i64 a2_4) ∧ w'.cell? ⟨gb351, 5, none⟩ = some (.int .i64 a2_5) ∧ w'.cell? ⟨gb351, 6, none⟩ = some (.string a2_6) ∧ w'.cell? ⟨gb351, 7, none⟩ = some (.slice A2_7 l2_7.length c2_7) ∧ w'.cell? ⟨gb350, 0, none⟩ = some (.slice A0_0 l0_0.length c0_0) ∧ w'.cell? ⟨gb350, 1, none⟩ = some (.int .i64 a0_1) ∧ w'.cell? ⟨gb350, 2, none⟩ = some (.int .i64 a0_2)) (ds := []) #[f_,f_,f_,f_,f_,f_,f_,f_,f_,f_,f_,f_,f_,f_,f_,f_,f_,f_,f_,f_] (by kernel_rfl) rfl rfl ⟨(Bc_ BK351.out 0).trans rfl, (Bc_ BK351.out 1).trans rfl, (Bc_ BK351.out 2).trans rfl, (Bc_ BK351.out 3).trans rfl, (Bc_ BK351.out 4).trans rfl, (Bc_ BK351.out 5).trans rfl, (Bc_ BK351.out 6).trans rfl, (Bc_ BK351.out 7).trans rfl, (Bc_ BK350.out 0).trans rfl, (Bc_ BK350.out 1).trans rfl, (Bc_ BK350.out 2).trans rfl⟩ (fun hHeld => ?_); refine with_tabW flagstoneref09_kept.tab1 flagstoneref09_kept.bits1 (fun HT_ HW_ => ?_)
   generalize w10.drew = w11 at HO0_0 HO2_7 BK350 BK351 BK352 HB hHeld ⊢
   refine pure_ (i := 0) (N := some 10) (v := ?_) (a' := ?_) #[t_,f_,f_,f_,f_,f_,f_,f_,f_,f_,f_,f_,f_,f_,f_,f_,f_,f_,f_,f_] rfl rfl (any_of HT_.out (by kernel_rfl)) (fun _ _ _ h => h) (Or.inl ⟨by rfl, ?_⟩) ?_ ?_
   rotate_left
   ·intro w'
    go_simp
    with_reducible rfl
   rotate_left
   ·simp only [Act.put, La_, Lb_, Lc_, i64_w, i32_w]
    rfl
   refine pure_ (i := 1) (N := some 11) (v := ?_) (a' := ?_) #[t_,t_,f_,f_,f_,f_,f_,f_,f_,f_,f_,f_,f_,f_,f_,f_,f_,f_,f_,f_] rfl rfl (any_of HT_.out (by kernel_rfl)) (fun _ _ _ h => h) (Or.inl ⟨by rfl, ?_⟩) ?_ ?_
   rotate_left
   ·intro w'
    go_simp
    with_reducible rfl
   rotate_left
   ·simp only [Act.put, La_, Lb_, Lc_, i64_w, i32_w]
    rfl
   refine pure_ (i := 2) (N := some 12) (v := ?_) (a' := ?_) #[t_,t_,t_,f_,f_,f_,f_,f_,f_,f_,f_,f_,f_,f_,f_,f_,f_,f_,f_,f_] rfl rfl (any_of HT_.out (by kernel_rfl)) (fun _ _ _ h => h) (Or.inl ⟨by rfl, ?_⟩) ?_ ?_
   rotate_left
   ·intro w'
    go_simp
    with_reducible rfl
   rotate_left
   ·simp only [Act.put, La_, Lb_, Lc_, i64_w, i32_w]
    rfl
   refine take_ (i := 3) (N := some 13) (v := ?_) (a' := ?_) #[t_,t_,t_,t_,f_,f_,f_,f_,f_,f_,f_,f_,f_,f_,f_,f_,f_,f_,f_,f_] rfl rfl (take_ofW HT_.out HW_.out (by kernel_rfl)) (fun _ _ _ h => h) (Or.inl ⟨by rfl, ?_⟩) hHeld ?_ ?_
   rotate_left
   ·rintro w' ⟨s0, s1, s2, s3, s4, s5, s6, s7, s8, s9, s10⟩
    go_simp
    with_reducible rfl
   rotate_left
   ·simp only [Act.put, La_, Lb_, Lc_, i64_w, i32_w]
    rfl
   refine pure_ (i := 4) (N := some 14) (v := ?_) (a' := ?_) #[t_,t_,t_,t_,t_,f_,f_,f_,f_,f_,f_,f_,f_,f_,f_,f_,f_,f_,f_,f_] rfl rfl (any_of HT_.out (by kernel_rfl)) (fun _ _ _ h => h) (Or.inl ⟨by rfl, ?_⟩) ?_ ?_
   rotate_left
   ·intro w'
    go_simp
    with_reducible rfl
   rotate_left
   ·simp only [Act.put, La_, Lb_, Lc_, i64_w, i32_w]
    rfl
   refine pure_ (i := 5) (N := some 15) (v := ?_) (a' := ?_) #[t_,t_,t_,t_,t_,t_,f_,f_,f_,f_,f_,f_,f_,f_,f_,f_,f_,f_,f_,f_] rfl rfl (any_of HT_.out (by kernel_rfl)) (fun _ _ _ h => h) (Or.inl ⟨by rfl, ?_⟩) ?_ ?_
   rotate_left
   ·intro w'
    go_simp
    with_reducible rfl
   rotate_left
   ·simp only [Act.put, La_, Lb_, Lc_, i64_w, i32_w]
    rfl
   refine pure_ (i := 6) (N := some 16) (v := ?_) (a' := ?_) #[t_,t_,t_,t_,t_,t_,t_,f_,f_,f_,f_,f_,f_,f_,f_,f_,f_,f_,f_,f_] rfl rfl (any_of HT_.out (by kernel_rfl)) (fun _ _ _ h => h) (Or.inl ⟨by rfl, ?_⟩) ?_ ?_
   rotate_left
   ·intro w'
    go_simp
    with_reducible rfl
   rotate_left
   ·simp only [Act.put, La_, Lb_, Lc_, i64_w, i32_w]
    rfl
   refine pure_ (i := 9) (N := some 19) (v := ?_) (a' := ?_) #[t_,t_,t_,t_,t_,t_,t_,f_,f_,t_,f_,f_,f_,f_,f_,f_,f_,f_,f_,f_] rfl rfl (any_of HT_.out (by kernel_rfl)) (fun _ _ _ h => h) (Or.inl ⟨by rfl, ?_⟩) ?_ ?_
   rotate_left
   ·intro w'
    go_simp
    with_reducible rfl
   rotate_left
   ·simp only [Act.put, La_, Lb_, Lc_, i64_w, i32_w]
    rfl
   refine pure_ (i := 10) (N := some 20) (v := ?_) (a' := ?_) #[t_,t_,t_,t_,t_,t_,t_,f_,f_,t_,t_,f_,f_,f_,f_,f_,f_,f_,f_,f_] rfl rfl (any_of HT_.out (by kernel_rfl)) (fun _ _ _ h => h) (Or.inl ⟨by rfl, ?_⟩) ?_ ?_
   rotate_left
   ·intro w'
    go_simp
    with_reducible rfl
   rotate_left
   ·simp only [Act.put, La_, Lb_, Lc_, i64_w, i32_w]
    rfl
   refine pure_ (i := 12) (N := some 22) (v := ?_) (a' := ?_) #[t_,t_,t_,t_,t_,t_,t_,f_,f_,t_,t_,f_,t_,f_,f_,f_,f_,f_,f_,f_] rfl rfl (any_of HT_.out (by kernel_rfl)) (fun _ _ _ h => h) (Or.inl ⟨by rfl, ?_⟩) ?_ ?_
   rotate_left
   ·intro w'
    go_simp
    with_reducible rfl
   rotate_left
   ·simp only [Act.put, La_, Lb_, Lc_, i64_w, i32_w]
    rfl
   refine pure_ (i := 16) (N := some 26) (v := ?_) (a' := ?_) #[t_,t_,t_,t_,t_,t_,t_,f_,f_,t_,t_,f_,t_,f_,f_,f_,t_,f_,f_,f_] rfl rfl (any_of HT_.out (by kernel_rfl)) (fun _ _ _ h => h) (Or.inl ⟨by rfl, ?_⟩) ?_ ?_
   rotate_left
   ·intro w'
    go_simp
    with_reducible rfl
   rotate_left
   ·simp only [Act.put, La_, Lb_, Lc_, i64_w, i32_w]
    rfl
   refine take_ (i := 7) (N := some 17) (v := ?_) (a' := ?_) #[t_,t_,t_,t_,t_,t_,t_,t_,f_,t_,t_,f_,t_,f_,f_,f_,t_,f_,f_,f_] rfl rfl (take_ofW HT_.out HW_.out (by kernel_rfl)) (fun _ _ _ h => h) (Or.inl ⟨by rfl, ?_⟩) hHeld ?_ ?_
   rotate_left
   ·rintro w' ⟨s0, s1, s2, s3, s4, s5, s6, s7, s8, s9, s10⟩
    go_simp
    with_reducible rfl
   rotate_left
   ·simp only [Act.put, La_, Lb_, Lc_, i64_w, i32_w]
    rfl
   refine take_ (i := 13) (N := some 23) (v := ?_) (a' := ?_) #[t_,t_,t_,t_,t_,t_,t_,t_,f_,t_,t_,f_,t_,t_,f_,f_,t_,f_,f_,f_] rfl rfl (take_ofW HT_.out HW_.out (by kernel_rfl)) (fun _ _ _ h => h) (Or.inl ⟨by rfl, ?_⟩) hHeld ?_ ?_
   rotate_left
   ·rintro w' ⟨s0, s1, s2, s3, s4, s5, s6, s7, s8, s9, s10⟩
    go_simp
    with_reducible rfl
   rotate_left
   ·simp only [Act.put, La_, Lb_, Lc_, i64_w, i32_w]
    rfl
   refine pure_ (i := 14) (N := some 24) (v := ?_) (a' := ?_) #[t_,t_,t_,t_,t_,t_,t_,t_,f_,t_,t_,f_,t_,t_,t_,f_,t_,f_,f_,f_] rfl rfl (any_of HT_.out (by kernel_rfl)) (fun _ _ _ h => h) (Or.inl ⟨by rfl, ?_⟩) ?_ ?_
   rotate_left
   ·intro w'
    go_simp
    with_reducible rfl
   rotate_left
   ·simp only [Act.put, La_, Lb_, Lc_, i64_w, i32_w]
    rfl
   refine take_ (i := 17) (N := some 27) (v := ?_) (a' := ?_) #[t_,t_,t_,t_,t_,t_,t_,t_,f_,t_,t_,f_,t_,t_,t_,f_,t_,t_,f_,f_] rfl rfl (take_ofW HT_.out HW_.out (by kernel_rfl)) (fun _ _ _ h => h) (Or.inl ⟨by rfl, ?_⟩) hHeld ?_ ?_
   rotate_left
   ·rintro w' ⟨s0, s1, s2, s3, s4, s5, s6, s7, s8, s9, s10⟩
    go_simp
    with_reducible rfl
   rotate_left
   ·simp only [Act.put, La_, Lb_, Lc_, i64_w, i32_w]
    rfl
   refine one_ (i := 8) (N := some 18) #[t_,t_,t_,t_,t_,t_,t_,t_,t_,t_,t_,f_,t_,t_,t_,f_,t_,t_,f_,f_] rfl rfl (one_of HT_.out (by kernel_rfl)) (by decide) (fun K hK => ?_)
   refine goes_ Try.func21 (by kernel_rfl) rfl #[.agg #[.slice A0_0 l0_0.length c0_0, .int .i64 a0_1, .int .i64 a0_2]] (by rfl) rfl rfl (by (try simp only [List.map_toArray, List.map_cons, List.map_nil]); first | done | rfl | (simp only [List.length_drop, List.length_take]; rfl)) ?_
   with_reducible refine (flagstoneref06_Bytes.calls k _ _ l0_0 a0_1 a0_2 t353 _ ?side1 ?side2 A6.out).mono ?_
   (case side1 => repeat (first | exact (Vr_ HO0_0.out).2.2 | (with_reducible refine Kd.C_alloc ?_ _) | (with_reducible refine Kd.C_drewN ?_ _) | (with_reducible refine Kd.C_drew ?_)))
   (case side2 => exact (Vr_ HO0_0.out).2.1)
   rintro e w12 ⟨rfl, hb⟩
   refine ⟨_, rfl, ?_⟩
   have n0_ := Am_ (Vb_ (Pv_ HO0_0.out) hb)
   have n1_ := Am_ (Vb_ (Pv_ HO2_7.out) hb)
   have n2_ := Am_ (Bb_ (g := gb350) (o := .cells #[.slice A0_0 l0_0.length c0_0, .int .i64 a0_1, .int .i64 a0_2] 33 (0, 0)) (Pk_ BK350.out) hb)
   have n3_ := Am_ (Bb_ (g := gb351) (o := .cells #[.int .i64 a2_0, .int .i64 a2_1, .int .i64 a2_2, .int .i64 a2_3, .int .i64 a2_4, .int .i64 a2_5, .string a2_6, .slice A2_7 l2_7.length c2_7] 53 (0, 0)) (Pk_ BK351.out) hb)
   have n4_ := Am_ (Bb_ (g := gb352) (o := .cells #[.slice none 0 0, .int .i64 0, .int .i64 0] 33 (0, 0)) (Pk_ BK352.out) hb)
   have n5_ := Am_ (Be_ (Pb3_ HB.out GE350.out GE351.out GE352.out) hb)
   clear HO0_0
   clear HO2_7
   clear BK350
   clear BK351
   clear BK352
   clear HB
   have HO0_0 := n0_
   have HO2_7 := n1_
   have BK350 := n2_
   have BK351 := n3_
   have BK352 := n4_
   have HB := n5_
   clear n0_ n1_ n2_ n3_ n4_ n5_
   (try clear hb)
   (try clear hb2)
   (try clear hk)
   (try clear hi)
   refine hK.out _ _ ⟨(Bc_ BK351.out 0).trans rfl, (Bc_ BK351.out 1).trans rfl, (Bc_ BK351.out 2).trans rfl, (Bc_ BK351.out 3).trans rfl, (Bc_ BK351.out 4).trans rfl, (Bc_ BK351.out 5).trans rfl, (Bc_ BK351.out 6).trans rfl, (Bc_ BK351.out 7).trans rfl, (Bc_ BK350.out 0).trans rfl, (Bc_ BK350.out 1).trans rfl, (Bc_ BK350.out 2).trans rfl⟩ (fun hHeld => ?_)
   clear hK K
   refine norm_ (a' := ?_) ?_ ?_
   rotate_left
   ·show Act.put _ (some 18) _ = _
    simp only [Act.put, La_, Lb_, Lc_, i64_w, i32_w]
    rfl
   refine pure_ (i := 11) (N := some 21) (v := ?_) (a' := ?_) #[t_,t_,t_,t_,t_,t_,t_,t_,t_,t_,t_,t_,t_,t_,t_,f_,t_,t_,f_,f_] rfl rfl (any_of HT_.out (by kernel_rfl)) (fun _ _ _ h => h) (Or.inl ⟨by rfl, ?_⟩) ?_ ?_
   rotate_left
   ·intro w'
    go_simp
    with_reducible rfl
   rotate_left
   ·simp only [Act.put, La_, Lb_, Lc_, i64_w, i32_w]
    rfl
   refine pure_ (i := 15) (N := some 25) (v := ?_) (a' := ?_) #[t_,t_,t_,t_,t_,t_,t_,t_,t_,t_,t_,t_,t_,t_,t_,t_,t_,t_,f_,f_] rfl rfl (any_of HT_.out (by kernel_rfl)) (fun _ _ _ h => h) (Or.inl ⟨by rfl, ?_⟩) ?_ ?_
   rotate_left
   ·intro w'
    go_simp
    with_reducible rfl
   rotate_left
   ·simp only [Act.put, La_, Lb_, Lc_, i64_w, i32_w]
    rfl
   refine pure_ (i := 18) (N := some 28) (v := ?_) (a' := ?_) #[t_,t_,t_,t_,t_,t_,t_,t_,t_,t_,t_,t_,t_,t_,t_,t_,t_,t_,t_,f_] rfl rfl (any_of HT_.out (by kernel_rfl)) (fun _ _ _ h => h) (Or.inl ⟨by rfl, ?_⟩) ?_ ?_
   rotate_left
   ·intro w'
    go_simp
    with_reducible rfl
   rotate_left
   ·simp only [Act.put, La_, Lb_, Lc_, i64_w, i32_w]
    rfl
   refine pure_ (i := 19) (N := some 29) (v := ?_) (a' := ?_) #[t_,t_,t_,t_,t_,t_,t_,t_,t_,t_,t_,t_,t_,t_,t_,t_,t_,t_,t_,t_] rfl rfl (any_of HT_.out (by kernel_rfl)) (fun _ _ _ h => h) (Or.inl ⟨by rfl, ?_⟩) ?_ ?_
   rotate_left
   ·intro w'
    go_simp
    with_reducible rfl
   rotate_left
   ·simp only [Act.put, La_, Lb_, Lc_, i64_w, i32_w]
    rfl
   refine done_ (done_of HT_.out (by kernel_rfl)) ?_
   have hnb13 := NB350_351.out
   have hnc13 := NB351_350.out
   have hnb14 := NB350_352.out
   have hnc14 := NB352_350.out
   obtain ⟨hcz15_0, hcz15_1, hcz15_2, hfz15_0, hfz15_1, hfz15_2⟩ := Ce3_ BK350.out
   have hnb16 := NB352_351.out
   have hnc16 := NB351_352.out
   obtain ⟨hcz17_0, hcz17_1, hcz17_2, hfz17_0, hfz17_1, hfz17_2⟩ := Ce3_ BK352.out
   try go_wp2
   refine bodyPost_ret (results_ct rfl _ _ gb352 33 #[.slice A0_0 l0_0.length c0_0, .int .i64 a0_1, .int .i64 a0_2] (0, 0) _ rfl (by (with_reducible repeat (first | refine Bn_ ?_ _ | refine Bd_ ?_ | refine Ba_ ?_ _)); refine Bp_ (cs := #[.slice A0_0 l0_0.length c0_0, .int .i64 a0_1, .int .i64 0]) ?_ 2 _ rfl; (with_reducible repeat (first | refine Bn_ ?_ _ | refine Bd_ ?_ | refine Ba_ ?_ _)); refine Bp_ (cs := #[.slice A0_0 l0_0.length c0_0, .int .i64 0, .int .i64 0]) ?_ 1 _ rfl; (with_reducible repeat (first | refine Bn_ ?_ _ | refine Bd_ ?_ | refine Ba_ ?_ _)); refine Bp_ (cs := #[.slice none 0 0, .int .i64 0, .int .i64 0]) ?_ 0 _ rfl; (with_reducible repeat (first | refine Bn_ ?_ _ | refine Bd_ ?_ | refine Ba_ ?_ _)); exact BK352.out) Try.underlying33 rfl (by kernel_rfl)) rfl ?_
   exact ⟨_, by first | rfl | (simp [errW_none, errW_some] <;> rfl) | (simp [*, errW_none, errW_some] <;> rfl), by (with_reducible repeat (first | apply Va_ | apply Vn_ | apply Vd_)); exact Vm_ (Vf_ (p := ⟨gb352, 2, none⟩) (Vf_ (p := ⟨gb352, 1, none⟩) (Vf_ (p := ⟨gb352, 0, none⟩) (Vm_ HO0_0.out (fun k_ hk => (⟨hk, hk.2⟩ : _ ∧ k_ ≠ gb352))) (fun _ hk => hk.2) (.slice A0_0 l0_0.length c0_0)) (fun _ hk => hk.2) (.int .i64 a0_1)) (fun _ hk => hk.2) (.int .i64 a0_2)) (fun _ hk => hk.1.1.1.1), by repeat (first | (with_reducible first | exact HB.out | apply Pa_ | apply Pn_ | apply Pd_ | refine Bs_ ?_ GE350.out | refine Bs_ ?_ GE351.out | refine Bs_ ?_ GE352.out) | exact HB.out)⟩
  ·rw [if_neg c7] at H
   have c7b0 : decide (a0_2 < (wrap64 ((wrap64 (t353 + (a3.size : Int))) - (a2_6.size : Int)))) = false := Df_ c7
   clear c7
   replace H := Option.bind_eq_some_iff.mp H
   obtain ⟨⟨t354, t357, t358⟩, A180, H⟩ := H
   replace H : (some (t354, t357, t358, 0)) = some (r1, r2, r3, r4) := H
   have A18 := Am_ A180
   clear A180
   simp only [Option.some.injEq, Prod.mk.injEq] at H
   obtain ⟨rfl, rfl, rfl, rfl⟩ := H
   go_enter Try.func30, Try.ntmps30
   try go_wp2_with (first | ((with_reducible refine gate_dst (N := 4) rfl ?_); (try (refine gate_guard (by rfl) ?_; dsimp only)); refine box_event ?hg (N := 4) ?hd (cs := #[.slice A0_0 l0_0.length c0_0, .int .i64 a0_1, .int .i64 a0_2]) (t := 33) ?hr ?_; (case hd => rfl); (case hg => rfl); (case hr => go_simp; try rfl); intro gb350 hg w19 hbox hb; have n0_ := Am_ (Vb_ (Ke_ (Pv_ HO0_0.out) gb350 (Nat.le_of_eq hg.symm)) hb); have n1_ := Am_ (Vb_ (Ke_ (Pv_ HO2_7.out) gb350 (Nat.le_of_eq hg.symm)) hb); have n2_ := Am_ (Be_ (Pb0_ HB.out) hb); have n3_ := Am_ (hbox); have n4_ := Am_ ((by rw [hg]; exact (Bz_ (Pb0_ HB.out)) : w.heap.size ≤ gb350)); have n5_ := Am_ ((by rw [hg]; exact (Bz_ (Pb0_ HB.out)) : w.heap.size ≤ gb350)); clear HO0_0; clear HO2_7; clear HB; have HO0_0 := n0_; have HO2_7 := n1_; have HB := n2_; have BK350 := n3_; have GW350 := n4_; have GE350 := n5_; clear n0_ n1_ n2_ n3_ n4_ n5_; clear hb hbox hg) | ((with_reducible refine gate_dst (N := 6) rfl ?_); (try (refine gate_guard (by rfl) ?_; dsimp only)); refine box_event ?hg (N := 6) ?hd (cs := #[.int .i64 a2_0, .int .i64 a2_1, .int .i64 a2_2, .int .i64 a2_3, .int .i64 a2_4, .int .i64 a2_5, .string a2_6, .slice A2_7 l2_7.length c2_7]) (t := 53) ?hr ?_; (case hd => rfl); (case hg => rfl); (case hr => go_simp; try rfl); intro gb351 hg w20 hbox hb; have n0_ := Am_ (Vb_ (Ke_ (Pv_ HO0_0.out) gb351 (Nat.le_of_eq hg.symm)) hb); have n1_ := Am_ (Vb_ (Ke_ (Pv_ HO2_7.out) gb351 (Nat.le_of_eq hg.symm)) hb); have n2_ := Am_ (Bb_ (g := gb350) (o := .cells #[.slice A0_0 l0_0.length c0_0, .int .i64 a0_1, .int .i64 a0_2] 33 (0, 0)) (Pk_ BK350.out) hb); have n3_ := Am_ (Be_ (Pb1_ HB.out GE350.out) hb); have n4_ := Am_ (hbox); have n5_ := Am_ ((by rw [hg]; exact (Bz_ (Pb1_ HB.out GE350.out)) : w.heap.size ≤ gb351)); have n6_ := Am_ ((by rw [hg]; exact (Bz_ (Pb1_ HB.out GE350.out)) : w.heap.size ≤ gb351)); have n7_ := Am_ ((by rw [hg]; exact Nat.ne_of_lt (blk_lt (g := gb350) (o := .cells #[.slice A0_0 l0_0.length c0_0, .int .i64 a0_1, .int .i64 a0_2] 33 (0, 0)) (Pk_ BK350.out)) : gb350 ≠ gb351)); have n8_ := Am_ ((by rw [hg]; exact Nat.ne_of_gt (blk_lt (g := gb350) (o := .cells #[.slice A0_0 l0_0.length c0_0, .int .i64 a0_1, .int .i64 a0_2] 33 (0, 0)) (Pk_ BK350.out)) : gb351 ≠ gb350)); clear HO0_0; clear HO2_7; clear BK350; clear HB; have HO0_0 := n0_; have HO2_7 := n1_; have BK350 := n2_; have HB := n3_; have BK351 := n4_; have GW351 := n5_; have GE351 := n6_; have NB350_351 := n7_; have NB351_350 := n8_; clear n0_ n1_ n2_ n3_ n4_ n5_ n6_ n7_ n8_; clear hb hbox hg) | ((with_reducible refine gate_dst (N := 8) rfl ?_); (try (refine gate_guard (by rfl) ?_; dsimp only)); refine box_event ?hg (N := 8) ?hd (cs := #[.slice none 0 0, .int .i64 0, .int .i64 0]) (t := 33) ?hr ?_; (case hd => rfl); (case hg => rfl); (case hr => go_simp; try rfl); intro gb352 hg w21 hbox hb; have n0_ := Am_ (Vb_ (Ke_ (Pv_ HO0_0.out) gb352 (Nat.le_of_eq hg.symm)) hb); have n1_ := Am_ (Vb_ (Ke_ (Pv_ HO2_7.out) gb352 (Nat.le_of_eq hg.symm)) hb); have n2_ := Am_ (Bb_ (g := gb350) (o := .cells #[.slice A0_0 l0_0.length c0_0, .int .i64 a0_1, .int .i64 a0_2] 33 (0, 0)) (Pk_ BK350.out) hb); have n3_ := Am_ (Bb_ (g := gb351) (o := .cells #[.int .i64 a2_0, .int .i64 a2_1, .int .i64 a2_2, .int .i64 a2_3, .int .i64 a2_4, .int .i64 a2_5, .string a2_6, .slice A2_7 l2_7.length c2_7] 53 (0, 0)) (Pk_ BK351.out) hb); have n4_ := Am_ (Be_ (Pb2_ HB.out GE350.out GE351.out) hb); have n5_ := Am_ (hbox); have n6_ := Am_ ((by rw [hg]; exact (Bz_ (Pb2_ HB.out GE350.out GE351.out)) : w.heap.size ≤ gb352)); have n7_ := Am_ ((by rw [hg]; exact (Bz_ (Pb2_ HB.out GE350.out GE351.out)) : w.heap.size ≤ gb352)); have n8_ := Am_ ((by rw [hg]; exact Nat.ne_of_lt (blk_lt (g := gb350) (o := .cells #[.slice A0_0 l0_0.length c0_0, .int .i64 a0_1, .int .i64 a0_2] 33 (0, 0)) (Pk_ BK350.out)) : gb350 ≠ gb352)); have n9_ := Am_ ((by rw [hg]; exact Nat.ne_of_gt (blk_lt (g := gb350) (o := .cells #[.slice A0_0 l0_0.length c0_0, .int .i64 a0_1, .int .i64 a0_2] 33 (0, 0)) (Pk_ BK350.out)) : gb352 ≠ gb350)); have n10_ := Am_ ((by rw [hg]; exact Nat.ne_of_lt (blk_lt (g := gb351) (o := .cells #[.int .i64 a2_0, .int .i64 a2_1, .int .i64 a2_2, .int .i64 a2_3, .int .i64 a2_4, .int .i64 a2_5, .string a2_6, .slice A2_7 l2_7.length c2_7] 53 (0, 0)) (Pk_ BK351.out)) : gb351 ≠ gb352)); have n11_ := Am_ ((by rw [hg]; exact Nat.ne_of_gt (blk_lt (g := gb351) (o := .cells #[.int .i64 a2_0, .int .i64 a2_1, .int .i64 a2_2, .int .i64 a2_3, .int .i64 a2_4, .int .i64 a2_5, .string a2_6, .slice A2_7 l2_7.length c2_7] 53 (0, 0)) (Pk_ BK351.out)) : gb352 ≠ gb351)); clear HO0_0; clear HO2_7; clear BK350; clear BK351; clear HB; have HO0_0 := n0_; have HO2_7 := n1_; have BK350 := n2_; have BK351 := n3_; have HB := n4_; have BK352 := n5_; have GW352 := n6_; have GE352 := n7_; have NB350_352 := n8_; have NB352_350 := n9_; have NB351_352 := n10_; have NB352_351 := n11_; clear n0_ n1_ n2_ n3_ n4_ n5_ n6_ n7_ n8_ n9_ n10_ n11_; clear hb hbox hg))
   have n0_ := Am_ (Vd_ HO0_0.out)
   have n1_ := Am_ (Vd_ HO2_7.out)
   have n2_ := Am_ (Bd_ BK350.out)
   have n3_ := Am_ (Bd_ BK351.out)
   have n4_ := Am_ (Bd_ BK352.out)
   have n5_ := Am_ (Pd_ HB.out)
   clear HO0_0
   clear HO2_7
   clear BK350
   clear BK351
   clear BK352
   clear HB
   have HO0_0 := n0_
   have HO2_7 := n1_
   have BK350 := n2_
   have BK351 := n3_
   have BK352 := n4_
   have HB := n5_
   clear n0_ n1_ n2_ n3_ n4_ n5_
   refine start_ (n := 20) (S := fun w' => w'.cell? ⟨gb351, 0, none⟩ = some (.int .i64 a2_0) ∧ w'.cell? ⟨gb351, 1, none⟩ = some (.int .i64 a2_1) ∧ w'.cell? ⟨gb351, 2, none⟩ = some (.int .i64 a2_2) ∧ w'.cell? ⟨gb351, 3, none⟩ = some (.int .i64 a2_3) ∧ w'.cell? ⟨gb351, 4, none⟩ = some (.int .i64 a2_4) ∧ w'.cell? ⟨gb351, 5, none⟩ = some (.int .i64 a2_5) ∧ w'.cell? ⟨gb351, 6, none⟩ = some (.string a2_6) ∧ w'.cell? ⟨gb351, 7, none⟩ = some (.slice A2_7 l2_7.length c2_7) ∧ w'.cell? ⟨gb350, 0, none⟩ = some (.slice A0_0 l0_0.length c0_0) ∧ w'.cell? ⟨gb350, 1, none⟩ = some (.int .i64 a0_1) ∧ w'.cell? ⟨gb350, 2, none⟩ = some (.int .i64 a0_2)) (ds := []) #[f_,f_,f_,f_,f_,f_,f_,f_,f_,f_,f_,f_,f_,f_,f_,f_,f_,f_,f_,f_] (by kernel_rfl) rfl rfl ⟨(Bc_ BK351.out 0).trans rfl, (Bc_ BK351.out 1).trans rfl, (Bc_ BK351.out 2).trans rfl, (Bc_ BK351.out 3).trans rfl, (Bc_ BK351.out 4).trans rfl, (Bc_ BK351.out 5).trans rfl, (Bc_ BK351.out 6).trans rfl, (Bc_ BK351.out 7).trans rfl, (Bc_ BK350.out 0).trans rfl, (Bc_ BK350.out 1).trans rfl, (Bc_ BK350.out 2).trans rfl⟩ (fun hHeld => ?_); refine with_tabW flagstoneref09_kept.tab1 flagstoneref09_kept.bits1 (fun HT_ HW_ => ?_)
   generalize w21.drew = w22 at HO0_0 HO2_7 BK350 BK351 BK352 HB hHeld ⊢
   refine pure_ (i := 0) (N := some 10) (v := ?_) (a' := ?_) #[t_,f_,f_,f_,f_,f_,f_,f_,f_,f_,f_,f_,f_,f_,f_,f_,f_,f_,f_,f_] rfl rfl (any_of HT_.out (by kernel_rfl)) (fun _ _ _ h => h) (Or.inl ⟨by rfl, ?_⟩) ?_ ?_
   rotate_left
   ·intro w'
    go_simp
    with_reducible rfl
   rotate_left
   ·simp only [Act.put, La_, Lb_, Lc_, i64_w, i32_w]
    rfl
   refine pure_ (i := 1) (N := some 11) (v := ?_) (a' := ?_) #[t_,t_,f_,f_,f_,f_,f_,f_,f_,f_,f_,f_,f_,f_,f_,f_,f_,f_,f_,f_] rfl rfl (any_of HT_.out (by kernel_rfl)) (fun _ _ _ h => h) (Or.inl ⟨by rfl, ?_⟩) ?_ ?_
   rotate_left
   ·intro w'
    go_simp
    with_reducible rfl
   rotate_left
   ·simp only [Act.put, La_, Lb_, Lc_, i64_w, i32_w]
    rfl
   refine pure_ (i := 2) (N := some 12) (v := ?_) (a' := ?_) #[t_,t_,t_,f_,f_,f_,f_,f_,f_,f_,f_,f_,f_,f_,f_,f_,f_,f_,f_,f_] rfl rfl (any_of HT_.out (by kernel_rfl)) (fun _ _ _ h => h) (Or.inl ⟨by rfl, ?_⟩) ?_ ?_
   rotate_left
   ·intro w'
    go_simp
    with_reducible rfl
   rotate_left
   ·simp only [Act.put, La_, Lb_, Lc_, i64_w, i32_w]
    rfl
   refine take_ (i := 3) (N := some 13) (v := ?_) (a' := ?_) #[t_,t_,t_,t_,f_,f_,f_,f_,f_,f_,f_,f_,f_,f_,f_,f_,f_,f_,f_,f_] rfl rfl (take_ofW HT_.out HW_.out (by kernel_rfl)) (fun _ _ _ h => h) (Or.inl ⟨by rfl, ?_⟩) hHeld ?_ ?_
   rotate_left
   ·rintro w' ⟨s0, s1, s2, s3, s4, s5, s6, s7, s8, s9, s10⟩
    go_simp
    with_reducible rfl
   rotate_left
   ·simp only [Act.put, La_, Lb_, Lc_, i64_w, i32_w]
    rfl
   refine pure_ (i := 4) (N := some 14) (v := ?_) (a' := ?_) #[t_,t_,t_,t_,t_,f_,f_,f_,f_,f_,f_,f_,f_,f_,f_,f_,f_,f_,f_,f_] rfl rfl (any_of HT_.out (by kernel_rfl)) (fun _ _ _ h => h) (Or.inl ⟨by rfl, ?_⟩) ?_ ?_
   rotate_left
   ·intro w'
    go_simp
    with_reducible rfl
   rotate_left
   ·simp only [Act.put, La_, Lb_, Lc_, i64_w, i32_w]
    rfl
   refine pure_ (i := 5) (N := some 15) (v := ?_) (a' := ?_) #[t_,t_,t_,t_,t_,t_,f_,f_,f_,f_,f_,f_,f_,f_,f_,f_,f_,f_,f_,f_] rfl rfl (any_of HT_.out (by kernel_rfl)) (fun _ _ _ h => h) (Or.inl ⟨by rfl, ?_⟩) ?_ ?_
   rotate_left
   ·intro w'
    go_simp
    with_reducible rfl
   rotate_left
   ·simp only [Act.put, La_, Lb_, Lc_, i64_w, i32_w]
    rfl
   refine pure_ (i := 6) (N := some 16) (v := ?_) (a' := ?_) #[t_,t_,t_,t_,t_,t_,t_,f_,f_,f_,f_,f_,f_,f_,f_,f_,f_,f_,f_,f_] rfl rfl (any_of HT_.out (by kernel_rfl)) (fun _ _ _ h => h) (Or.inl ⟨by rfl, ?_⟩) ?_ ?_
   rotate_left
   ·intro w'
    go_simp
    with_reducible rfl
   rotate_left
   ·simp only [Act.put, La_, Lb_, Lc_, i64_w, i32_w]
    rfl
   refine pure_ (i := 9) (N := some 19) (v := ?_) (a' := ?_) #[t_,t_,t_,t_,t_,t_,t_,f_,f_,t_,f_,f_,f_,f_,f_,f_,f_,f_,f_,f_] rfl rfl (any_of HT_.out (by kernel_rfl)) (fun _ _ _ h => h) (Or.inl ⟨by rfl, ?_⟩) ?_ ?_
   rotate_left
   ·intro w'
    go_simp
    with_reducible rfl
   rotate_left
   ·simp only [Act.put, La_, Lb_, Lc_, i64_w, i32_w]
    rfl
   refine pure_ (i := 10) (N := some 20) (v := ?_) (a' := ?_) #[t_,t_,t_,t_,t_,t_,t_,f_,f_,t_,t_,f_,f_,f_,f_,f_,f_,f_,f_,f_] rfl rfl (any_of HT_.out (by kernel_rfl)) (fun _ _ _ h => h) (Or.inl ⟨by rfl, ?_⟩) ?_ ?_
   rotate_left
   ·intro w'
    go_simp
    with_reducible rfl
   rotate_left
   ·simp only [Act.put, La_, Lb_, Lc_, i64_w, i32_w]
    rfl
   refine pure_ (i := 12) (N := some 22) (v := ?_) (a' := ?_) #[t_,t_,t_,t_,t_,t_,t_,f_,f_,t_,t_,f_,t_,f_,f_,f_,f_,f_,f_,f_] rfl rfl (any_of HT_.out (by kernel_rfl)) (fun _ _ _ h => h) (Or.inl ⟨by rfl, ?_⟩) ?_ ?_
   rotate_left
   ·intro w'
    go_simp
    with_reducible rfl
   rotate_left
   ·simp only [Act.put, La_, Lb_, Lc_, i64_w, i32_w]
    rfl
   refine pure_ (i := 16) (N := some 26) (v := ?_) (a' := ?_) #[t_,t_,t_,t_,t_,t_,t_,f_,f_,t_,t_,f_,t_,f_,f_,f_,t_,f_,f_,f_] rfl rfl (any_of HT_.out (by kernel_rfl)) (fun _ _ _ h => h) (Or.inl ⟨by rfl, ?_⟩) ?_ ?_
   rotate_left
   ·intro w'
    go_simp
    with_reducible rfl
   rotate_left
   ·simp only [Act.put, La_, Lb_, Lc_, i64_w, i32_w]
    rfl
   refine take_ (i := 7) (N := some 17) (v := ?_) (a' := ?_) #[t_,t_,t_,t_,t_,t_,t_,t_,f_,t_,t_,f_,t_,f_,f_,f_,t_,f_,f_,f_] rfl rfl (take_ofW HT_.out HW_.out (by kernel_rfl)) (fun _ _ _ h => h) (Or.inl ⟨by rfl, ?_⟩) hHeld ?_ ?_
   rotate_left
   ·rintro w' ⟨s0, s1, s2, s3, s4, s5, s6, s7, s8, s9, s10⟩
    go_simp
    with_reducible rfl
   rotate_left
   ·simp only [Act.put, La_, Lb_, Lc_, i64_w, i32_w]
    rfl
   refine take_ (i := 13) (N := some 23) (v := ?_) (a' := ?_) #[t_,t_,t_,t_,t_,t_,t_,t_,f_,t_,t_,f_,t_,t_,f_,f_,t_,f_,f_,f_] rfl rfl (take_ofW HT_.out HW_.out (by kernel_rfl)) (fun _ _ _ h => h) (Or.inl ⟨by rfl, ?_⟩) hHeld ?_ ?_
   rotate_left
   ·rintro w' ⟨s0, s1, s2, s3, s4, s5, s6, s7, s8, s9, s10⟩
    go_simp
    with_reducible rfl
   rotate_left
   ·simp only [Act.put, La_, Lb_, Lc_, i64_w, i32_w]
    rfl
   refine pure_ (i := 14) (N := some 24) (v := ?_) (a' := ?_) #[t_,t_,t_,t_,t_,t_,t_,t_,f_,t_,t_,f_,t_,t_,t_,f_,t_,f_,f_,f_] rfl rfl (any_of HT_.out (by kernel_rfl)) (fun _ _ _ h => h) (Or.inl ⟨by rfl, ?_⟩) ?_ ?_
   rotate_left
   ·intro w'
    go_simp
    with_reducible rfl
   rotate_left
   ·simp only [Act.put, La_, Lb_, Lc_, i64_w, i32_w]
    rfl
   refine take_ (i := 17) (N := some 27) (v := ?_) (a' := ?_) #[t_,t_,t_,t_,t_,t_,t_,t_,f_,t_,t_,f_,t_,t_,t_,f_,t_,t_,f_,f_] rfl rfl (take_ofW HT_.out HW_.out (by kernel_rfl)) (fun _ _ _ h => h) (Or.inl ⟨by rfl, ?_⟩) hHeld ?_ ?_
   rotate_left
   ·rintro w' ⟨s0, s1, s2, s3, s4, s5, s6, s7, s8, s9, s10⟩
    go_simp
    with_reducible rfl
   rotate_left
   ·simp only [Act.put, La_, Lb_, Lc_, i64_w, i32_w]
    rfl
   refine one_ (i := 8) (N := some 18) #[t_,t_,t_,t_,t_,t_,t_,t_,t_,t_,t_,f_,t_,t_,t_,f_,t_,t_,f_,f_] rfl rfl (one_of HT_.out (by kernel_rfl)) (by decide) (fun K hK => ?_)
   refine goes_ Try.func21 (by kernel_rfl) rfl #[.agg #[.slice A0_0 l0_0.length c0_0, .int .i64 a0_1, .int .i64 a0_2]] (by rfl) rfl rfl (by (try simp only [List.map_toArray, List.map_cons, List.map_nil]); first | done | rfl | (simp only [List.length_drop, List.length_take]; rfl)) ?_
   with_reducible refine (flagstoneref06_Bytes.calls k _ _ l0_0 a0_1 a0_2 t353 _ ?side1 ?side2 A6.out).mono ?_
   (case side1 => repeat (first | exact (Vr_ HO0_0.out).2.2 | (with_reducible refine Kd.C_alloc ?_ _) | (with_reducible refine Kd.C_drewN ?_ _) | (with_reducible refine Kd.C_drew ?_)))
   (case side2 => exact (Vr_ HO0_0.out).2.1)
   rintro e w23 ⟨rfl, hb⟩
   refine ⟨_, rfl, ?_⟩
   have n0_ := Am_ (Vb_ (Pv_ HO0_0.out) hb)
   have n1_ := Am_ (Vb_ (Pv_ HO2_7.out) hb)
   have n2_ := Am_ (Bb_ (g := gb350) (o := .cells #[.slice A0_0 l0_0.length c0_0, .int .i64 a0_1, .int .i64 a0_2] 33 (0, 0)) (Pk_ BK350.out) hb)
   have n3_ := Am_ (Bb_ (g := gb351) (o := .cells #[.int .i64 a2_0, .int .i64 a2_1, .int .i64 a2_2, .int .i64 a2_3, .int .i64 a2_4, .int .i64 a2_5, .string a2_6, .slice A2_7 l2_7.length c2_7] 53 (0, 0)) (Pk_ BK351.out) hb)
   have n4_ := Am_ (Bb_ (g := gb352) (o := .cells #[.slice none 0 0, .int .i64 0, .int .i64 0] 33 (0, 0)) (Pk_ BK352.out) hb)
   have n5_ := Am_ (Be_ (Pb3_ HB.out GE350.out GE351.out GE352.out) hb)
   clear HO0_0
   clear HO2_7
   clear BK350
   clear BK351
   clear BK352
   clear HB
   have HO0_0 := n0_
   have HO2_7 := n1_
   have BK350 := n2_
   have BK351 := n3_
   have BK352 := n4_
   have HB := n5_
   clear n0_ n1_ n2_ n3_ n4_ n5_
   (try clear hb)
   (try clear hb2)
   (try clear hk)
   (try clear hi)
   refine hK.out _ _ ⟨(Bc_ BK351.out 0).trans rfl, (Bc_ BK351.out 1).trans rfl, (Bc_ BK351.out 2).trans rfl, (Bc_ BK351.out 3).trans rfl, (Bc_ BK351.out 4).trans rfl, (Bc_ BK351.out 5).trans rfl, (Bc_ BK351.out 6).trans rfl, (Bc_ BK351.out 7).trans rfl, (Bc_ BK350.out 0).trans rfl, (Bc_ BK350.out 1).trans rfl, (Bc_ BK350.out 2).trans rfl⟩ (fun hHeld => ?_)
   clear hK K
   refine norm_ (a' := ?_) ?_ ?_
   rotate_left
   ·show Act.put _ (some 18) _ = _
    simp only [Act.put, La_, Lb_, Lc_, i64_w, i32_w]
    rfl
   refine pure_ (i := 11) (N := some 21) (v := ?_) (a' := ?_) #[t_,t_,t_,t_,t_,t_,t_,t_,t_,t_,t_,t_,t_,t_,t_,f_,t_,t_,f_,f_] rfl rfl (any_of HT_.out (by kernel_rfl)) (fun _ _ _ h => h) (Or.inl ⟨by rfl, ?_⟩) ?_ ?_
   rotate_left
   ·intro w'
    go_simp
    with_reducible rfl
   rotate_left
   ·simp only [Act.put, La_, Lb_, Lc_, i64_w, i32_w]
    rfl
   refine pure_ (i := 15) (N := some 25) (v := ?_) (a' := ?_) #[t_,t_,t_,t_,t_,t_,t_,t_,t_,t_,t_,t_,t_,t_,t_,t_,t_,t_,f_,f_] rfl rfl (any_of HT_.out (by kernel_rfl)) (fun _ _ _ h => h) (Or.inl ⟨by rfl, ?_⟩) ?_ ?_
   rotate_left
   ·intro w'
    go_simp
    with_reducible rfl
   rotate_left
   ·simp only [Act.put, La_, Lb_, Lc_, i64_w, i32_w]
    rfl
   refine pure_ (i := 18) (N := some 28) (v := ?_) (a' := ?_) #[t_,t_,t_,t_,t_,t_,t_,t_,t_,t_,t_,t_,t_,t_,t_,t_,t_,t_,t_,f_] rfl rfl (any_of HT_.out (by kernel_rfl)) (fun _ _ _ h => h) (Or.inl ⟨by rfl, ?_⟩) ?_ ?_
   rotate_left
   ·intro w'
    go_simp
    with_reducible rfl
   rotate_left
   ·simp only [Act.put, La_, Lb_, Lc_, i64_w, i32_w]
    rfl
   refine pure_ (i := 19) (N := some 29) (v := ?_) (a' := ?_) #[t_,t_,t_,t_,t_,t_,t_,t_,t_,t_,t_,t_,t_,t_,t_,t_,t_,t_,t_,t_] rfl rfl (any_of HT_.out (by kernel_rfl)) (fun _ _ _ h => h) (Or.inl ⟨by rfl, ?_⟩) ?_ ?_
   rotate_left
   ·intro w'
    go_simp
    with_reducible rfl
   rotate_left
   ·simp only [Act.put, La_, Lb_, Lc_, i64_w, i32_w]
    rfl
   refine done_ (done_of HT_.out (by kernel_rfl)) ?_
   have hnb24 := NB351_350.out
   have hnc24 := NB350_351.out
   have hnb25 := NB351_352.out
   have hnc25 := NB352_351.out
   obtain ⟨hcz26_0, hcz26_1, hcz26_2, hcz26_3, hcz26_4, hcz26_5, hcz26_6, hcz26_7, hfz26_0, hfz26_1, hfz26_2, hfz26_3, hfz26_4, hfz26_5, hfz26_6, hfz26_7⟩ := Ce8_ BK351.out
   try go_wp2_with (first | ((with_reducible refine gate_store (t := 9) (p := 32) rfl ?_); refine store_event (t := 9) (p := 32) (v := ?vo_w27) (w1 := (w23.setCell ⟨gb351, 6, none⟩ (.string a3))) ?hg ?ho ?hn ?hr ?_; (case ho => rfl); (case hg => rfl); (case hn => rfl); (case hr => go_simp; try rfl); intro w27 hw; have n0_ : Aside0 (Kd.V k53 53 w27 w.heap.size (fun k_ => ((P0_0_ k_ ∨ P2_7_ k_) ∨ w.heap.size ≤ k_) ∧ k_ ≠ gb350 ∧ k_ ≠ gb351 ∧ k_ ≠ gb352) (.slice A0_0 l0_0.length c0_0) l0_0) := ⟨(by rw [hw]; exact (by (with_reducible repeat (first | apply Va_ | apply Vn_ | apply Vd_)); exact Vm_ (Vf_ (p := ⟨gb351, 6, none⟩) (Vm_ HO0_0.out (fun k_ hk => (⟨hk, hk.1.2⟩ : _ ∧ k_ ≠ gb351))) (fun _ hk => hk.2) (.string a3)) (fun _ hk => ⟨hk.1.1.1.1, ⟨hk.1.1.1.2, ⟨hk.1.1.2, hk.1.2⟩⟩⟩)))⟩; have n1_ : Aside0 (Kd.V k75 75 w27 w.heap.size (fun k_ => ((P0_0_ k_ ∨ P2_7_ k_) ∨ w.heap.size ≤ k_) ∧ k_ ≠ gb350 ∧ k_ ≠ gb351 ∧ k_ ≠ gb352) (.slice A2_7 l2_7.length c2_7) l2_7) := ⟨(by rw [hw]; exact (by (with_reducible repeat (first | apply Va_ | apply Vn_ | apply Vd_)); exact Vm_ (Vf_ (p := ⟨gb351, 6, none⟩) (Vm_ HO2_7.out (fun k_ hk => (⟨hk, hk.1.2⟩ : _ ∧ k_ ≠ gb351))) (fun _ hk => hk.2) (.string a3)) (fun _ hk => ⟨hk.1.1.1.1, ⟨hk.1.1.1.2, ⟨hk.1.1.2, hk.1.2⟩⟩⟩)))⟩; have n2_ : Aside0 (w27.heap[gb350]? = some (.cells #[.slice A0_0 l0_0.length c0_0, .int .i64 a0_1, .int .i64 a0_2] 33 (0, 0))) := ⟨(by rw [hw]; exact (by (with_reducible repeat (first | refine Bn_ ?_ _ | refine Bd_ ?_ | refine Ba_ ?_ _)); refine blk_far ?_ NB350_351.out _; (with_reducible repeat (first | refine Bn_ ?_ _ | refine Bd_ ?_ | refine Ba_ ?_ _)); exact BK350.out))⟩; have n3_ : Aside0 (w27.heap[gb351]? = some (.cells #[.int .i64 a2_0, .int .i64 a2_1, .int .i64 a2_2, .int .i64 a2_3, .int .i64 a2_4, .int .i64 a2_5, .string a3, .slice A2_7 l2_7.length c2_7] 53 (0, 0))) := ⟨(by rw [hw]; exact (by (with_reducible repeat (first | refine Bn_ ?_ _ | refine Bd_ ?_ | refine Ba_ ?_ _)); refine Bp_ (cs := #[.int .i64 a2_0, .int .i64 a2_1, .int .i64 a2_2, .int .i64 a2_3, .int .i64 a2_4, .int .i64 a2_5, .string a2_6, .slice A2_7 l2_7.length c2_7]) ?_ 6 _ rfl; (with_reducible repeat (first | refine Bn_ ?_ _ | refine Bd_ ?_ | refine Ba_ ?_ _)); exact BK351.out))⟩; have n4_ : Aside0 (w27.heap[gb352]? = some (.cells #[.slice none 0 0, .int .i64 0, .int .i64 0] 33 (0, 0))) := ⟨(by rw [hw]; exact (by (with_reducible repeat (first | refine Bn_ ?_ _ | refine Bd_ ?_ | refine Ba_ ?_ _)); refine blk_far ?_ NB352_351.out _; (with_reducible repeat (first | refine Bn_ ?_ _ | refine Bd_ ?_ | refine Ba_ ?_ _)); exact BK352.out))⟩; have n5_ : Aside0 (Below w.heap.size w w27) := ⟨(by rw [hw]; exact (Pb3_ HB.out GE350.out GE351.out GE352.out))⟩; clear hw; clear HO0_0; clear HO2_7; clear BK350; clear BK351; clear BK352; clear HB; have HO0_0 := n0_; have HO2_7 := n1_; have BK350 := n2_; have BK351 := n3_; have BK352 := n4_; have HB := n5_; clear n0_ n1_ n2_ n3_ n4_ n5_; have hnb28 := NB350_352.out; have hnc28 := NB352_350.out; obtain ⟨hcz29_0, hcz29_1, hcz29_2, hfz29_0, hfz29_1, hfz29_2⟩ := Ce3_ BK350.out; obtain ⟨hcz30_0, hcz30_1, hcz30_2, hcz30_3, hcz30_4, hcz30_5, hcz30_6, hcz30_7, hfz30_0, hfz30_1, hfz30_2, hfz30_3, hfz30_4, hfz30_5, hfz30_6, hfz30_7⟩ := Ce8_ BK351.out) | ((with_reducible refine gate_callee (f := 38) rfl ?_); refine goesL_ (some 36) rfl rfl Try.func38 (by kernel_rfl) rfl #[.agg #[.slice A0_0 l0_0.length c0_0, .int .i64 a0_1, .int .i64 a0_2], .int .i64 a1, .agg #[.int .i64 a2_0, .int .i64 a2_1, .int .i64 a2_2, .int .i64 a2_3, .int .i64 a2_4, .int .i64 a2_5, .string a3, .slice A2_7 l2_7.length c2_7]] rfl (by (try simp only [List.map_toArray, List.map_cons, List.map_nil]); first | done | rfl | (simp only [List.length_drop, List.length_take]; rfl)) ?_; (with_reducible refine (flagstoneref06_Set.calls (fun k_ => (((P0_0_ k_ ∨ P2_7_ k_) ∨ w.heap.size ≤ k_) ∧ (k_ ≠ gb350 ∧ (k_ ≠ gb351 ∧ k_ ≠ gb352)))) _ _ l0_0 a0_1 a0_2 a1 a2_0 a2_1 a2_2 a2_3 a2_4 a2_5 a3 (fun k_ => (((P0_0_ k_ ∨ P2_7_ k_) ∨ w.heap.size ≤ k_) ∧ (k_ ≠ gb350 ∧ (k_ ≠ gb351 ∧ k_ ≠ gb352)))) _ _ l2_7 t354 t357 t358 _ ?side1 ?side2 A18.out).mono ?_); (case side1 => exact HO0_0.out); (case side2 => exact HO2_7.out); rintro e w31 ⟨v355, rfl, ho0, hb⟩; refine ⟨_, rfl, ?_⟩; have n0_ := Am_ (Vb_ (Pv_ HO0_0.out) hb); have n1_ := Am_ (Vb_ (Pv_ HO2_7.out) hb); have n2_ := Am_ (Vl_ (Vm_ (ok' := fun k_ => ((P0_0_ k_ ∨ P2_7_ k_) ∨ w.heap.size ≤ k_) ∧ k_ ≠ gb350 ∧ k_ ≠ gb351 ∧ k_ ≠ gb352) ho0 (fun k_ hk_ => ⟨Or.elim hk_ (fun hs_ => Or.elim hs_ (fun hs_ => hs_.1) (fun hs_ => hs_.1)) (fun hn_ => (.inr (Nat.le_trans (Bz_ (Pb3_ HB.out GE350.out GE351.out GE352.out)) hn_))), Or.elim hk_ (fun hs_ => Or.elim hs_ (fun hs_ => hs_.2.1) (fun hs_ => hs_.2.1)) (fun hn_ => (Kd.freshB (g := gb350) (o := .cells #[.slice A0_0 l0_0.length c0_0, .int .i64 a0_1, .int .i64 a0_2] 33 (0, 0)) (Pk_ BK350.out) k_ hn_)), Or.elim hk_ (fun hs_ => Or.elim hs_ (fun hs_ => hs_.2.2.1) (fun hs_ => hs_.2.2.1)) (fun hn_ => (Kd.freshB (g := gb351) (o := .cells #[.int .i64 a2_0, .int .i64 a2_1, .int .i64 a2_2, .int .i64 a2_3, .int .i64 a2_4, .int .i64 a2_5, .string a3, .slice A2_7 l2_7.length c2_7] 53 (0, 0)) (Pk_ BK351.out) k_ hn_)), Or.elim hk_ (fun hs_ => Or.elim hs_ (fun hs_ => hs_.2.2.2) (fun hs_ => hs_.2.2.2)) (fun hn_ => (Kd.freshB (g := gb352) (o := .cells #[.slice none 0 0, .int .i64 0, .int .i64 0] 33 (0, 0)) (Pk_ BK352.out) k_ hn_))⟩)) (Bz_ (Pb3_ HB.out GE350.out GE351.out GE352.out))); have n3_ := Am_ (Bb_ (g := gb350) (o := .cells #[.slice A0_0 l0_0.length c0_0, .int .i64 a0_1, .int .i64 a0_2] 33 (0, 0)) (Pk_ BK350.out) hb); have n4_ := Am_ (Bb_ (g := gb351) (o := .cells #[.int .i64 a2_0, .int .i64 a2_1, .int .i64 a2_2, .int .i64 a2_3, .int .i64 a2_4, .int .i64 a2_5, .string a3, .slice A2_7 l2_7.length c2_7] 53 (0, 0)) (Pk_ BK351.out) hb); have n5_ := Am_ (Bb_ (g := gb352) (o := .cells #[.slice none 0 0, .int .i64 0, .int .i64 0] 33 (0, 0)) (Pk_ BK352.out) hb); have n6_ := Am_ (Be_ (Pb3_ HB.out GE350.out GE351.out GE352.out) hb); clear HO0_0; clear HO2_7; clear BK350; clear BK351; clear BK352; clear HB; have HO0_0 := n0_; have HO2_7 := n1_; have HO356 := n2_; have BK350 := n3_; have BK351 := n4_; have BK352 := n5_; have HB := n6_; clear n0_ n1_ n2_ n3_ n4_ n5_ n6_; (try clear hb); (try clear hb2); (try clear hk); (try clear hi); (try clear ho0); obtain ⟨Ao32, co32, eo32⟩ := Vx_ HO356.out; subst eo32; obtain ⟨hcz33_0, hcz33_1, hcz33_2, hfz33_0, hfz33_1, hfz33_2⟩ := Ce3_ BK352.out))
   refine bodyPost_ret (results_ct rfl _ _ gb352 33 #[.slice Ao32 t354.length co32, .int .i64 t357, .int .i64 t358] (0, 0) _ rfl (by (with_reducible repeat (first | refine Bn_ ?_ _ | refine Bd_ ?_ | refine Ba_ ?_ _)); refine Bp_ (cs := #[.slice Ao32 t354.length co32, .int .i64 t357, .int .i64 0]) ?_ 2 _ rfl; (with_reducible repeat (first | refine Bn_ ?_ _ | refine Bd_ ?_ | refine Ba_ ?_ _)); refine Bp_ (cs := #[.slice Ao32 t354.length co32, .int .i64 0, .int .i64 0]) ?_ 1 _ rfl; (with_reducible repeat (first | refine Bn_ ?_ _ | refine Bd_ ?_ | refine Ba_ ?_ _)); refine Bp_ (cs := #[.slice none 0 0, .int .i64 0, .int .i64 0]) ?_ 0 _ rfl; (with_reducible repeat (first | refine Bn_ ?_ _ | refine Bd_ ?_ | refine Ba_ ?_ _)); exact BK352.out) Try.underlying33 rfl (by kernel_rfl)) rfl ?_
   exact ⟨_, by first | rfl | (simp [errW_none, errW_some] <;> rfl) | (simp [*, errW_none, errW_some] <;> rfl), by (with_reducible repeat (first | apply Va_ | apply Vn_ | apply Vd_)); exact Vm_ (Vf_ (p := ⟨gb352, 2, none⟩) (Vf_ (p := ⟨gb352, 1, none⟩) (Vf_ (p := ⟨gb352, 0, none⟩) (Vm_ HO356.out (fun k_ hk => (⟨hk, hk.2.2.2⟩ : _ ∧ k_ ≠ gb352))) (fun _ hk => hk.2) (.slice Ao32 t354.length co32)) (fun _ hk => hk.2) (.int .i64 t357)) (fun _ hk => hk.2) (.int .i64 t358)) (fun _ hk => hk.1.1), by repeat (first | (with_reducible first | exact HB.out | apply Pa_ | apply Pn_ | apply Pd_ | refine Bs_ ?_ GE350.out | refine Bs_ ?_ GE351.out | refine Bs_ ?_ GE352.out) | exact HB.out)⟩
 ·rw [if_neg c5] at H
  have c5b0 : decide ((a2_6.size : Int) < (a3.size : Int)) = false := Df_ c5
  have c5b1 : decide (a2_6.size < a3.size) = false := Df_ (fun h => c5 (Int.ofNat_lt.mpr h))
  clear c5
  replace H := Option.bind_eq_some_iff.mp H
  obtain ⟨⟨t359, t362, t363⟩, A340, H⟩ := H
  replace H : (some (t359, t362, t363, 0)) = some (r1, r2, r3, r4) := H
  have A34 := Am_ A340
  clear A340
  simp only [Option.some.injEq, Prod.mk.injEq] at H
  obtain ⟨rfl, rfl, rfl, rfl⟩ := H
  go_enter Try.func30, Try.ntmps30
  try go_wp2_with (first | ((with_reducible refine gate_dst (N := 4) rfl ?_); (try (refine gate_guard (by rfl) ?_; dsimp only)); refine box_event ?hg (N := 4) ?hd (cs := #[.slice A0_0 l0_0.length c0_0, .int .i64 a0_1, .int .i64 a0_2]) (t := 33) ?hr ?_; (case hd => rfl); (case hg => rfl); (case hr => go_simp; try rfl); intro gb350 hg w35 hbox hb; have n0_ := Am_ (Vb_ (Ke_ (Pv_ HO0_0.out) gb350 (Nat.le_of_eq hg.symm)) hb); have n1_ := Am_ (Vb_ (Ke_ (Pv_ HO2_7.out) gb350 (Nat.le_of_eq hg.symm)) hb); have n2_ := Am_ (Be_ (Pb0_ HB.out) hb); have n3_ := Am_ (hbox); have n4_ := Am_ ((by rw [hg]; exact (Bz_ (Pb0_ HB.out)) : w.heap.size ≤ gb350)); have n5_ := Am_ ((by rw [hg]; exact (Bz_ (Pb0_ HB.out)) : w.heap.size ≤ gb350)); clear HO0_0; clear HO2_7; clear HB; have HO0_0 := n0_; have HO2_7 := n1_; have HB := n2_; have BK350 := n3_; have GW350 := n4_; have GE350 := n5_; clear n0_ n1_ n2_ n3_ n4_ n5_; clear hb hbox hg) | ((with_reducible refine gate_dst (N := 6) rfl ?_); (try (refine gate_guard (by rfl) ?_; dsimp only)); refine box_event ?hg (N := 6) ?hd (cs := #[.int .i64 a2_0, .int .i64 a2_1, .int .i64 a2_2, .int .i64 a2_3, .int .i64 a2_4, .int .i64 a2_5, .string a2_6, .slice A2_7 l2_7.length c2_7]) (t := 53) ?hr ?_; (case hd => rfl); (case hg => rfl); (case hr => go_simp; try rfl); intro gb351 hg w36 hbox hb; have n0_ := Am_ (Vb_ (Ke_ (Pv_ HO0_0.out) gb351 (Nat.le_of_eq hg.symm)) hb); have n1_ := Am_ (Vb_ (Ke_ (Pv_ HO2_7.out) gb351 (Nat.le_of_eq hg.symm)) hb); have n2_ := Am_ (Bb_ (g := gb350) (o := .cells #[.slice A0_0 l0_0.length c0_0, .int .i64 a0_1, .int .i64 a0_2] 33 (0, 0)) (Pk_ BK350.out) hb); have n3_ := Am_ (Be_ (Pb1_ HB.out GE350.out) hb); have n4_ := Am_ (hbox); have n5_ := Am_ ((by rw [hg]; exact (Bz_ (Pb1_ HB.out GE350.out)) : w.heap.size ≤ gb351)); have n6_ := Am_ ((by rw [hg]; exact (Bz_ (Pb1_ HB.out GE350.out)) : w.heap.size ≤ gb351)); have n7_ := Am_ ((by rw [hg]; exact Nat.ne_of_lt (blk_lt (g := gb350) (o := .cells #[.slice A0_0 l0_0.length c0_0, .int .i64 a0_1, .int .i64 a0_2] 33 (0, 0)) (Pk_ BK350.out)) : gb350 ≠ gb351)); have n8_ := Am_ ((by rw [hg]; exact Nat.ne_of_gt (blk_lt (g := gb350) (o := .cells #[.slice A0_0 l0_0.length c0_0, .int .i64 a0_1, .int .i64 a0_2] 33 (0, 0)) (Pk_ BK350.out)) : gb351 ≠ gb350)); clear HO0_0; clear HO2_7; clear BK350; clear HB; have HO0_0 := n0_; have HO2_7 := n1_; have BK350 := n2_; have HB := n3_; have BK351 := n4_; have GW351 := n5_; have GE351 := n6_; have NB350_351 := n7_; have NB351_350 := n8_; clear n0_ n1_ n2_ n3_ n4_ n5_ n6_ n7_ n8_; clear hb hbox hg) | ((with_reducible refine gate_dst (N := 8) rfl ?_); (try (refine gate_guard (by rfl) ?_; dsimp only)); refine box_event ?hg (N := 8) ?hd (cs := #[.slice none 0 0, .int .i64 0, .int .i64 0]) (t := 33) ?hr ?_; (case hd => rfl); (case hg => rfl); (case hr => go_simp; try rfl); intro gb352 hg w37 hbox hb; have n0_ := Am_ (Vb_ (Ke_ (Pv_ HO0_0.out) gb352 (Nat.le_of_eq hg.symm)) hb); have n1_ := Am_ (Vb_ (Ke_ (Pv_ HO2_7.out) gb352 (Nat.le_of_eq hg.symm)) hb); have n2_ := Am_ (Bb_ (g := gb350) (o := .cells #[.slice A0_0 l0_0.length c0_0, .int .i64 a0_1, .int .i64 a0_2] 33 (0, 0)) (Pk_ BK350.out) hb); have n3_ := Am_ (Bb_ (g := gb351) (o := .cells #[.int .i64 a2_0, .int .i64 a2_1, .int .i64 a2_2, .int .i64 a2_3, .int .i64 a2_4, .int .i64 a2_5, .string a2_6, .slice A2_7 l2_7.length c2_7] 53 (0, 0)) (Pk_ BK351.out) hb); have n4_ := Am_ (Be_ (Pb2_ HB.out GE350.out GE351.out) hb); have n5_ := Am_ (hbox); have n6_ := Am_ ((by rw [hg]; exact (Bz_ (Pb2_ HB.out GE350.out GE351.out)) : w.heap.size ≤ gb352)); have n7_ := Am_ ((by rw [hg]; exact (Bz_ (Pb2_ HB.out GE350.out GE351.out)) : w.heap.size ≤ gb352)); have n8_ := Am_ ((by rw [hg]; exact Nat.ne_of_lt (blk_lt (g := gb350) (o := .cells #[.slice A0_0 l0_0.length c0_0, .int .i64 a0_1, .int .i64 a0_2] 33 (0, 0)) (Pk_ BK350.out)) : gb350 ≠ gb352)); have n9_ := Am_ ((by rw [hg]; exact Nat.ne_of_gt (blk_lt (g := gb350) (o := .cells #[.slice A0_0 l0_0.length c0_0, .int .i64 a0_1, .int .i64 a0_2] 33 (0, 0)) (Pk_ BK350.out)) : gb352 ≠ gb350)); have n10_ := Am_ ((by rw [hg]; exact Nat.ne_of_lt (blk_lt (g := gb351) (o := .cells #[.int .i64 a2_0, .int .i64 a2_1, .int .i64 a2_2, .int .i64 a2_3, .int .i64 a2_4, .int .i64 a2_5, .string a2_6, .slice A2_7 l2_7.length c2_7] 53 (0, 0)) (Pk_ BK351.out)) : gb351 ≠ gb352)); have n11_ := Am_ ((by rw [hg]; exact Nat.ne_of_gt (blk_lt (g := gb351) (o := .cells #[.int .i64 a2_0, .int .i64 a2_1, .int .i64 a2_2, .int .i64 a2_3, .int .i64 a2_4, .int .i64 a2_5, .string a2_6, .slice A2_7 l2_7.length c2_7] 53 (0, 0)) (Pk_ BK351.out)) : gb352 ≠ gb351)); clear HO0_0; clear HO2_7; clear BK350; clear BK351; clear HB; have HO0_0 := n0_; have HO2_7 := n1_; have BK350 := n2_; have BK351 := n3_; have HB := n4_; have BK352 := n5_; have GW352 := n6_; have GE352 := n7_; have NB350_352 := n8_; have NB352_350 := n9_; have NB351_352 := n10_; have NB352_351 := n11_; clear n0_ n1_ n2_ n3_ n4_ n5_ n6_ n7_ n8_ n9_ n10_ n11_; clear hb hbox hg))
  have n0_ := Am_ (Vd_ HO0_0.out)
  have n1_ := Am_ (Vd_ HO2_7.out)
  have n2_ := Am_ (Bd_ BK350.out)
  have n3_ := Am_ (Bd_ BK351.out)
  have n4_ := Am_ (Bd_ BK352.out)
  have n5_ := Am_ (Pd_ HB.out)
  clear HO0_0
  clear HO2_7
  clear BK350
  clear BK351
  clear BK352
  clear HB
  have HO0_0 := n0_
  have HO2_7 := n1_
  have BK350 := n2_
  have BK351 := n3_
  have BK352 := n4_
  have HB := n5_
  clear n0_ n1_ n2_ n3_ n4_ n5_
  refine start_ (n := 20) (S := fun w' => w'.cell? ⟨gb351, 0, none⟩ = some (.int .i64 a2_0) ∧ w'.cell? ⟨gb351, 1, none⟩ = some (.int .i64 a2_1) ∧ w'.cell? ⟨gb351, 2, none⟩ = some (.int .i64 a2_2) ∧ w'.cell? ⟨gb351, 3, none⟩ = some (.int .i64 a2_3) ∧ w'.cell? ⟨gb351, 4, none⟩ = some (.int .i64 a2_4) ∧ w'.cell? ⟨gb351, 5, none⟩ = some (.int .i64 a2_5) ∧ w'.cell? ⟨gb351, 6, none⟩ = some (.string a2_6) ∧ w'.cell? ⟨gb351, 7, none⟩ = some (.slice A2_7 l2_7.length c2_7)) (ds := []) #[f_,f_,f_,f_,f_,f_,f_,f_,f_,f_,f_,f_,f_,f_,f_,f_,f_,f_,f_,f_] (by kernel_rfl) rfl rfl ⟨(Bc_ BK351.out 0).trans rfl, (Bc_ BK351.out 1).trans rfl, (Bc_ BK351.out 2).trans rfl, (Bc_ BK351.out 3).trans rfl, (Bc_ BK351.out 4).trans rfl, (Bc_ BK351.out 5).trans rfl, (Bc_ BK351.out 6).trans rfl, (Bc_ BK351.out 7).trans rfl⟩ (fun hHeld => ?_); refine with_tabW flagstoneref09_kept.tab1 flagstoneref09_kept.bits1 (fun HT_ HW_ => ?_)
  generalize w37.drew = w38 at HO0_0 HO2_7 BK350 BK351 BK352 HB hHeld ⊢
  refine pure_ (i := 0) (N := some 10) (v := ?_) (a' := ?_) #[t_,f_,f_,f_,f_,f_,f_,f_,f_,f_,f_,f_,f_,f_,f_,f_,f_,f_,f_,f_] rfl rfl (any_of HT_.out (by kernel_rfl)) (fun _ _ _ h => h) (Or.inl ⟨by rfl, ?_⟩) ?_ ?_
  rotate_left
  ·intro w'
   go_simp
   with_reducible rfl
  rotate_left
  ·simp only [Act.put, La_, Lb_, Lc_, i64_w, i32_w]
   rfl
  refine pure_ (i := 1) (N := some 11) (v := ?_) (a' := ?_) #[t_,t_,f_,f_,f_,f_,f_,f_,f_,f_,f_,f_,f_,f_,f_,f_,f_,f_,f_,f_] rfl rfl (any_of HT_.out (by kernel_rfl)) (fun _ _ _ h => h) (Or.inl ⟨by rfl, ?_⟩) ?_ ?_
  rotate_left
  ·intro w'
   go_simp
   with_reducible rfl
  rotate_left
  ·simp only [Act.put, La_, Lb_, Lc_, i64_w, i32_w]
   rfl
  refine pure_ (i := 2) (N := some 12) (v := ?_) (a' := ?_) #[t_,t_,t_,f_,f_,f_,f_,f_,f_,f_,f_,f_,f_,f_,f_,f_,f_,f_,f_,f_] rfl rfl (any_of HT_.out (by kernel_rfl)) (fun _ _ _ h => h) (Or.inl ⟨by rfl, ?_⟩) ?_ ?_
  rotate_left
  ·intro w'
   go_simp
   with_reducible rfl
  rotate_left
  ·simp only [Act.put, La_, Lb_, Lc_, i64_w, i32_w]
   rfl
  refine take_ (i := 3) (N := some 13) (v := ?_) (a' := ?_) #[t_,t_,t_,t_,f_,f_,f_,f_,f_,f_,f_,f_,f_,f_,f_,f_,f_,f_,f_,f_] rfl rfl (take_ofW HT_.out HW_.out (by kernel_rfl)) (fun _ _ _ h => h) (Or.inl ⟨by rfl, ?_⟩) hHeld ?_ ?_
  rotate_left
  ·rintro w' ⟨s0, s1, s2, s3, s4, s5, s6, s7⟩
   go_simp
   with_reducible rfl
  rotate_left
  ·simp only [Act.put, La_, Lb_, Lc_, i64_w, i32_w]
   rfl
  refine pure_ (i := 4) (N := some 14) (v := ?_) (a' := ?_) #[t_,t_,t_,t_,t_,f_,f_,f_,f_,f_,f_,f_,f_,f_,f_,f_,f_,f_,f_,f_] rfl rfl (any_of HT_.out (by kernel_rfl)) (fun _ _ _ h => h) (Or.inl ⟨by rfl, ?_⟩) ?_ ?_
  rotate_left
  ·intro w'
   go_simp
   with_reducible rfl
  rotate_left
  ·simp only [Act.put, La_, Lb_, Lc_, i64_w, i32_w]
   rfl
  refine pure_ (i := 5) (N := some 15) (v := ?_) (a' := ?_) #[t_,t_,t_,t_,t_,t_,f_,f_,f_,f_,f_,f_,f_,f_,f_,f_,f_,f_,f_,f_] rfl rfl (any_of HT_.out (by kernel_rfl)) (fun _ _ _ h => h) (Or.inl ⟨by rfl, ?_⟩) ?_ ?_
  rotate_left
  ·intro w'
   go_simp
   with_reducible rfl
  rotate_left
  ·simp only [Act.put, La_, Lb_, Lc_, i64_w, i32_w]
   rfl
  refine pure_ (i := 6) (N := some 16) (v := ?_) (a' := ?_) #[t_,t_,t_,t_,t_,t_,t_,f_,f_,f_,f_,f_,f_,f_,f_,f_,f_,f_,f_,f_] rfl rfl (any_of HT_.out (by kernel_rfl)) (fun _ _ _ h => h) (Or.inl ⟨by rfl, ?_⟩) ?_ ?_
  rotate_left
  ·intro w'
   go_simp
   with_reducible rfl
  rotate_left
  ·simp only [Act.put, La_, Lb_, Lc_, i64_w, i32_w]
   rfl
  refine pure_ (i := 7) (N := some 17) (v := undef) (a' := ?_) #[t_,t_,t_,t_,t_,t_,t_,t_,f_,f_,f_,f_,f_,f_,f_,f_,f_,f_,f_,f_] rfl rfl (any_of HT_.out (by kernel_rfl)) (fun _ _ _ h => h) (Or.inr ⟨by rfl, rfl⟩) ?_ ?_
  rotate_left
  ·simp only [Act.put, La_, Lb_, Lc_, i64_w, i32_w]
   rfl
  refine pure_ (i := 8) (N := some 18) (v := undef) (a' := ?_) #[t_,t_,t_,t_,t_,t_,t_,t_,t_,f_,f_,f_,f_,f_,f_,f_,f_,f_,f_,f_] rfl rfl (any_of HT_.out (by kernel_rfl)) (fun _ _ _ h => h) (Or.inr ⟨by rfl, rfl⟩) ?_ ?_
  rotate_left
  ·simp only [Act.put, La_, Lb_, Lc_, i64_w, i32_w]
   rfl
  refine pure_ (i := 9) (N := some 19) (v := undef) (a' := ?_) #[t_,t_,t_,t_,t_,t_,t_,t_,t_,t_,f_,f_,f_,f_,f_,f_,f_,f_,f_,f_] rfl rfl (any_of HT_.out (by kernel_rfl)) (fun _ _ _ h => h) (Or.inr ⟨by rfl, rfl⟩) ?_ ?_
  rotate_left
  ·simp only [Act.put, La_, Lb_, Lc_, i64_w, i32_w]
   rfl
  refine pure_ (i := 10) (N := some 20) (v := undef) (a' := ?_) #[t_,t_,t_,t_,t_,t_,t_,t_,t_,t_,t_,f_,f_,f_,f_,f_,f_,f_,f_,f_] rfl rfl (any_of HT_.out (by kernel_rfl)) (fun _ _ _ h => h) (Or.inr ⟨by rfl, rfl⟩) ?_ ?_
  rotate_left
  ·simp only [Act.put, La_, Lb_, Lc_, i64_w, i32_w]
   rfl
  refine pure_ (i := 11) (N := some 21) (v := undef) (a' := ?_) #[t_,t_,t_,t_,t_,t_,t_,t_,t_,t_,t_,t_,f_,f_,f_,f_,f_,f_,f_,f_] rfl rfl (any_of HT_.out (by kernel_rfl)) (fun _ _ _ h => h) (Or.inr ⟨by rfl, rfl⟩) ?_ ?_
  rotate_left
  ·simp only [Act.put, La_, Lb_, Lc_, i64_w, i32_w]
   rfl
  refine pure_ (i := 12) (N := some 22) (v := undef) (a' := ?_) #[t_,t_,t_,t_,t_,t_,t_,t_,t_,t_,t_,t_,t_,f_,f_,f_,f_,f_,f_,f_] rfl rfl (any_of HT_.out (by kernel_rfl)) (fun _ _ _ h => h) (Or.inr ⟨by rfl, rfl⟩) ?_ ?_
  rotate_left
  ·simp only [Act.put, La_, Lb_, Lc_, i64_w, i32_w]
   rfl
  refine pure_ (i := 13) (N := some 23) (v := undef) (a' := ?_) #[t_,t_,t_,t_,t_,t_,t_,t_,t_,t_,t_,t_,t_,t_,f_,f_,f_,f_,f_,f_] rfl rfl (any_of HT_.out (by kernel_rfl)) (fun _ _ _ h => h) (Or.inr ⟨by rfl, rfl⟩) ?_ ?_
  rotate_left
  ·simp only [Act.put, La_, Lb_, Lc_, i64_w, i32_w]
   rfl
  refine pure_ (i := 14) (N := some 24) (v := undef) (a' := ?_) #[t_,t_,t_,t_,t_,t_,t_,t_,t_,t_,t_,t_,t_,t_,t_,f_,f_,f_,f_,f_] rfl rfl (any_of HT_.out (by kernel_rfl)) (fun _ _ _ h => h) (Or.inr ⟨by rfl, rfl⟩) ?_ ?_
  rotate_left
  ·simp only [Act.put, La_, Lb_, Lc_, i64_w, i32_w]
   rfl
  refine pure_ (i := 15) (N := some 25) (v := undef) (a' := ?_) #[t_,t_,t_,t_,t_,t_,t_,t_,t_,t_,t_,t_,t_,t_,t_,t_,f_,f_,f_,f_] rfl rfl (any_of HT_.out (by kernel_rfl)) (fun _ _ _ h => h) (Or.inr ⟨by rfl, rfl⟩) ?_ ?_
  rotate_left
  ·simp only [Act.put, La_, Lb_, Lc_, i64_w, i32_w]
   rfl
  refine pure_ (i := 16) (N := some 26) (v := undef) (a' := ?_) #[t_,t_,t_,t_,t_,t_,t_,t_,t_,t_,t_,t_,t_,t_,t_,t_,t_,f_,f_,f_] rfl rfl (any_of HT_.out (by kernel_rfl)) (fun _ _ _ h => h) (Or.inr ⟨by rfl, rfl⟩) ?_ ?_
  rotate_left
  ·simp only [Act.put, La_, Lb_, Lc_, i64_w, i32_w]
   rfl
  refine pure_ (i := 17) (N := some 27) (v := undef) (a' := ?_) #[t_,t_,t_,t_,t_,t_,t_,t_,t_,t_,t_,t_,t_,t_,t_,t_,t_,t_,f_,f_] rfl rfl (any_of HT_.out (by kernel_rfl)) (fun _ _ _ h => h) (Or.inr ⟨by rfl, rfl⟩) ?_ ?_
  rotate_left
  ·simp only [Act.put, La_, Lb_, Lc_, i64_w, i32_w]
   rfl
  refine pure_ (i := 18) (N := some 28) (v := undef) (a' := ?_) #[t_,t_,t_,t_,t_,t_,t_,t_,t_,t_,t_,t_,t_,t_,t_,t_,t_,t_,t_,f_] rfl rfl (any_of HT_.out (by kernel_rfl)) (fun _ _ _ h => h) (Or.inr ⟨by rfl, rfl⟩) ?_ ?_
  rotate_left
  ·simp only [Act.put, La_, Lb_, Lc_, i64_w, i32_w]
   rfl
  refine pure_ (i := 19) (N := some 29) (v := ?_) (a' := ?_) #[t_,t_,t_,t_,t_,t_,t_,t_,t_,t_,t_,t_,t_,t_,t_,t_,t_,t_,t_,t_] rfl rfl (any_of HT_.out (by kernel_rfl)) (fun _ _ _ h => h) (Or.inl ⟨by rfl, ?_⟩) ?_ ?_
  rotate_left
  ·intro w'
   go_simp
   with_reducible rfl
  rotate_left
  ·simp only [Act.put, La_, Lb_, Lc_, i64_w, i32_w]
   rfl
  refine done_ (done_of HT_.out (by kernel_rfl)) ?_
  have hnb39 := NB351_350.out
  have hnc39 := NB350_351.out
  have hnb40 := NB351_352.out
  have hnc40 := NB352_351.out
  obtain ⟨hcz41_0, hcz41_1, hcz41_2, hcz41_3, hcz41_4, hcz41_5, hcz41_6, hcz41_7, hfz41_0, hfz41_1, hfz41_2, hfz41_3, hfz41_4, hfz41_5, hfz41_6, hfz41_7⟩ := Ce8_ BK351.out
  try go_wp2_with (first | ((with_reducible refine gate_store (t := 9) (p := 32) rfl ?_); refine store_event (t := 9) (p := 32) (v := ?vo_w42) (w1 := (w38.setCell ⟨gb351, 6, none⟩ (.string a3))) ?hg ?ho ?hn ?hr ?_; (case ho => rfl); (case hg => rfl); (case hn => rfl); (case hr => go_simp; try rfl); intro w42 hw; have n0_ : Aside0 (Kd.V k53 53 w42 w.heap.size (fun k_ => ((P0_0_ k_ ∨ P2_7_ k_) ∨ w.heap.size ≤ k_) ∧ k_ ≠ gb350 ∧ k_ ≠ gb351 ∧ k_ ≠ gb352) (.slice A0_0 l0_0.length c0_0) l0_0) := ⟨(by rw [hw]; exact (by (with_reducible repeat (first | apply Va_ | apply Vn_ | apply Vd_)); exact Vm_ (Vf_ (p := ⟨gb351, 6, none⟩) (Vm_ HO0_0.out (fun k_ hk => (⟨hk, hk.1.2⟩ : _ ∧ k_ ≠ gb351))) (fun _ hk => hk.2) (.string a3)) (fun _ hk => ⟨hk.1.1.1.1, ⟨hk.1.1.1.2, ⟨hk.1.1.2, hk.1.2⟩⟩⟩)))⟩; have n1_ : Aside0 (Kd.V k75 75 w42 w.heap.size (fun k_ => ((P0_0_ k_ ∨ P2_7_ k_) ∨ w.heap.size ≤ k_) ∧ k_ ≠ gb350 ∧ k_ ≠ gb351 ∧ k_ ≠ gb352) (.slice A2_7 l2_7.length c2_7) l2_7) := ⟨(by rw [hw]; exact (by (with_reducible repeat (first | apply Va_ | apply Vn_ | apply Vd_)); exact Vm_ (Vf_ (p := ⟨gb351, 6, none⟩) (Vm_ HO2_7.out (fun k_ hk => (⟨hk, hk.1.2⟩ : _ ∧ k_ ≠ gb351))) (fun _ hk => hk.2) (.string a3)) (fun _ hk => ⟨hk.1.1.1.1, ⟨hk.1.1.1.2, ⟨hk.1.1.2, hk.1.2⟩⟩⟩)))⟩; have n2_ : Aside0 (w42.heap[gb350]? = some (.cells #[.slice A0_0 l0_0.length c0_0, .int .i64 a0_1, .int .i64 a0_2] 33 (0, 0))) := ⟨(by rw [hw]; exact (by (with_reducible repeat (first | refine Bn_ ?_ _ | refine Bd_ ?_ | refine Ba_ ?_ _)); refine blk_far ?_ NB350_351.out _; (with_reducible repeat (first | refine Bn_ ?_ _ | refine Bd_ ?_ | refine Ba_ ?_ _)); exact BK350.out))⟩; have n3_ : Aside0 (w42.heap[gb351]? = some (.cells #[.int .i64 a2_0, .int .i64 a2_1, .int .i64 a2_2, .int .i64 a2_3, .int .i64 a2_4, .int .i64 a2_5, .string a3, .slice A2_7 l2_7.length c2_7] 53 (0, 0))) := ⟨(by rw [hw]; exact (by (with_reducible repeat (first | refine Bn_ ?_ _ | refine Bd_ ?_ | refine Ba_ ?_ _)); refine Bp_ (cs := #[.int .i64 a2_0, .int .i64 a2_1, .int .i64 a2_2, .int .i64 a2_3, .int .i64 a2_4, .int .i64 a2_5, .string a2_6, .slice A2_7 l2_7.length c2_7]) ?_ 6 _ rfl; (with_reducible repeat (first | refine Bn_ ?_ _ | refine Bd_ ?_ | refine Ba_ ?_ _)); exact BK351.out))⟩; have n4_ : Aside0 (w42.heap[gb352]? = some (.cells #[.slice none 0 0, .int .i64 0, .int .i64 0] 33 (0, 0))) := ⟨(by rw [hw]; exact (by (with_reducible repeat (first | refine Bn_ ?_ _ | refine Bd_ ?_ | refine Ba_ ?_ _)); refine blk_far ?_ NB352_351.out _; (with_reducible repeat (first | refine Bn_ ?_ _ | refine Bd_ ?_ | refine Ba_ ?_ _)); exact BK352.out))⟩; have n5_ : Aside0 (Below w.heap.size w w42) := ⟨(by rw [hw]; exact (Pb3_ HB.out GE350.out GE351.out GE352.out))⟩; clear hw; clear HO0_0; clear HO2_7; clear BK350; clear BK351; clear BK352; clear HB; have HO0_0 := n0_; have HO2_7 := n1_; have BK350 := n2_; have BK351 := n3_; have BK352 := n4_; have HB := n5_; clear n0_ n1_ n2_ n3_ n4_ n5_; have hnb43 := NB350_352.out; have hnc43 := NB352_350.out; obtain ⟨hcz44_0, hcz44_1, hcz44_2, hfz44_0, hfz44_1, hfz44_2⟩ := Ce3_ BK350.out; obtain ⟨hcz45_0, hcz45_1, hcz45_2, hcz45_3, hcz45_4, hcz45_5, hcz45_6, hcz45_7, hfz45_0, hfz45_1, hfz45_2, hfz45_3, hfz45_4, hfz45_5, hfz45_6, hfz45_7⟩ := Ce8_ BK351.out) | ((with_reducible refine gate_callee (f := 38) rfl ?_); refine goesL_ (some 36) rfl rfl Try.func38 (by kernel_rfl) rfl #[.agg #[.slice A0_0 l0_0.length c0_0, .int .i64 a0_1, .int .i64 a0_2], .int .i64 a1, .agg #[.int .i64 a2_0, .int .i64 a2_1, .int .i64 a2_2, .int .i64 a2_3, .int .i64 a2_4, .int .i64 a2_5, .string a3, .slice A2_7 l2_7.length c2_7]] rfl (by (try simp only [List.map_toArray, List.map_cons, List.map_nil]); first | done | rfl | (simp only [List.length_drop, List.length_take]; rfl)) ?_; (with_reducible refine (flagstoneref06_Set.calls (fun k_ => (((P0_0_ k_ ∨ P2_7_ k_) ∨ w.heap.size ≤ k_) ∧ (k_ ≠ gb350 ∧ (k_ ≠ gb351 ∧ k_ ≠ gb352)))) _ _ l0_0 a0_1 a0_2 a1 a2_0 a2_1 a2_2 a2_3 a2_4 a2_5 a3 (fun k_ => (((P0_0_ k_ ∨ P2_7_ k_) ∨ w.heap.size ≤ k_) ∧ (k_ ≠ gb350 ∧ (k_ ≠ gb351 ∧ k_ ≠ gb352)))) _ _ l2_7 t359 t362 t363 _ ?side1 ?side2 A34.out).mono ?_); (case side1 => exact HO0_0.out); (case side2 => exact HO2_7.out); rintro e w46 ⟨v360, rfl, ho0, hb⟩; refine ⟨_, rfl, ?_⟩; have n0_ := Am_ (Vb_ (Pv_ HO0_0.out) hb); have n1_ := Am_ (Vb_ (Pv_ HO2_7.out) hb); have n2_ := Am_ (Vl_ (Vm_ (ok' := fun k_ => ((P0_0_ k_ ∨ P2_7_ k_) ∨ w.heap.size ≤ k_) ∧ k_ ≠ gb350 ∧ k_ ≠ gb351 ∧ k_ ≠ gb352) ho0 (fun k_ hk_ => ⟨Or.elim hk_ (fun hs_ => Or.elim hs_ (fun hs_ => hs_.1) (fun hs_ => hs_.1)) (fun hn_ => (.inr (Nat.le_trans (Bz_ (Pb3_ HB.out GE350.out GE351.out GE352.out)) hn_))), Or.elim hk_ (fun hs_ => Or.elim hs_ (fun hs_ => hs_.2.1) (fun hs_ => hs_.2.1)) (fun hn_ => (Kd.freshB (g := gb350) (o := .cells #[.slice A0_0 l0_0.length c0_0, .int .i64 a0_1, .int .i64 a0_2] 33 (0, 0)) (Pk_ BK350.out) k_ hn_)), Or.elim hk_ (fun hs_ => Or.elim hs_ (fun hs_ => hs_.2.2.1) (fun hs_ => hs_.2.2.1)) (fun hn_ => (Kd.freshB (g := gb351) (o := .cells #[.int .i64 a2_0, .int .i64 a2_1, .int .i64 a2_2, .int .i64 a2_3, .int .i64 a2_4, .int .i64 a2_5, .string a3, .slice A2_7 l2_7.length c2_7] 53 (0, 0)) (Pk_ BK351.out) k_ hn_)), Or.elim hk_ (fun hs_ => Or.elim hs_ (fun hs_ => hs_.2.2.2) (fun hs_ => hs_.2.2.2)) (fun hn_ => (Kd.freshB (g := gb352) (o := .cells #[.slice none 0 0, .int .i64 0, .int .i64 0] 33 (0, 0)) (Pk_ BK352.out) k_ hn_))⟩)) (Bz_ (Pb3_ HB.out GE350.out GE351.out GE352.out))); have n3_ := Am_ (Bb_ (g := gb350) (o := .cells #[.slice A0_0 l0_0.length c0_0, .int .i64 a0_1, .int .i64 a0_2] 33 (0, 0)) (Pk_ BK350.out) hb); have n4_ := Am_ (Bb_ (g := gb351) (o := .cells #[.int .i64 a2_0, .int .i64 a2_1, .int .i64 a2_2, .int .i64 a2_3, .int .i64 a2_4, .int .i64 a2_5, .string a3, .slice A2_7 l2_7.length c2_7] 53 (0, 0)) (Pk_ BK351.out) hb); have n5_ := Am_ (Bb_ (g := gb352) (o := .cells #[.slice none 0 0, .int .i64 0, .int .i64 0] 33 (0, 0)) (Pk_ BK352.out) hb); have n6_ := Am_ (Be_ (Pb3_ HB.out GE350.out GE351.out GE352.out) hb); clear HO0_0; clear HO2_7; clear BK350; clear BK351; clear BK352; clear HB; have HO0_0 := n0_; have HO2_7 := n1_; have HO361 := n2_; have BK350 := n3_; have BK351 := n4_; have BK352 := n5_; have HB := n6_; clear n0_ n1_ n2_ n3_ n4_ n5_ n6_; (try clear hb); (try clear hb2); (try clear hk); (try clear hi); (try clear ho0); obtain ⟨Ao47, co47, eo47⟩ := Vx_ HO361.out; subst eo47; obtain ⟨hcz48_0, hcz48_1, hcz48_2, hfz48_0, hfz48_1, hfz48_2⟩ := Ce3_ BK352.out))
  refine bodyPost_ret (results_ct rfl _ _ gb352 33 #[.slice Ao47 t359.length co47, .int .i64 t362, .int .i64 t363] (0, 0) _ rfl (by (with_reducible repeat (first | refine Bn_ ?_ _ | refine Bd_ ?_ | refine Ba_ ?_ _)); refine Bp_ (cs := #[.slice Ao47 t359.length co47, .int .i64 t362, .int .i64 0]) ?_ 2 _ rfl; (with_reducible repeat (first | refine Bn_ ?_ _ | refine Bd_ ?_ | refine Ba_ ?_ _)); refine Bp_ (cs := #[.slice Ao47 t359.length co47, .int .i64 0, .int .i64 0]) ?_ 1 _ rfl; (with_reducible repeat (first | refine Bn_ ?_ _ | refine Bd_ ?_ | refine Ba_ ?_ _)); refine Bp_ (cs := #[.slice none 0 0, .int .i64 0, .int .i64 0]) ?_ 0 _ rfl; (with_reducible repeat (first | refine Bn_ ?_ _ | refine Bd_ ?_ | refine Ba_ ?_ _)); exact BK352.out) Try.underlying33 rfl (by kernel_rfl)) rfl ?_
  exact ⟨_, by first | rfl | (simp [errW_none, errW_some] <;> rfl) | (simp [*, errW_none, errW_some] <;> rfl), by (with_reducible repeat (first | apply Va_ | apply Vn_ | apply Vd_)); exact Vm_ (Vf_ (p := ⟨gb352, 2, none⟩) (Vf_ (p := ⟨gb352, 1, none⟩) (Vf_ (p := ⟨gb352, 0, none⟩) (Vm_ HO361.out (fun k_ hk => (⟨hk, hk.2.2.2⟩ : _ ∧ k_ ≠ gb352))) (fun _ hk => hk.2) (.slice Ao47 t359.length co47)) (fun _ hk => hk.2) (.int .i64 t362)) (fun _ hk => hk.2) (.int .i64 t363)) (fun _ hk => hk.1.1), by repeat (first | (with_reducible first | exact HB.out | apply Pa_ | apply Pn_ | apply Pd_ | refine Bs_ ?_ GE350.out | refine Bs_ ?_ GE351.out | refine Bs_ ?_ GE352.out) | exact HB.out)⟩

end Go.Proofs.Ytpeelfambaedkaa.P
