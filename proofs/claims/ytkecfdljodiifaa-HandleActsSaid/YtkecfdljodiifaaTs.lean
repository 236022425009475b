/- The walk of shown: a small example, run through. Written by wip/mkTs.py. -/
import Derived.Test.YtkecfdljodiifaaTc
import Derived.Test.YtkecfdljodiifaaPhandleGet
import Derived.Test.YtkecfdljodiifaaPhandleCount
import Derived.Test.YtkecfdljodiifaaPhandleNew
import Derived.Test.YtkecfdljodiifaaPhandleRight
namespace Go.Proofs.Ytkecfdljodiifaa.P
open Go.RowKit Go.Proofs.YtkecfdljodiifaaW.PrintWords Go.Proofs.YtkecfdljodiifaaW.PrintLast Go.Proofs.YtkecfdljodiifaaW.PrintMore
set_option linter.unusedSimpArgs false
set_option linter.unusedVariables false
attribute [local go_sem] max2_int min2_int max_two min_two max_three min_three max_four min_four   -- for this text's walks alone

theorem New_T {k : Nat} {n : Int} {ds2 : List S38} {fs2 : List (List Int)} {w : World} (h : handle_New.f k n = some (ds2, fs2)) :
    Calls Try.prog 16 #[.int .i64 n] w fun en w' => ∃ (B0 : Option Addr) (b0 : Nat) (B1 : Option Addr) (b1 : Nat), en = .returned (.agg #[.slice B0 ds2.length b0, .slice B1 fs2.length b1]) ∧ T38 B0 b0 ds2 B1 b1 fs2 w' ∧ Below w.heap.size w w' := by
  refine (handle_New.calls k n ds2 fs2 w h).mono ?_
  rintro en w' ⟨v0, v1, rfl, h0, h1, hb⟩
  obtain ⟨B0, b0, rfl, l0, r0⟩ := of_V (Kd.R_V (base' := 0) h0)
  obtain ⟨B1, b1, rfl, l1, r1⟩ := of_V (Kd.N_V (base' := 0) h1)
  exact ⟨B0, b0, B1, b1, rfl, ⟨⟨l0, r0⟩, l1, r1⟩, hb⟩
set_option maxHeartbeats 8000000 in
set_option maxRecDepth 100000 in
theorem shown_T {k : Nat} {D0 DA DB DC DD DJ : List S38} {F0 FA FB FC FD FJ : List (List Int)} {u1 u5 e1 e5 iJ : Int} {u2 u3 e2 e3 : Bool} {w : World}
  (hN : handle_New.f k 2 = some (D0, F0)) (h1 : handle_Open.f D0 F0 1 5 0 true false 0 0 = some (DA, FA, 0, 0)) (h2 : handle_Open.f DA FA 1 6 0 false false 0 0 = some (DB, FB, 1, 0)) (h3 : handle_Close.f DB FB 1 0 = some (DC, FC, 5, u1, u2, u3, 0, u5, 0))
  (h4 : handle_Dup.f DC FC 1 1 = some (DD, FD, 0, 0)) (h5 : handle_Get.f DD FD 1 0 = some (1, 6, e1, e2, e3, 2, e5, true)) (h6 : handle_Open.f D0 F0 2 0 0 false false 0 0 = some (DJ, FJ, iJ, 1)) (h7 : handle_Right.f k DD FD = some true) (h8 : handle_Count.f k DD FD 1 = some 2) :
  Calls Try.prog 11 #[] w fun e w' => e = .returned (.bool true) ∧ Below w.heap.size w w' := by
 have hu25 := Try.underlying25
 have hu38 := Try.underlying38
 have hN_ := Aside0.mk hN
 have h1_ := Aside0.mk h1
 have h2_ := Aside0.mk h2
 have h3_ := Aside0.mk h3
 have h4_ := Aside0.mk h4
 have h5_ := Aside0.mk h5
 have h6_ := Aside0.mk h6
 have h7_ := Aside0.mk h7
 have h8_ := Aside0.mk h8
 clear hN h1 h2 h3 h4 h5 h6 h7 h8
 have HB := Aside0.mk (Below.refl w.heap.size w)
 have E := Aside0.mk (Env.nil w)
 go_enter Try.func11, Try.ntmps11
 go_upto_region 1 with (fail)
 go_upto_region 2 with (first | ((with_reducible refine gate_callee (f := 16) rfl ?_); refine goesL_ (some 20) rfl rfl Try.func16 (by kernel_rfl) rfl #[.int .i64 2] rfl (by (try simp only [List.map_toArray, List.map_cons, List.map_nil]); first | done | rfl) ?_; (refine (New_T hN_.out).mono ?_); rintro en w_ ⟨At, ct, Bt, bt, rfl, hT, hb⟩; refine ⟨_, rfl, ?_⟩; have n0_ := Aside0.mk (Env.cons (T38.st _ _ _ _ _ _) hT (Env.below (Pe_ E.out) hb)); have n1_ := Aside0.mk (below_step (Pb0_ HB.out) hb); clear E HB; have E := n0_; have HB := n1_; clear n0_ n1_ hb; clear hT) | ((with_reducible refine gate_dst (N := 1) rfl ?_); refine box_event ?hg (N := 1) ?hd (cs := #[.slice none 0 0, .slice none 0 0]) (t := 25) ?hr ?_; (case hd => rfl); (case hg => rfl); (case hr => go_simp; try rfl); intro g1 hg w_ hbox hb; have GE1 := Aside0.mk (Nat.le_of_eq hg.symm); have HX1 := Aside0.mk hbox; have HA := Aside0.mk hb; obtain ⟨⟨z1_0, z1_1⟩, q1_0, q1_1⟩ := Bx2 HX1.out; clear hb hbox hg))
 refine to_env (w0 := w) (Env.cons (Bx.st g1 #[.slice At D0.length ct, .slice Bt F0.length bt] 25) (blk_put (blk_put HX1.out 0 (.slice At D0.length ct) rfl) 1 (.slice Bt F0.length bt) rfl) (Env.below (Pe_ E.out) (below_set (g := g1) (below_set (g := g1) HA.out GE1.out (j := 0) (v := .slice At D0.length ct)) GE1.out (j := 1) (v := .slice Bt F0.length bt)))) (below_step (Pb0_ HB.out) (below_set (g := g1) (below_set (g := g1) HA.out GE1.out (j := 0) (v := .slice At D0.length ct)) GE1.out (j := 1) (v := .slice Bt F0.length bt))) (fun w2 nE nB => ?_)
 clear E HB HA HX1 GE1
 have E := nE
 have HB := nB
 clear nE nB
 (try clear z1_0 z1_1 q1_0 q1_1)
 obtain ⟨⟨l1_0, l1_1⟩, m1_0, m1_1⟩ := Bx2 E.out.1.1
 go_upto_region 3 with (first | ((with_reducible refine gate_callee (f := 19) rfl ?_); refine goesL_ (some 24) rfl rfl Try.func19 (by kernel_rfl) rfl #[.agg #[.slice At D0.length ct, .slice Bt F0.length bt], .int .i64 1, .agg #[.int .i64 5, .int .i64 0, .bool true, .bool false, .int .i64 0, .int .i64 0]] rfl (by (try simp only [List.map_toArray, List.map_cons, List.map_nil]); first | done | rfl) ?_; (refine (Open_T E.out.2.1.1 h1_.out).mono ?_); rintro en w_ ⟨Aa, ca, Ba, ba, rfl, hT, hb⟩; refine ⟨_, rfl, ?_⟩; have n0_ := Aside0.mk (Env.cons (T38.st _ _ _ _ _ _) hT (Env.below (Pe_ E.out) hb)); have n1_ := Aside0.mk (below_step (Pb0_ HB.out) hb); clear E HB; have E := n0_; have HB := n1_; clear n0_ n1_ hb; clear hT) | ((with_reducible refine gate_dst (N := 2) rfl ?_); refine box_event ?hg (N := 2) ?hd (cs := #[.slice none 0 0, .slice none 0 0]) (t := 25) ?hr ?_; (case hd => rfl); (case hg => rfl); (case hr => go_simp; try rfl); intro g2 hg w_ hbox hb; have GE2 := Aside0.mk (Nat.le_of_eq hg.symm); have HX2 := Aside0.mk hbox; have HA := Aside0.mk hb; obtain ⟨⟨z2_0, z2_1⟩, q2_0, q2_1⟩ := Bx2 HX2.out; clear hb hbox hg))
 refine to_env (w0 := w) (Env.cons (Bx.st g2 #[.slice Aa DA.length ca, .slice Ba FA.length ba] 25) (blk_put (blk_put HX2.out 0 (.slice Aa DA.length ca) rfl) 1 (.slice Ba FA.length ba) rfl) (Env.below (Pe_ E.out) (below_set (g := g2) (below_set (g := g2) HA.out GE2.out (j := 0) (v := .slice Aa DA.length ca)) GE2.out (j := 1) (v := .slice Ba FA.length ba)))) (below_step (Pb0_ HB.out) (below_set (g := g2) (below_set (g := g2) HA.out GE2.out (j := 0) (v := .slice Aa DA.length ca)) GE2.out (j := 1) (v := .slice Ba FA.length ba))) (fun w3 nE nB => ?_)
 clear E HB HA HX2 GE2
 have E := nE
 have HB := nB
 clear nE nB
 (try clear l1_0 l1_1 m1_0 m1_1)
 (try clear z2_0 z2_1 q2_0 q2_1)
 obtain ⟨⟨l2_0, l2_1⟩, m2_0, m2_1⟩ := Bx2 E.out.1.1
 go_upto_region 4 with (first | ((with_reducible refine gate_callee (f := 19) rfl ?_); refine goesL_ (some 31) rfl rfl Try.func19 (by kernel_rfl) rfl #[.agg #[.slice Aa DA.length ca, .slice Ba FA.length ba], .int .i64 1, .agg #[.int .i64 6, .int .i64 0, .bool false, .bool false, .int .i64 0, .int .i64 0]] rfl (by (try simp only [List.map_toArray, List.map_cons, List.map_nil]); first | done | rfl) ?_; (refine (Open_T E.out.2.1.1 h2_.out).mono ?_); rintro en w_ ⟨Ab, cb, Bb, bb, rfl, hT, hb⟩; refine ⟨_, rfl, ?_⟩; have n0_ := Aside0.mk (Env.cons (T38.st _ _ _ _ _ _) hT (Env.below (Pe_ E.out) hb)); have n1_ := Aside0.mk (below_step (Pb0_ HB.out) hb); clear E HB; have E := n0_; have HB := n1_; clear n0_ n1_ hb; clear hT) | ((with_reducible refine gate_dst (N := 5) rfl ?_); refine box_event ?hg (N := 5) ?hd (cs := #[.slice none 0 0, .slice none 0 0]) (t := 25) ?hr ?_; (case hd => rfl); (case hg => rfl); (case hr => go_simp; try rfl); intro g5 hg w_ hbox hb; have GE5 := Aside0.mk (Nat.le_of_eq hg.symm); have HX5 := Aside0.mk hbox; have HA := Aside0.mk hb; obtain ⟨⟨z5_0, z5_1⟩, q5_0, q5_1⟩ := Bx2 HX5.out; clear hb hbox hg))
 refine to_env (w0 := w) (Env.cons (Bx.st g5 #[.slice Ab DB.length cb, .slice Bb FB.length bb] 25) (blk_put (blk_put HX5.out 0 (.slice Ab DB.length cb) rfl) 1 (.slice Bb FB.length bb) rfl) (Env.below (Pe_ E.out) (below_set (g := g5) (below_set (g := g5) HA.out GE5.out (j := 0) (v := .slice Ab DB.length cb)) GE5.out (j := 1) (v := .slice Bb FB.length bb)))) (below_step (Pb0_ HB.out) (below_set (g := g5) (below_set (g := g5) HA.out GE5.out (j := 0) (v := .slice Ab DB.length cb)) GE5.out (j := 1) (v := .slice Bb FB.length bb))) (fun w4 nE nB => ?_)
 clear E HB HA HX5 GE5
 have E := nE
 have HB := nB
 clear nE nB
 (try clear l2_0 l2_1 m2_0 m2_1)
 (try clear z5_0 z5_1 q5_0 q5_1)
 obtain ⟨⟨l5_0, l5_1⟩, m5_0, m5_1⟩ := Bx2 E.out.1.1
 go_upto_region 5 with (first | ((with_reducible refine gate_callee (f := 21) rfl ?_); refine goesL_ (some 37) rfl rfl Try.func21 (by kernel_rfl) rfl #[.agg #[.slice Ab DB.length cb, .slice Bb FB.length bb], .int .i64 1, .int .i64 0] rfl (by (try simp only [List.map_toArray, List.map_cons, List.map_nil]); first | done | rfl) ?_; (refine (Close_T E.out.2.1.1 h3_.out).mono ?_); rintro en w_ ⟨Ac, cc, Bc, bc, rfl, hT, hb⟩; refine ⟨_, rfl, ?_⟩; have n0_ := Aside0.mk (Env.cons (T38.st _ _ _ _ _ _) hT (Env.below (Pe_ E.out) hb)); have n1_ := Aside0.mk (below_step (Pb0_ HB.out) hb); clear E HB; have E := n0_; have HB := n1_; clear n0_ n1_ hb; clear hT) | ((with_reducible refine gate_dst (N := 8) rfl ?_); refine box_event ?hg (N := 8) ?hd (cs := #[.slice none 0 0, .slice none 0 0]) (t := 25) ?hr ?_; (case hd => rfl); (case hg => rfl); (case hr => go_simp; try rfl); intro g8 hg w_ hbox hb; have GE8 := Aside0.mk (Nat.le_of_eq hg.symm); have HX8 := Aside0.mk hbox; have HA := Aside0.mk hb; obtain ⟨⟨z8_0, z8_1⟩, q8_0, q8_1⟩ := Bx2 HX8.out; clear hb hbox hg) | ((with_reducible refine gate_dst (N := 9) rfl ?_); refine box_event ?hg (N := 9) ?hd (cs := #[.int .i64 0, .int .i64 0, .bool false, .bool false, .int .i64 0, .int .i64 0]) (t := 38) ?hr ?_; (case hd => rfl); (case hg => rfl); (case hr => go_simp; try rfl); intro g9 hg w_ hbox hb; have GE9 := Aside0.mk (Nat.le_trans (Below.size HA.out) (Nat.le_of_eq hg.symm)); have HX9 := Aside0.mk hbox; have n0_ := Aside0.mk (blk_below HX8.out hb); have n1_ := Aside0.mk (below_step HA.out hb); have n2_ := Aside0.mk (Nat.ne_of_lt (Nat.lt_of_lt_of_le (blk_lt HX8.out) (Nat.le_of_eq hg.symm))); clear HX8 HA; have HX8 := n0_; have HA := n1_; clear n0_ n1_; have NE := n2_.out; have NE2 := n2_.out.symm; clear n2_; clear z8_0 z8_1 q8_0 q8_1; obtain ⟨⟨z8_0, z8_1⟩, q8_0, q8_1⟩ := Bx2 HX8.out; obtain ⟨⟨z9_0, z9_1, z9_2, z9_3, z9_4, z9_5⟩, q9_0, q9_1, q9_2, q9_3, q9_4, q9_5⟩ := Bx6 HX9.out; clear hb hbox hg))
 refine to_env (w0 := w) (Env.cons (Bx.st g9 #[.int .i64 5, .int .i64 u1, .bool u2, .bool u3, .int .i64 0, .int .i64 u5] 38) (blk_put (blk_put (blk_put (blk_put (blk_put (blk_put (blk_far (p := ⟨g8, 1, none⟩) (blk_far (p := ⟨g8, 0, none⟩) HX9.out NE2 (.slice Ac DC.length cc)) NE2 (.slice Bc FC.length bc)) 0 (.int .i64 5) rfl) 1 (.int .i64 u1) rfl) 2 (.bool u2) rfl) 3 (.bool u3) rfl) 4 (.int .i64 0) rfl) 5 (.int .i64 u5) rfl) (Env.cons (Bx.st g8 #[.slice Ac DC.length cc, .slice Bc FC.length bc] 25) (blk_far (p := ⟨g9, 5, none⟩) (blk_far (p := ⟨g9, 4, none⟩) (blk_far (p := ⟨g9, 3, none⟩) (blk_far (p := ⟨g9, 2, none⟩) (blk_far (p := ⟨g9, 1, none⟩) (blk_far (p := ⟨g9, 0, none⟩) (blk_put (blk_put HX8.out 0 (.slice Ac DC.length cc) rfl) 1 (.slice Bc FC.length bc) rfl) NE (.int .i64 5)) NE (.int .i64 u1)) NE (.bool u2)) NE (.bool u3)) NE (.int .i64 0)) NE (.int .i64 u5)) (Env.below (Pe_ E.out) (below_set (g := g9) (below_set (g := g9) (below_set (g := g9) (below_set (g := g9) (below_set (g := g9) (below_set (g := g9) (below_set (g := g8) (below_set (g := g8) HA.out GE8.out (j := 0) (v := .slice Ac DC.length cc)) GE8.out (j := 1) (v := .slice Bc FC.length bc)) GE9.out (j := 0) (v := .int .i64 5)) GE9.out (j := 1) (v := .int .i64 u1)) GE9.out (j := 2) (v := .bool u2)) GE9.out (j := 3) (v := .bool u3)) GE9.out (j := 4) (v := .int .i64 0)) GE9.out (j := 5) (v := .int .i64 u5))))) (below_step (Pb0_ HB.out) (below_set (g := g9) (below_set (g := g9) (below_set (g := g9) (below_set (g := g9) (below_set (g := g9) (below_set (g := g9) (below_set (g := g8) (below_set (g := g8) HA.out GE8.out (j := 0) (v := .slice Ac DC.length cc)) GE8.out (j := 1) (v := .slice Bc FC.length bc)) GE9.out (j := 0) (v := .int .i64 5)) GE9.out (j := 1) (v := .int .i64 u1)) GE9.out (j := 2) (v := .bool u2)) GE9.out (j := 3) (v := .bool u3)) GE9.out (j := 4) (v := .int .i64 0)) GE9.out (j := 5) (v := .int .i64 u5))) (fun w5 nE nB => ?_)
 clear E HB HA HX8 GE8 HX9 GE9
 have E := nE
 have HB := nB
 clear nE nB
 (try clear l5_0 l5_1 m5_0 m5_1)
 (try clear z8_0 z8_1 q8_0 q8_1)
 (try clear z9_0 z9_1 z9_2 z9_3 z9_4 z9_5 q9_0 q9_1 q9_2 q9_3 q9_4 q9_5)
 (try clear NE NE2)
 obtain ⟨⟨l8_0, l8_1⟩, m8_0, m8_1⟩ := Bx2 E.out.2.1.1
 go_upto_region 6 with (first | ((with_reducible refine gate_callee (f := 24) rfl ?_); refine goesL_ (some 43) rfl rfl Try.func24 (by kernel_rfl) rfl #[.agg #[.slice Ac DC.length cc, .slice Bc FC.length bc], .int .i64 1, .int .i64 1] rfl (by (try simp only [List.map_toArray, List.map_cons, List.map_nil]); first | done | rfl) ?_; (refine (Dup_T E.out.2.2.1.1 h4_.out).mono ?_); rintro en w_ ⟨Ad, cd, Bd, bd, rfl, hT, hb⟩; refine ⟨_, rfl, ?_⟩; have n0_ := Aside0.mk (Env.cons (T38.st _ _ _ _ _ _) hT (Env.below (Pe_ E.out) hb)); have n1_ := Aside0.mk (below_step (Pb0_ HB.out) hb); clear E HB; have E := n0_; have HB := n1_; clear n0_ n1_ hb; clear hT) | ((with_reducible refine gate_dst (N := 11) rfl ?_); refine box_event ?hg (N := 11) ?hd (cs := #[.slice none 0 0, .slice none 0 0]) (t := 25) ?hr ?_; (case hd => rfl); (case hg => rfl); (case hr => go_simp; try rfl); intro g11 hg w_ hbox hb; have GE11 := Aside0.mk (Nat.le_of_eq hg.symm); have HX11 := Aside0.mk hbox; have HA := Aside0.mk hb; obtain ⟨⟨z11_0, z11_1⟩, q11_0, q11_1⟩ := Bx2 HX11.out; clear hb hbox hg))
 refine to_env (w0 := w) (Env.cons (Bx.st g11 #[.slice Ad DD.length cd, .slice Bd FD.length bd] 25) (blk_put (blk_put HX11.out 0 (.slice Ad DD.length cd) rfl) 1 (.slice Bd FD.length bd) rfl) (Env.below (Pe_ E.out) (below_set (g := g11) (below_set (g := g11) HA.out GE11.out (j := 0) (v := .slice Ad DD.length cd)) GE11.out (j := 1) (v := .slice Bd FD.length bd)))) (below_step (Pb0_ HB.out) (below_set (g := g11) (below_set (g := g11) HA.out GE11.out (j := 0) (v := .slice Ad DD.length cd)) GE11.out (j := 1) (v := .slice Bd FD.length bd))) (fun w6 nE nB => ?_)
 clear E HB HA HX11 GE11
 have E := nE
 have HB := nB
 clear nE nB
 (try clear l8_0 l8_1 m8_0 m8_1)
 (try clear z11_0 z11_1 q11_0 q11_1)
 obtain ⟨⟨l11_0, l11_1⟩, m11_0, m11_1⟩ := Bx2 E.out.1.1
 go_upto_region 7 with (first | ((with_reducible refine gate_callee (f := 20) rfl ?_); refine goesL_ (some 49) rfl rfl Try.func20 (by kernel_rfl) rfl #[.agg #[.slice Ad DD.length cd, .slice Bd FD.length bd], .int .i64 1, .int .i64 0] rfl (by (try simp only [List.map_toArray, List.map_cons, List.map_nil]); first | done | rfl) ?_; (refine (handle_Get.calls _ _ DD _ _ FD 1 0 1 6 e1 e2 e3 2 e5 true _ E.out.2.1.1.1.2 E.out.2.1.1.1.1 E.out.2.1.1.2.2 E.out.2.1.1.2.1 h5_.out).mono ?_); rintro en w_ ⟨rfl, hb⟩; refine ⟨_, rfl, ?_⟩; have n0_ := Aside0.mk (Env.below (Pe_ E.out) hb); have n1_ := Aside0.mk (below_step (Pb0_ HB.out) hb); clear E HB; have E := n0_; have HB := n1_; clear n0_ n1_ hb) | ((with_reducible refine gate_dst (N := 15) rfl ?_); refine box_event ?hg (N := 15) ?hd (cs := #[.int .i64 0, .int .i64 0, .bool false, .bool false, .int .i64 0, .int .i64 0]) (t := 38) ?hr ?_; (case hd => rfl); (case hg => rfl); (case hr => go_simp; try rfl); intro g15 hg w_ hbox hb; have GE15 := Aside0.mk (Nat.le_of_eq hg.symm); have HX15 := Aside0.mk hbox; have HA := Aside0.mk hb; obtain ⟨⟨z15_0, z15_1, z15_2, z15_3, z15_4, z15_5⟩, q15_0, q15_1, q15_2, q15_3, q15_4, q15_5⟩ := Bx6 HX15.out; clear hb hbox hg))
 refine to_env (w0 := w) (Env.cons (Bx.st g15 #[.int .i64 6, .int .i64 e1, .bool e2, .bool e3, .int .i64 2, .int .i64 e5] 38) (blk_put (blk_put (blk_put (blk_put (blk_put (blk_put HX15.out 0 (.int .i64 6) rfl) 1 (.int .i64 e1) rfl) 2 (.bool e2) rfl) 3 (.bool e3) rfl) 4 (.int .i64 2) rfl) 5 (.int .i64 e5) rfl) (Env.below (Pe_ E.out) (below_set (g := g15) (below_set (g := g15) (below_set (g := g15) (below_set (g := g15) (below_set (g := g15) (below_set (g := g15) HA.out GE15.out (j := 0) (v := .int .i64 6)) GE15.out (j := 1) (v := .int .i64 e1)) GE15.out (j := 2) (v := .bool e2)) GE15.out (j := 3) (v := .bool e3)) GE15.out (j := 4) (v := .int .i64 2)) GE15.out (j := 5) (v := .int .i64 e5)))) (below_step (Pb0_ HB.out) (below_set (g := g15) (below_set (g := g15) (below_set (g := g15) (below_set (g := g15) (below_set (g := g15) (below_set (g := g15) HA.out GE15.out (j := 0) (v := .int .i64 6)) GE15.out (j := 1) (v := .int .i64 e1)) GE15.out (j := 2) (v := .bool e2)) GE15.out (j := 3) (v := .bool e3)) GE15.out (j := 4) (v := .int .i64 2)) GE15.out (j := 5) (v := .int .i64 e5))) (fun w7 nE nB => ?_)
 clear E HB HA HX15 GE15
 have E := nE
 have HB := nB
 clear nE nB
 (try clear l11_0 l11_1 m11_0 m11_1)
 (try clear z15_0 z15_1 z15_2 z15_3 z15_4 z15_5 q15_0 q15_1 q15_2 q15_3 q15_4 q15_5)
 obtain ⟨⟨l1_0, l1_1⟩, m1_0, m1_1⟩ := Bx2 E.out.2.2.2.2.2.2.2.2.2.2.1.1
 go_upto_region 8 with (first | ((with_reducible refine gate_callee (f := 19) rfl ?_); refine goesL_ (some 56) rfl rfl Try.func19 (by kernel_rfl) rfl #[.agg #[.slice At D0.length ct, .slice Bt F0.length bt], .int .i64 2, .agg #[.int .i64 0, .int .i64 0, .bool false, .bool false, .int .i64 0, .int .i64 0]] rfl (by (try simp only [List.map_toArray, List.map_cons, List.map_nil]); first | done | rfl) ?_; (refine (Open_T E.out.2.2.2.2.2.2.2.2.2.2.2.1.1 h6_.out).mono ?_); rintro en w_ ⟨Aj, cj, Bj, bj, rfl, hT, hb⟩; refine ⟨_, rfl, ?_⟩; have n0_ := Aside0.mk (Env.cons (T38.st _ _ _ _ _ _) hT (Env.below (Pe_ E.out) hb)); have n1_ := Aside0.mk (below_step (Pb0_ HB.out) hb); clear E HB; have E := n0_; have HB := n1_; clear n0_ n1_ hb; clear hT) | ((with_reducible refine gate_dst (N := 17) rfl ?_); refine box_event ?hg (N := 17) ?hd (cs := #[.slice none 0 0, .slice none 0 0]) (t := 25) ?hr ?_; (case hd => rfl); (case hg => rfl); (case hr => go_simp; try rfl); intro g17 hg w_ hbox hb; have GE17 := Aside0.mk (Nat.le_of_eq hg.symm); have HX17 := Aside0.mk hbox; have HA := Aside0.mk hb; obtain ⟨⟨z17_0, z17_1⟩, q17_0, q17_1⟩ := Bx2 HX17.out; clear hb hbox hg))
 refine to_env (w0 := w) (Env.cons (Bx.st g17 #[.slice Aj DJ.length cj, .slice Bj FJ.length bj] 25) (blk_put (blk_put HX17.out 0 (.slice Aj DJ.length cj) rfl) 1 (.slice Bj FJ.length bj) rfl) (Env.below (Pe_ E.out) (below_set (g := g17) (below_set (g := g17) HA.out GE17.out (j := 0) (v := .slice Aj DJ.length cj)) GE17.out (j := 1) (v := .slice Bj FJ.length bj)))) (below_step (Pb0_ HB.out) (below_set (g := g17) (below_set (g := g17) HA.out GE17.out (j := 0) (v := .slice Aj DJ.length cj)) GE17.out (j := 1) (v := .slice Bj FJ.length bj))) (fun w8 nE nB => ?_)
 clear E HB HA HX17 GE17
 have E := nE
 have HB := nB
 clear nE nB
 (try clear l1_0 l1_1 m1_0 m1_1)
 (try clear z17_0 z17_1 q17_0 q17_1)
 obtain ⟨⟨l9_0, l9_1, l9_2, l9_3, l9_4, l9_5⟩, m9_0, m9_1, m9_2, m9_3, m9_4, m9_5⟩ := Bx6 E.out.2.2.2.2.2.1.1
 obtain ⟨⟨l15_0, l15_1, l15_2, l15_3, l15_4, l15_5⟩, m15_0, m15_1, m15_2, m15_3, m15_4, m15_5⟩ := Bx6 E.out.2.2.1.1
 obtain ⟨⟨l11_0, l11_1⟩, m11_0, m11_1⟩ := Bx2 E.out.2.2.2.1.1
 go_wp2_with (first | (go_at_call 12; (refine (handle_Right.calls k _ _ DD _ _ FD true _ E.out.2.2.2.2.1.1.1.2 E.out.2.2.2.2.1.1.1.1 E.out.2.2.2.2.1.1.2.2 E.out.2.2.2.2.1.1.2.1 h7_.out).mono ?_); rintro en w_ ⟨rfl, hb⟩; have n0_ := Aside0.mk (Env.below (Pe_ E.out) hb); have n1_ := Aside0.mk (below_step (Pb0_ HB.out) hb); clear E HB; have E := n0_; have HB := n1_; clear n0_ n1_ hb; obtain ⟨⟨k11_0, k11_1⟩, -⟩ := Bx2 E.out.2.2.2.1.1) | (go_at_call 22; (refine (handle_Count.calls k _ _ DD _ _ FD 1 2 _ E.out.2.2.2.2.1.1.1.2 E.out.2.2.2.2.1.1.1.1 E.out.2.2.2.2.1.1.2.2 E.out.2.2.2.2.1.1.2.1 h8_.out).mono ?_); rintro en w_ ⟨rfl, hb⟩; have n0_ := Aside0.mk (Env.below (Pe_ E.out) hb); have n1_ := Aside0.mk (below_step (Pb0_ HB.out) hb); clear E HB; have E := n0_; have HB := n1_; clear n0_ n1_ hb))
 go_ret
 exact ⟨by first | rfl | (simp; done), by first | exact HB.out | exact (Pb0_ HB.out)⟩
end Go.Proofs.Ytkecfdljodiifaa.P
