/- The walk of HandleActs: whatever is asked of a table that is right, what it compares is alike. Written by wip/mkTw.py. -/
import Derived.Test.YtkecfdljodiifaaTc
import Derived.Test.YtkecfdljodiifaaPhandleGet
import Derived.Test.YtkecfdljodiifaaPhandleCount
import Derived.Test.YtkecfdljodiifaaPref10Get
import Derived.Test.YtkecfdljodiifaaPref10Count
import Derived.Test.YtkecfdljodiifaaPref10Same
import Derived.Test.YtkecfdljodiifaaPlaw10fine
import Derived.Test.YtkecfdljodiifaaQsT
namespace Go.Proofs.Ytkecfdljodiifaa.P
open Go.RowKit Go.Proofs.YtkecfdljodiifaaW.PrintWords Go.Proofs.YtkecfdljodiifaaW.PrintLast Go.Proofs.YtkecfdljodiifaaW.PrintMore
set_option linter.unusedSimpArgs false
set_option linter.unusedVariables false
attribute [local go_sem] max2_int min2_int max_two min_two max_three min_three max_four min_four   -- for this text's walks alone

def acts.T10 : Bool × List (List Nat × List Nat) := (true, [([], []), ([0], [0]), ([], []), ([1, 2, 1], [1, 2]), ([3], [3]), ([4, 3], [4]), ([5], [5]), ([5], [5]), ([6, 7, 5], [5, 6, 7]), ([5, 8], [5, 8]), ([9, 5], [9]), ([10], [10]), ([10], [10]), ([11, 12, 10], [10, 11, 12]), ([10, 13], [10, 13]), ([14, 10], [14]), ([15], [15]), ([16, 15, 15], [15, 16]), ([15], [15]), ([17, 18, 17, 15], [15, 17, 18]), ([19, 15], [15, 19]), ([15, 20], [15, 20]), ([21, 19], [21]), ([22], [22]), ([22], [22]), ([23, 24, 22], [22, 23, 24]), ([22, 25], [22, 25]), ([26, 22], [26]), ([27], [27]), ([27], [27]), ([28, 29, 27], [27, 28, 29]), ([27, 30], [27, 30]), ([31, 27], [31]), ([32], [32]), ([33, 32, 32], [32, 33]), ([32], [32]), ([34, 35, 34, 32], [32, 34, 35]), ([36, 32], [32, 36]), ([32, 37], [32, 37]), ([38, 36], [38]), ([39], [39]), ([39], [39]), ([40, 41, 39], [39, 40, 41]), ([39, 42], [39, 42]), ([43, 39], [43]), ([44], [44]), ([44], [44]), ([45, 46, 44], [44, 45, 46]), ([44, 47], [44, 47])])
def acts.B10 : List Nat := [0, 1, 0, 7, 15, 31, 63, 63, 255, 511, 1023, 2047, 2047, 8191, 16383, 32767, 65535, 131071, 65535, 524287, 1048575, 2097151, 4194303, 8388607, 8388607, 33554431, 67108863, 134217727, 268435455, 268435455, 1073741823, 2147483647, 4294967295, 8589934591, 17179869183, 8589934591, 68719476735, 137438953471, 274877906943, 549755813887, 1099511627775, 1099511627775, 4398046511103, 8796093022207, 17592186044415, 35184372088831, 35184372088831, 140737488355327, 281474976710655]
theorem acts.tab10 : rtab .any (opsOf Try.f7 10) = acts.T10 := by kernel_rfl
theorem acts.bits10 : waitsOk acts.T10.2 acts.B10 = true := by kernel_rfl
def acts.T14 : Bool × List (List Nat × List Nat) := (true, [([], []), ([], []), ([0, 1], [0, 1]), ([2], [2]), ([3], [3]), ([3], [3]), ([4, 5, 3], [3, 4, 5]), ([3, 6], [3, 6]), ([7, 3], [7]), ([8], [8]), ([8], [8]), ([9, 10, 8], [8, 9, 10]), ([8, 11], [8, 11]), ([12, 8], [12]), ([13], [13]), ([13], [13]), ([14, 15, 13, 13], [13, 14, 15]), ([13], [13]), ([13], [13]), ([17, 18, 16, 13], [13, 17, 18]), ([16, 19, 13], [13, 16, 19]), ([13, 20], [13, 20]), ([21, 19], [21]), ([22], [22]), ([22], [22]), ([22], [22]), ([23, 24, 25, 22, 22], [22, 23, 24, 25]), ([26, 26, 22], [22, 26]), ([22], [22]), ([22], [22]), ([22], [22]), ([28, 29, 30, 27, 22], [22, 28, 29, 30]), ([27, 31, 31, 22], [22, 27, 31]), ([22, 32], [22, 32]), ([33, 32], [33]), ([34], [34]), ([35, 34, 34], [34, 35]), ([34], [34]), ([36, 37, 36, 34], [34, 36, 37]), ([34, 38], [34, 38]), ([39, 38, 0, 1, 2, 3, 4, 5, 6, 7, 8, 9, 10, 11, 12, 13, 14, 15, 16, 17, 18, 19, 20, 21, 22, 23, 24, 25, 26, 27, 28, 29, 30, 31, 32, 33, 34, 35, 36, 37, 38, 39], [39])])
def acts.B14 : List Nat := [0, 0, 3, 7, 15, 15, 63, 127, 255, 511, 511, 2047, 4095, 8191, 16383, 16383, 65535, 16383, 16383, 524287, 1048575, 2097151, 4194303, 8388607, 8388607, 8388607, 67108863, 134217727, 8388607, 8388607, 8388607, 2147483647, 4294967295, 8589934591, 17179869183, 34359738367, 68719476735, 34359738367, 274877906943, 549755813887, 1099511627775]
theorem acts.tab14 : rtab .any (opsOf Try.f7 14) = acts.T14 := by kernel_rfl
theorem acts.bits14 : waitsOk acts.T14.2 acts.B14 = true := by kernel_rfl
set_option maxHeartbeats 8000000 in
set_option maxRecDepth 100000 in
theorem acts_out {k : Nat} {A0 : Option Addr} {c0 : Nat} {ds : List S38} {A1 : Option Addr} {c1 : Nat} {fs : List (List Int)} {p d x0 x1 : Int} {x2 x3 : Bool} {x4 x5 : Int} {w : World} (hT : T38 A0 c0 ds A1 c1 fs w)
  (hf : flagstonelaw10_fine.f k ds fs = some false) :
  Calls Try.prog 7 #[.agg #[.slice A0 ds.length c0, .slice A1 fs.length c1], .int .i64 p, .int .i64 d, .agg #[.int .i64 x0, .int .i64 x1, .bool x2, .bool x3, .int .i64 x4, .int .i64 x5]] w fun e w' => e = .returned (.bool true) ∧ Below w.heap.size w w' := by
 have hf_ := Am_ hf
 clear hf
 have hu25 := Try.underlying25
 have hu38 := Try.underlying38
 have hu31 := Try.underlying31
 have hu54 := Try.underlying54
 have HB := Am_ (Below.refl w.heap.size w)
 have E := Am_ (Env.cons (T38.st _ _ _ _ _ _) hT (Env.nil w))
 clear hT
 go_enter Try.func7, Try.ntmps7
 go_upto_region 1 with (first | ((with_reducible refine gate_dst (N := 4) rfl ?_); refine box_event ?hg (N := 4) ?hd (cs := #[.slice A0 ds.length c0, .slice A1 fs.length c1]) (t := 25) ?hr ?_; (case hd => rfl); (case hg => rfl); (case hr => go_simp; try rfl); intro g4 hg w_ hbox hb; have n0_ := Am_ (Env.cons (Bx.st g4 _ 25) hbox (Env.below (Pe_ E.out) hb)); have n1_ := Am_ (Be_ (Pb0_ HB.out) hb); clear E HB; have E := n0_; have HB := n1_; clear n0_ n1_ hb hbox hg) | ((with_reducible refine gate_dst (N := 7) rfl ?_); refine box_event ?hg (N := 7) ?hd (cs := #[.int .i64 x0, .int .i64 x1, .bool x2, .bool x3, .int .i64 x4, .int .i64 x5]) (t := 38) ?hr ?_; (case hd => rfl); (case hg => rfl); (case hr => go_simp; try rfl); intro g7 hg w_ hbox hb; have n0_ := Am_ (Env.cons (Bx.st g7 _ 38) hbox (Env.below (Pe_ E.out) hb)); have n1_ := Am_ (Be_ (Pb0_ HB.out) hb); clear E HB; have E := n0_; have HB := n1_; clear n0_ n1_ hb hbox hg))
 (try simp only [Act.put, La_, Lb_, Lc_])
 obtain ⟨⟨l4_0, l4_1⟩, m4_0, m4_1⟩ := Bx2 E.out.2.1.1
 go_wp2_with (first | ((with_reducible refine gate_callee (f := 18) rfl ?_); refine goesL_ (some 35) rfl rfl Try.func18 (by kernel_rfl) rfl #[.agg #[.slice A0 ds.length c0, .slice A1 fs.length c1]] rfl (by (try simp only [List.map_toArray, List.map_cons, List.map_nil]); first | done | rfl) ?_; (refine (flagstonelaw10_fine.calls k A0 c0 ds A1 c1 fs false _ E.out.2.2.1.1.1.2 E.out.2.2.1.1.1.1 E.out.2.2.1.1.2.2 E.out.2.2.1.1.2.1 hf_.out).mono ?_); rintro en w_ ⟨rfl, hb⟩; refine ⟨_, rfl, ?_⟩; have n0_ := Am_ (Env.below (Pe_ E.out) hb); have n1_ := Am_ (Be_ (Pb0_ HB.out) hb); clear E HB; have E := n0_; have HB := n1_; clear n0_ n1_ hb) | ((with_reducible refine gate_callee (f := 11) rfl ?_); refine goesL_ (some 41) rfl rfl Try.func11 (by kernel_rfl) rfl #[] rfl (by (try simp only [List.map_toArray, List.map_cons, List.map_nil]); first | done | rfl) ?_; (refine (shown_calls _).mono ?_); rintro en w_ ⟨rfl, hb⟩; refine ⟨_, rfl, ?_⟩; have n0_ := Am_ (Env.below (Pe_ E.out) hb); have n1_ := Am_ (Be_ (Pb0_ HB.out) hb); clear E HB; have E := n0_; have HB := n1_; clear n0_ n1_ hb))
 go_ret
 exact ⟨rfl, by first | exact HB.out | exact (Pb0_ HB.out)⟩
set_option maxHeartbeats 8000000 in
set_option maxRecDepth 100000 in
theorem acts_in {k : Nat} {A0 : Option Addr} {c0 : Nat} {ds : List S38} {A1 : Option Addr} {c1 : Nat} {fs : List (List Int)} {p d x0 x1 : Int} {x2 x3 : Bool} {x4 x5 : Int} {es : List S54} {dO dD dC dS : List S38} {gO gD gC gS : List S54} {fO fD fC fS : List (List Int)} {iO eO iD eD y0 y1 : Int} {y2 y3 : Bool} {y4 y5 eC z v0 v1 : Int} {v2 v3 : Bool} {v4 v5 : Int} {zb : Bool} {n : Int} {w : World} (hT : T38 A0 c0 ds A1 c1 fs w)
  (hf : flagstonelaw10_fine.f k ds fs = some true) (hu : flagstonelaw10_its.f k ds fs = some (es, fs)) (hO : handle_Open.f ds fs p x0 x1 x2 x3 x4 x5 = some (dO, fO, iO, eO)) (hOr : flagstoneref10_Open.f k es fs p x0 x1 x2 x3 x4 x5 = some (gO, fO, iO, eO))
  (hD : handle_Dup.f ds fs p d = some (dD, fD, iD, eD)) (hDr : flagstoneref10_Dup.f k es fs p d = some (gD, fD, iD, eD)) (hC : handle_Close.f ds fs p d = some (dC, fC, y0, y1, y2, y3, y4, y5, eC)) (hCr : flagstoneref10_Close.f k es fs p d = some (gC, fC, y0, y1, y2, y3, y4, y5, eC))
  (tO : flagstonelaw10_its.f k dO fO = some (gO, fO)) (tD : flagstonelaw10_its.f k dD fD = some (gD, fD)) (tC : flagstonelaw10_its.f k dC fC = some (gC, fC)) (sO : flagstoneref10_Same.f k gO fO gO fO = some true) (sD : flagstoneref10_Same.f k gD fD gD fD = some true) (sC : flagstoneref10_Same.f k gC fC gC fC = some true)
  (hG : handle_Get.f ds fs p d = some (z, v0, v1, v2, v3, v4, v5, zb)) (hGr : flagstoneref10_Get.f es fs p d = some (z, v0, v1, v2, v3, v4, v5, zb)) (hN : handle_Count.f k ds fs p = some n) (hNr : flagstoneref10_Count.f k es fs p = some n)
  (hS : handle_Set.f ds fs d x0 x1 x2 x3 x4 x5 = some (dS, fS)) (hSr : flagstoneref10_Set.f k es fs d x0 x1 x2 x3 x4 x5 = some (gS, fS)) (tS : flagstonelaw10_its.f k dS fS = some (gS, fS)) (sS : flagstoneref10_Same.f k gS fS gS fS = some true) (su : flagstoneref10_Same.f k es fs es fs = some true) :
  Calls Try.prog 7 #[.agg #[.slice A0 ds.length c0, .slice A1 fs.length c1], .int .i64 p, .int .i64 d, .agg #[.int .i64 x0, .int .i64 x1, .bool x2, .bool x3, .int .i64 x4, .int .i64 x5]] w fun e w' => e = .returned (.bool true) ∧ Below w.heap.size w w' := by
 have hf_ := Am_ hf
 have hu_ := Am_ hu
 have hO_ := Am_ hO
 have hOr_ := Am_ hOr
 have hD_ := Am_ hD
 have hDr_ := Am_ hDr
 have hC_ := Am_ hC
 have hCr_ := Am_ hCr
 have tO_ := Am_ tO
 have tD_ := Am_ tD
 have tC_ := Am_ tC
 have sO_ := Am_ sO
 have sD_ := Am_ sD
 have sC_ := Am_ sC
 have hG_ := Am_ hG
 have hGr_ := Am_ hGr
 have hN_ := Am_ hN
 have hNr_ := Am_ hNr
 have hS_ := Am_ hS
 have hSr_ := Am_ hSr
 have tS_ := Am_ tS
 have sS_ := Am_ sS
 have su_ := Am_ su
 clear hf hu hO hOr hD hDr hC hCr tO tD tC sO sD sC hG hGr hN hNr hS hSr tS sS su
 have hu25 := Try.underlying25
 have hu38 := Try.underlying38
 have hu31 := Try.underlying31
 have hu54 := Try.underlying54
 have HB := Am_ (Below.refl w.heap.size w)
 have E := Am_ (Env.cons (T38.st _ _ _ _ _ _) hT (Env.nil w))
 clear hT
 go_enter Try.func7, Try.ntmps7
 go_upto_region 1 with (first | ((with_reducible refine gate_dst (N := 4) rfl ?_); refine box_event ?hg (N := 4) ?hd (cs := #[.slice A0 ds.length c0, .slice A1 fs.length c1]) (t := 25) ?hr ?_; (case hd => rfl); (case hg => rfl); (case hr => go_simp; try rfl); intro g4 hg w_ hbox hb; have n0_ := Am_ (Env.cons (Bx.st g4 _ 25) hbox (Env.below (Pe_ E.out) hb)); have n1_ := Am_ (Be_ (Pb0_ HB.out) hb); clear E HB; have E := n0_; have HB := n1_; clear n0_ n1_ hb hbox hg) | ((with_reducible refine gate_dst (N := 7) rfl ?_); refine box_event ?hg (N := 7) ?hd (cs := #[.int .i64 x0, .int .i64 x1, .bool x2, .bool x3, .int .i64 x4, .int .i64 x5]) (t := 38) ?hr ?_; (case hd => rfl); (case hg => rfl); (case hr => go_simp; try rfl); intro g7 hg w_ hbox hb; have n0_ := Am_ (Env.cons (Bx.st g7 _ 38) hbox (Env.below (Pe_ E.out) hb)); have n1_ := Am_ (Be_ (Pb0_ HB.out) hb); clear E HB; have E := n0_; have HB := n1_; clear n0_ n1_ hb hbox hg))
 (try simp only [Act.put, La_, Lb_, Lc_])
 obtain ⟨⟨l4_0, l4_1⟩, m4_0, m4_1⟩ := Bx2 E.out.2.1.1
 go_upto_region 3 with (first | ((with_reducible refine gate_callee (f := 18) rfl ?_); refine goesL_ (some 35) rfl rfl Try.func18 (by kernel_rfl) rfl #[.agg #[.slice A0 ds.length c0, .slice A1 fs.length c1]] rfl (by (try simp only [List.map_toArray, List.map_cons, List.map_nil]); first | done | rfl) ?_; (refine (flagstonelaw10_fine.calls k A0 c0 ds A1 c1 fs true _ E.out.2.2.1.1.1.2 E.out.2.2.1.1.1.1 E.out.2.2.1.1.2.2 E.out.2.2.1.1.2.1 hf_.out).mono ?_); rintro en w_ ⟨rfl, hb⟩; refine ⟨_, rfl, ?_⟩; have n0_ := Am_ (Env.below (Pe_ E.out) hb); have n1_ := Am_ (Be_ (Pb0_ HB.out) hb); clear E HB; have E := n0_; have HB := n1_; clear n0_ n1_ hb) | (go_at_call 11; (refine (shown_calls _).mono ?_); rintro en w_ ⟨rfl, hb⟩; have n0_ := Am_ (Env.below (Pe_ E.out) hb); have n1_ := Am_ (Be_ (Pb0_ HB.out) hb); clear E HB; have E := n0_; have HB := n1_; clear n0_ n1_ hb))
 clear l4_0 l4_1 m4_0 m4_1
 obtain ⟨⟨l4_0, l4_1⟩, m4_0, m4_1⟩ := Bx2 E.out.2.1.1
 go_upto_region 4 with (first | ((with_reducible refine gate_callee (f := 14) rfl ?_); refine goesL_ (some 43) rfl rfl Try.func14 (by kernel_rfl) rfl #[.agg #[.slice A0 ds.length c0, .slice A1 fs.length c1]] rfl (by (try simp only [List.map_toArray, List.map_cons, List.map_nil]); first | done | rfl) ?_; (refine (its_T E.out.2.2.1.1 hu_.out).mono ?_); rintro en w_ ⟨Au, cu, Bu, bu, rfl, hT, hb⟩; refine ⟨_, rfl, ?_⟩; have n0_ := Am_ (Env.cons (T54.st _ _ _ _ _ _) hT (Env.below (Pe_ E.out) hb)); have n1_ := Am_ (Be_ (Pb0_ HB.out) hb); clear E HB; have E := n0_; have HB := n1_; clear n0_ n1_ hb; clear hT) | ((with_reducible refine gate_dst (N := 9) rfl ?_); refine box_event ?hg (N := 9) ?hd (cs := #[.slice none 0 0, .slice none 0 0]) (t := 31) ?hr ?_; (case hd => rfl); (case hg => rfl); (case hr => go_simp; try rfl); intro g9 hg w_ hbox hb; have GE9 := Am_ (Nat.le_of_eq hg.symm); have HX9 := Am_ hbox; have HA := Am_ hb; obtain ⟨⟨z9_0, z9_1⟩, q9_0, q9_1⟩ := Bx2 HX9.out; clear hb hbox hg))
 refine to_env (w0 := w) (Env.cons (Bx.st g9 #[.slice Au es.length cu, .slice Bu fs.length bu] 31) (blk_put (blk_put HX9.out 0 (.slice Au es.length cu) rfl) 1 (.slice Bu fs.length bu) rfl) (Env.below (Pe_ E.out) (below_set (g := g9) (below_set (g := g9) HA.out GE9.out (j := 0) (v := .slice Au es.length cu)) GE9.out (j := 1) (v := .slice Bu fs.length bu)))) (Be_ (Pb0_ HB.out) (below_set (g := g9) (below_set (g := g9) HA.out GE9.out (j := 0) (v := .slice Au es.length cu)) GE9.out (j := 1) (v := .slice Bu fs.length bu))) (fun w4 nE nB => ?_)
 clear E HB HA HX9 GE9
 have E := nE
 have HB := nB
 clear nE nB
 (try clear l4_0 l4_1 m4_0 m4_1)
 (try clear z9_0 z9_1 q9_0 q9_1)
 obtain ⟨⟨l4_0, l4_1⟩, m4_0, m4_1⟩ := Bx2 E.out.2.2.2.1.1
 obtain ⟨⟨l7_0, l7_1, l7_2, l7_3, l7_4, l7_5⟩, m7_0, m7_1, m7_2, m7_3, m7_4, m7_5⟩ := Bx6 E.out.2.2.1.1
 go_upto_region 5 with (first | ((with_reducible refine gate_callee (f := 19) rfl ?_); refine goesL_ (some 48) rfl rfl Try.func19 (by kernel_rfl) rfl #[.agg #[.slice A0 ds.length c0, .slice A1 fs.length c1], .int .i64 p, .agg #[.int .i64 x0, .int .i64 x1, .bool x2, .bool x3, .int .i64 x4, .int .i64 x5]] rfl (by (try simp only [List.map_toArray, List.map_cons, List.map_nil]); first | done | rfl) ?_; (refine (Open_T E.out.2.2.2.2.1.1 hO_.out).mono ?_); rintro en w_ ⟨Aa, ca, Ba, ba, rfl, hT, hb⟩; refine ⟨_, rfl, ?_⟩; have n0_ := Am_ (Env.cons (T38.st _ _ _ _ _ _) hT (Env.below (Pe_ E.out) hb)); have n1_ := Am_ (Be_ (Pb0_ HB.out) hb); clear E HB; have E := n0_; have HB := n1_; clear n0_ n1_ hb; clear hT) | ((with_reducible refine gate_dst (N := 10) rfl ?_); refine box_event ?hg (N := 10) ?hd (cs := #[.slice none 0 0, .slice none 0 0]) (t := 25) ?hr ?_; (case hd => rfl); (case hg => rfl); (case hr => go_simp; try rfl); intro g10 hg w_ hbox hb; have GE10 := Am_ (Nat.le_of_eq hg.symm); have HX10 := Am_ hbox; have HA := Am_ hb; obtain ⟨⟨z10_0, z10_1⟩, q10_0, q10_1⟩ := Bx2 HX10.out; clear hb hbox hg))
 refine to_env (w0 := w) (Env.cons (Bx.st g10 #[.slice Aa dO.length ca, .slice Ba fO.length ba] 25) (blk_put (blk_put HX10.out 0 (.slice Aa dO.length ca) rfl) 1 (.slice Ba fO.length ba) rfl) (Env.below (Pe_ E.out) (below_set (g := g10) (below_set (g := g10) HA.out GE10.out (j := 0) (v := .slice Aa dO.length ca)) GE10.out (j := 1) (v := .slice Ba fO.length ba)))) (Be_ (Pb0_ HB.out) (below_set (g := g10) (below_set (g := g10) HA.out GE10.out (j := 0) (v := .slice Aa dO.length ca)) GE10.out (j := 1) (v := .slice Ba fO.length ba))) (fun w5 nE nB => ?_)
 clear E HB HA HX10 GE10
 have E := nE
 have HB := nB
 clear nE nB
 (try clear l4_0 l4_1 m4_0 m4_1 l7_0 l7_1 l7_2 l7_3 l7_4 l7_5 m7_0 m7_1 m7_2 m7_3 m7_4 m7_5)
 (try clear z10_0 z10_1 q10_0 q10_1)
 obtain ⟨⟨l9_0, l9_1⟩, m9_0, m9_1⟩ := Bx2 E.out.2.2.1.1
 obtain ⟨⟨l7_0, l7_1, l7_2, l7_3, l7_4, l7_5⟩, m7_0, m7_1, m7_2, m7_3, m7_4, m7_5⟩ := Bx6 E.out.2.2.2.2.1.1
 go_upto_region 6 with (first | ((with_reducible refine gate_callee (f := 25) rfl ?_); refine goesL_ (some 56) rfl rfl Try.func25 (by kernel_rfl) rfl #[.agg #[.slice Au es.length cu, .slice Bu fs.length bu], .int .i64 p, .agg #[.int .i64 x0, .int .i64 x1, .bool x2, .bool x3, .int .i64 x4, .int .i64 x5]] rfl (by (try simp only [List.map_toArray, List.map_cons, List.map_nil]); first | done | rfl) ?_; (refine (rOpen_T E.out.2.2.2.1.1 hOr_.out).mono ?_); rintro en w_ ⟨Ab, cb, Bb, bb, rfl, hT, hb⟩; refine ⟨_, rfl, ?_⟩; have n0_ := Am_ (Env.cons (T54.st _ _ _ _ _ _) hT (Env.below (Pe_ E.out) hb)); have n1_ := Am_ (Be_ (Pb0_ HB.out) hb); clear E HB; have E := n0_; have HB := n1_; clear n0_ n1_ hb; clear hT) | ((with_reducible refine gate_dst (N := 13) rfl ?_); refine box_event ?hg (N := 13) ?hd (cs := #[.slice none 0 0, .slice none 0 0]) (t := 31) ?hr ?_; (case hd => rfl); (case hg => rfl); (case hr => go_simp; try rfl); intro g13 hg w_ hbox hb; have GE13 := Am_ (Nat.le_of_eq hg.symm); have HX13 := Am_ hbox; have HA := Am_ hb; obtain ⟨⟨z13_0, z13_1⟩, q13_0, q13_1⟩ := Bx2 HX13.out; clear hb hbox hg))
 refine to_env (w0 := w) (Env.cons (Bx.st g13 #[.slice Ab gO.length cb, .slice Bb fO.length bb] 31) (blk_put (blk_put HX13.out 0 (.slice Ab gO.length cb) rfl) 1 (.slice Bb fO.length bb) rfl) (Env.below (Pe_ E.out) (below_set (g := g13) (below_set (g := g13) HA.out GE13.out (j := 0) (v := .slice Ab gO.length cb)) GE13.out (j := 1) (v := .slice Bb fO.length bb)))) (Be_ (Pb0_ HB.out) (below_set (g := g13) (below_set (g := g13) HA.out GE13.out (j := 0) (v := .slice Ab gO.length cb)) GE13.out (j := 1) (v := .slice Bb fO.length bb))) (fun w6 nE nB => ?_)
 clear E HB HA HX13 GE13
 have E := nE
 have HB := nB
 clear nE nB
 (try clear l9_0 l9_1 m9_0 m9_1 l7_0 l7_1 l7_2 l7_3 l7_4 l7_5 m7_0 m7_1 m7_2 m7_3 m7_4 m7_5)
 (try clear z13_0 z13_1 q13_0 q13_1)
 obtain ⟨⟨l4_0, l4_1⟩, m4_0, m4_1⟩ := Bx2 E.out.2.2.2.2.2.2.2.1.1
 go_upto_region 7 with (first | ((with_reducible refine gate_callee (f := 24) rfl ?_); refine goesL_ (some 64) rfl rfl Try.func24 (by kernel_rfl) rfl #[.agg #[.slice A0 ds.length c0, .slice A1 fs.length c1], .int .i64 p, .int .i64 d] rfl (by (try simp only [List.map_toArray, List.map_cons, List.map_nil]); first | done | rfl) ?_; (refine (Dup_T E.out.2.2.2.2.2.2.2.2.1.1 hD_.out).mono ?_); rintro en w_ ⟨Ac, cc, Bc, bc, rfl, hT, hb⟩; refine ⟨_, rfl, ?_⟩; have n0_ := Am_ (Env.cons (T38.st _ _ _ _ _ _) hT (Env.below (Pe_ E.out) hb)); have n1_ := Am_ (Be_ (Pb0_ HB.out) hb); clear E HB; have E := n0_; have HB := n1_; clear n0_ n1_ hb; clear hT) | ((with_reducible refine gate_dst (N := 16) rfl ?_); refine box_event ?hg (N := 16) ?hd (cs := #[.slice none 0 0, .slice none 0 0]) (t := 25) ?hr ?_; (case hd => rfl); (case hg => rfl); (case hr => go_simp; try rfl); intro g16 hg w_ hbox hb; have GE16 := Am_ (Nat.le_of_eq hg.symm); have HX16 := Am_ hbox; have HA := Am_ hb; obtain ⟨⟨z16_0, z16_1⟩, q16_0, q16_1⟩ := Bx2 HX16.out; clear hb hbox hg))
 refine to_env (w0 := w) (Env.cons (Bx.st g16 #[.slice Ac dD.length cc, .slice Bc fD.length bc] 25) (blk_put (blk_put HX16.out 0 (.slice Ac dD.length cc) rfl) 1 (.slice Bc fD.length bc) rfl) (Env.below (Pe_ E.out) (below_set (g := g16) (below_set (g := g16) HA.out GE16.out (j := 0) (v := .slice Ac dD.length cc)) GE16.out (j := 1) (v := .slice Bc fD.length bc)))) (Be_ (Pb0_ HB.out) (below_set (g := g16) (below_set (g := g16) HA.out GE16.out (j := 0) (v := .slice Ac dD.length cc)) GE16.out (j := 1) (v := .slice Bc fD.length bc))) (fun w7 nE nB => ?_)
 clear E HB HA HX16 GE16
 have E := nE
 have HB := nB
 clear nE nB
 (try clear l4_0 l4_1 m4_0 m4_1)
 (try clear z16_0 z16_1 q16_0 q16_1)
 obtain ⟨⟨l9_0, l9_1⟩, m9_0, m9_1⟩ := Bx2 E.out.2.2.2.2.2.2.1.1
 go_upto_region 8 with (first | ((with_reducible refine gate_callee (f := 26) rfl ?_); refine goesL_ (some 72) rfl rfl Try.func26 (by kernel_rfl) rfl #[.agg #[.slice Au es.length cu, .slice Bu fs.length bu], .int .i64 p, .int .i64 d] rfl (by (try simp only [List.map_toArray, List.map_cons, List.map_nil]); first | done | rfl) ?_; (refine (rDup_T E.out.2.2.2.2.2.2.2.1.1 hDr_.out).mono ?_); rintro en w_ ⟨Ae, ce, Be, be, rfl, hT, hb⟩; refine ⟨_, rfl, ?_⟩; have n0_ := Am_ (Env.cons (T54.st _ _ _ _ _ _) hT (Env.below (Pe_ E.out) hb)); have n1_ := Am_ (Be_ (Pb0_ HB.out) hb); clear E HB; have E := n0_; have HB := n1_; clear n0_ n1_ hb; clear hT) | ((with_reducible refine gate_dst (N := 19) rfl ?_); refine box_event ?hg (N := 19) ?hd (cs := #[.slice none 0 0, .slice none 0 0]) (t := 31) ?hr ?_; (case hd => rfl); (case hg => rfl); (case hr => go_simp; try rfl); intro g19 hg w_ hbox hb; have GE19 := Am_ (Nat.le_of_eq hg.symm); have HX19 := Am_ hbox; have HA := Am_ hb; obtain ⟨⟨z19_0, z19_1⟩, q19_0, q19_1⟩ := Bx2 HX19.out; clear hb hbox hg))
 refine to_env (w0 := w) (Env.cons (Bx.st g19 #[.slice Ae gD.length ce, .slice Be fD.length be] 31) (blk_put (blk_put HX19.out 0 (.slice Ae gD.length ce) rfl) 1 (.slice Be fD.length be) rfl) (Env.below (Pe_ E.out) (below_set (g := g19) (below_set (g := g19) HA.out GE19.out (j := 0) (v := .slice Ae gD.length ce)) GE19.out (j := 1) (v := .slice Be fD.length be)))) (Be_ (Pb0_ HB.out) (below_set (g := g19) (below_set (g := g19) HA.out GE19.out (j := 0) (v := .slice Ae gD.length ce)) GE19.out (j := 1) (v := .slice Be fD.length be))) (fun w8 nE nB => ?_)
 clear E HB HA HX19 GE19
 have E := nE
 have HB := nB
 clear nE nB
 (try clear l9_0 l9_1 m9_0 m9_1)
 (try clear z19_0 z19_1 q19_0 q19_1)
 obtain ⟨⟨l4_0, l4_1⟩, m4_0, m4_1⟩ := Bx2 E.out.2.2.2.2.2.2.2.2.2.2.2.1.1
 go_upto_region 9 with (first | ((with_reducible refine gate_callee (f := 21) rfl ?_); refine goesL_ (some 80) rfl rfl Try.func21 (by kernel_rfl) rfl #[.agg #[.slice A0 ds.length c0, .slice A1 fs.length c1], .int .i64 p, .int .i64 d] rfl (by (try simp only [List.map_toArray, List.map_cons, List.map_nil]); first | done | rfl) ?_; (refine (Close_T E.out.2.2.2.2.2.2.2.2.2.2.2.2.1.1 hC_.out).mono ?_); rintro en w_ ⟨Am, cm, Bm, bm, rfl, hT, hb⟩; refine ⟨_, rfl, ?_⟩; have n0_ := Am_ (Env.cons (T38.st _ _ _ _ _ _) hT (Env.below (Pe_ E.out) hb)); have n1_ := Am_ (Be_ (Pb0_ HB.out) hb); clear E HB; have E := n0_; have HB := n1_; clear n0_ n1_ hb; clear hT) | ((with_reducible refine gate_dst (N := 22) rfl ?_); refine box_event ?hg (N := 22) ?hd (cs := #[.slice none 0 0, .slice none 0 0]) (t := 25) ?hr ?_; (case hd => rfl); (case hg => rfl); (case hr => go_simp; try rfl); intro g22 hg w_ hbox hb; have GE22 := Am_ (Nat.le_of_eq hg.symm); have HX22 := Am_ hbox; have HA := Am_ hb; obtain ⟨⟨z22_0, z22_1⟩, q22_0, q22_1⟩ := Bx2 HX22.out; clear hb hbox hg) | ((with_reducible refine gate_dst (N := 23) rfl ?_); refine box_event ?hg (N := 23) ?hd (cs := #[.int .i64 0, .int .i64 0, .bool false, .bool false, .int .i64 0, .int .i64 0]) (t := 38) ?hr ?_; (case hd => rfl); (case hg => rfl); (case hr => go_simp; try rfl); intro g23 hg w_ hbox hb; have GE23 := Am_ (Nat.le_trans (Below.size HA.out) (Nat.le_of_eq hg.symm)); have HX23 := Am_ hbox; have n0_ := Am_ (blk_below HX22.out hb); have n1_ := Am_ (Be_ HA.out hb); have n2_ := Am_ (Nat.ne_of_lt (Nat.lt_of_lt_of_le (blk_lt HX22.out) (Nat.le_of_eq hg.symm))); clear HX22 HA; have HX22 := n0_; have HA := n1_; clear n0_ n1_; have NE := n2_.out; have NE2 := n2_.out.symm; clear n2_; clear z22_0 z22_1 q22_0 q22_1; obtain ⟨⟨z22_0, z22_1⟩, q22_0, q22_1⟩ := Bx2 HX22.out; obtain ⟨⟨z23_0, z23_1, z23_2, z23_3, z23_4, z23_5⟩, q23_0, q23_1, q23_2, q23_3, q23_4, q23_5⟩ := Bx6 HX23.out; clear hb hbox hg))
 refine to_env (w0 := w) (Env.cons (Bx.st g23 #[.int .i64 y0, .int .i64 y1, .bool y2, .bool y3, .int .i64 y4, .int .i64 y5] 38) (blk_put (blk_put (blk_put (blk_put (blk_put (blk_put (blk_far (p := ⟨g22, 1, none⟩) (blk_far (p := ⟨g22, 0, none⟩) HX23.out NE2 (.slice Am dC.length cm)) NE2 (.slice Bm fC.length bm)) 0 (.int .i64 y0) rfl) 1 (.int .i64 y1) rfl) 2 (.bool y2) rfl) 3 (.bool y3) rfl) 4 (.int .i64 y4) rfl) 5 (.int .i64 y5) rfl) (Env.cons (Bx.st g22 #[.slice Am dC.length cm, .slice Bm fC.length bm] 25) (blk_far (p := ⟨g23, 5, none⟩) (blk_far (p := ⟨g23, 4, none⟩) (blk_far (p := ⟨g23, 3, none⟩) (blk_far (p := ⟨g23, 2, none⟩) (blk_far (p := ⟨g23, 1, none⟩) (blk_far (p := ⟨g23, 0, none⟩) (blk_put (blk_put HX22.out 0 (.slice Am dC.length cm) rfl) 1 (.slice Bm fC.length bm) rfl) NE (.int .i64 y0)) NE (.int .i64 y1)) NE (.bool y2)) NE (.bool y3)) NE (.int .i64 y4)) NE (.int .i64 y5)) (Env.below (Pe_ E.out) (below_set (g := g23) (below_set (g := g23) (below_set (g := g23) (below_set (g := g23) (below_set (g := g23) (below_set (g := g23) (below_set (g := g22) (below_set (g := g22) HA.out GE22.out (j := 0) (v := .slice Am dC.length cm)) GE22.out (j := 1) (v := .slice Bm fC.length bm)) GE23.out (j := 0) (v := .int .i64 y0)) GE23.out (j := 1) (v := .int .i64 y1)) GE23.out (j := 2) (v := .bool y2)) GE23.out (j := 3) (v := .bool y3)) GE23.out (j := 4) (v := .int .i64 y4)) GE23.out (j := 5) (v := .int .i64 y5))))) (Be_ (Pb0_ HB.out) (below_set (g := g23) (below_set (g := g23) (below_set (g := g23) (below_set (g := g23) (below_set (g := g23) (below_set (g := g23) (below_set (g := g22) (below_set (g := g22) HA.out GE22.out (j := 0) (v := .slice Am dC.length cm)) GE22.out (j := 1) (v := .slice Bm fC.length bm)) GE23.out (j := 0) (v := .int .i64 y0)) GE23.out (j := 1) (v := .int .i64 y1)) GE23.out (j := 2) (v := .bool y2)) GE23.out (j := 3) (v := .bool y3)) GE23.out (j := 4) (v := .int .i64 y4)) GE23.out (j := 5) (v := .int .i64 y5))) (fun w9 nE nB => ?_)
 clear E HB HA HX22 GE22 HX23 GE23
 have E := nE
 have HB := nB
 clear nE nB
 (try clear l4_0 l4_1 m4_0 m4_1)
 (try clear z22_0 z22_1 q22_0 q22_1)
 (try clear z23_0 z23_1 z23_2 z23_3 z23_4 z23_5 q23_0 q23_1 q23_2 q23_3 q23_4 q23_5)
 (try clear NE NE2)
 obtain ⟨⟨l9_0, l9_1⟩, m9_0, m9_1⟩ := Bx2 E.out.2.2.2.2.2.2.2.2.2.2.2.1.1
 go_upto_region 10 with (first | ((with_reducible refine gate_callee (f := 27) rfl ?_); refine goesL_ (some 88) rfl rfl Try.func27 (by kernel_rfl) rfl #[.agg #[.slice Au es.length cu, .slice Bu fs.length bu], .int .i64 p, .int .i64 d] rfl (by (try simp only [List.map_toArray, List.map_cons, List.map_nil]); first | done | rfl) ?_; (refine (rClose_T E.out.2.2.2.2.2.2.2.2.2.2.2.2.1.1 hCr_.out).mono ?_); rintro en w_ ⟨Ao, co, Bo, bo, rfl, hT, hb⟩; refine ⟨_, rfl, ?_⟩; have n0_ := Am_ (Env.cons (T54.st _ _ _ _ _ _) hT (Env.below (Pe_ E.out) hb)); have n1_ := Am_ (Be_ (Pb0_ HB.out) hb); clear E HB; have E := n0_; have HB := n1_; clear n0_ n1_ hb; clear hT) | ((with_reducible refine gate_dst (N := 25) rfl ?_); refine box_event ?hg (N := 25) ?hd (cs := #[.slice none 0 0, .slice none 0 0]) (t := 31) ?hr ?_; (case hd => rfl); (case hg => rfl); (case hr => go_simp; try rfl); intro g25 hg w_ hbox hb; have GE25 := Am_ (Nat.le_of_eq hg.symm); have HX25 := Am_ hbox; have HA := Am_ hb; obtain ⟨⟨z25_0, z25_1⟩, q25_0, q25_1⟩ := Bx2 HX25.out; clear hb hbox hg) | ((with_reducible refine gate_dst (N := 26) rfl ?_); refine box_event ?hg (N := 26) ?hd (cs := #[.int .i64 0, .int .i64 0, .bool false, .bool false, .int .i64 0, .int .i64 0]) (t := 54) ?hr ?_; (case hd => rfl); (case hg => rfl); (case hr => go_simp; try rfl); intro g26 hg w_ hbox hb; have GE26 := Am_ (Nat.le_trans (Below.size HA.out) (Nat.le_of_eq hg.symm)); have HX26 := Am_ hbox; have n0_ := Am_ (blk_below HX25.out hb); have n1_ := Am_ (Be_ HA.out hb); have n2_ := Am_ (Nat.ne_of_lt (Nat.lt_of_lt_of_le (blk_lt HX25.out) (Nat.le_of_eq hg.symm))); clear HX25 HA; have HX25 := n0_; have HA := n1_; clear n0_ n1_; have NE := n2_.out; have NE2 := n2_.out.symm; clear n2_; clear z25_0 z25_1 q25_0 q25_1; obtain ⟨⟨z25_0, z25_1⟩, q25_0, q25_1⟩ := Bx2 HX25.out; obtain ⟨⟨z26_0, z26_1, z26_2, z26_3, z26_4, z26_5⟩, q26_0, q26_1, q26_2, q26_3, q26_4, q26_5⟩ := Bx6 HX26.out; clear hb hbox hg))
 refine to_env (w0 := w) (Env.cons (Bx.st g26 #[.int .i64 y0, .int .i64 y1, .bool y2, .bool y3, .int .i64 y4, .int .i64 y5] 54) (blk_put (blk_put (blk_put (blk_put (blk_put (blk_put (blk_far (p := ⟨g25, 1, none⟩) (blk_far (p := ⟨g25, 0, none⟩) HX26.out NE2 (.slice Ao gC.length co)) NE2 (.slice Bo fC.length bo)) 0 (.int .i64 y0) rfl) 1 (.int .i64 y1) rfl) 2 (.bool y2) rfl) 3 (.bool y3) rfl) 4 (.int .i64 y4) rfl) 5 (.int .i64 y5) rfl) (Env.cons (Bx.st g25 #[.slice Ao gC.length co, .slice Bo fC.length bo] 31) (blk_far (p := ⟨g26, 5, none⟩) (blk_far (p := ⟨g26, 4, none⟩) (blk_far (p := ⟨g26, 3, none⟩) (blk_far (p := ⟨g26, 2, none⟩) (blk_far (p := ⟨g26, 1, none⟩) (blk_far (p := ⟨g26, 0, none⟩) (blk_put (blk_put HX25.out 0 (.slice Ao gC.length co) rfl) 1 (.slice Bo fC.length bo) rfl) NE (.int .i64 y0)) NE (.int .i64 y1)) NE (.bool y2)) NE (.bool y3)) NE (.int .i64 y4)) NE (.int .i64 y5)) (Env.below (Pe_ E.out) (below_set (g := g26) (below_set (g := g26) (below_set (g := g26) (below_set (g := g26) (below_set (g := g26) (below_set (g := g26) (below_set (g := g25) (below_set (g := g25) HA.out GE25.out (j := 0) (v := .slice Ao gC.length co)) GE25.out (j := 1) (v := .slice Bo fC.length bo)) GE26.out (j := 0) (v := .int .i64 y0)) GE26.out (j := 1) (v := .int .i64 y1)) GE26.out (j := 2) (v := .bool y2)) GE26.out (j := 3) (v := .bool y3)) GE26.out (j := 4) (v := .int .i64 y4)) GE26.out (j := 5) (v := .int .i64 y5))))) (Be_ (Pb0_ HB.out) (below_set (g := g26) (below_set (g := g26) (below_set (g := g26) (below_set (g := g26) (below_set (g := g26) (below_set (g := g26) (below_set (g := g25) (below_set (g := g25) HA.out GE25.out (j := 0) (v := .slice Ao gC.length co)) GE25.out (j := 1) (v := .slice Bo fC.length bo)) GE26.out (j := 0) (v := .int .i64 y0)) GE26.out (j := 1) (v := .int .i64 y1)) GE26.out (j := 2) (v := .bool y2)) GE26.out (j := 3) (v := .bool y3)) GE26.out (j := 4) (v := .int .i64 y4)) GE26.out (j := 5) (v := .int .i64 y5))) (fun w10 nE nB => ?_)
 clear E HB HA HX25 GE25 HX26 GE26
 have E := nE
 have HB := nB
 clear nE nB
 (try clear l9_0 l9_1 m9_0 m9_1)
 (try clear z25_0 z25_1 q25_0 q25_1)
 (try clear z26_0 z26_1 z26_2 z26_3 z26_4 z26_5 q26_0 q26_1 q26_2 q26_3 q26_4 q26_5)
 (try clear NE NE2)
 have q1 : (iO != iO) = false := bne_self_eq_false iO
 have q2 : (eO != eO) = false := bne_self_eq_false eO
 have q3 : (iD != iD) = false := bne_self_eq_false iD
 have q4 : (eD != eD) = false := bne_self_eq_false eD
 have q5 : (!(y0 == y0) || (!(y1 == y1) || (!(y2 == y2) || (!(y3 == y3) || (!(y4 == y4) || (!(y5 == y5))))))) = false := by simp
 have q6 : (eC != eC) = false := bne_self_eq_false eC
 have q7 : (z == z) = true := beq_self_eq_true z
 have q8 : (v0 == v0 && (v1 == v1 && (v2 == v2 && (v3 == v3 && (v4 == v4 && (v5 == v5)))))) = true := by simp
 have q9 : (zb == zb) = true := beq_self_eq_true zb
 have q10 : (n == n) = true := beq_self_eq_true n
 have E0 := E
 have HS := Am_ (rfl : w10 = w10)
 clear HS
 refine start_ (n := 49) (S := fun w' => Below w10.heap.size w10 w') (ds := []) #[f_,f_,f_,f_,f_,f_,f_,f_,f_,f_,f_,f_,f_,f_,f_,f_,f_,f_,f_,f_,f_,f_,f_,f_,f_,f_,f_,f_,f_,f_,f_,f_,f_,f_,f_,f_,f_,f_,f_,f_,f_,f_,f_,f_,f_,f_,f_,f_,f_] (by kernel_rfl) rfl rfl (below_drew1 (Below.refl _ _)) (fun hHeld => ?_)
 refine with_tabW acts.tab10 acts.bits10 (fun HT_ HW_ => ?_)
 have n0_ := Am_ (Env.below E.out hHeld)
 have n1_ := Am_ (Be_ HB.out hHeld)
 clear E HB
 have E := n0_
 have HB := n1_
 clear n0_ n1_
 generalize w10.drew = w_ at E HB hHeld ⊢
 refine take_ (i := 0) (N := some 92) (v := ?_) (a' := ?_) #[t_,f_,f_,f_,f_,f_,f_,f_,f_,f_,f_,f_,f_,f_,f_,f_,f_,f_,f_,f_,f_,f_,f_,f_,f_,f_,f_,f_,f_,f_,f_,f_,f_,f_,f_,f_,f_,f_,f_,f_,f_,f_,f_,f_,f_,f_,f_,f_,f_] rfl rfl (take_ofW HT_.out HW_.out (by kernel_rfl)) (fun _ _ _ h => h) (Or.inl ⟨by rfl, ?_⟩) hHeld ?_ ?_
 rotate_left
 · intro w' s
   obtain ⟨⟨l0, l1⟩, -⟩ := Bx2 (Env.below E0.out s).2.2.2.2.2.2.2.2.2.2.2.2.1.1
   go_simp
   with_reducible rfl
 rotate_left
 · simp only [Act.put, La_, Lb_, Lc_, i64_w, i32_w]
   rfl
 refine take_ (i := 2) (N := some 94) (v := ?_) (a' := ?_) #[t_,f_,t_,f_,f_,f_,f_,f_,f_,f_,f_,f_,f_,f_,f_,f_,f_,f_,f_,f_,f_,f_,f_,f_,f_,f_,f_,f_,f_,f_,f_,f_,f_,f_,f_,f_,f_,f_,f_,f_,f_,f_,f_,f_,f_,f_,f_,f_,f_] rfl rfl (take_ofW HT_.out HW_.out (by kernel_rfl)) (fun _ _ _ h => h) (Or.inl ⟨by rfl, ?_⟩) hHeld ?_ ?_
 rotate_left
 · intro w' s
   obtain ⟨⟨l0, l1⟩, -⟩ := Bx2 (Env.below E0.out s).2.2.2.2.2.2.2.2.2.2.1.1
   go_simp
   with_reducible rfl
 rotate_left
 · simp only [Act.put, La_, Lb_, Lc_, i64_w, i32_w]
   rfl
 refine one_ (i := 1) (N := some 93) #[t_,t_,t_,f_,f_,f_,f_,f_,f_,f_,f_,f_,f_,f_,f_,f_,f_,f_,f_,f_,f_,f_,f_,f_,f_,f_,f_,f_,f_,f_,f_,f_,f_,f_,f_,f_,f_,f_,f_,f_,f_,f_,f_,f_,f_,f_,f_,f_,f_] rfl rfl (one_of HT_.out (by kernel_rfl)) (by decide) (fun K hK => ?_)
 refine goes_ Try.func14 (by kernel_rfl) rfl #[.agg #[.slice Aa dO.length ca, .slice Ba fO.length ba]] (by rfl) rfl rfl (by (try simp only [List.map_toArray, List.map_cons, List.map_nil]); first | done | rfl) ?_
 refine (its_T E.out.2.2.2.2.2.2.2.2.2.2.2.2.2.1.1 tO_.out).mono ?_
 rintro en w2_ ⟨Aa2, ca2, Ba2, ba2, rfl, hT, hb⟩
 refine ⟨_, rfl, ?_⟩
 have n2_ := Be_ hHeld hb
 have n0_ := Am_ (Env.cons (T54.st _ _ _ _ _ _) hT (Env.below (Pe_ E.out) hb))
 have n1_ := Am_ (Be_ (Pb0_ HB.out) hb)
 clear E HB
 have E := n0_
 have HB := n1_
 clear n0_ n1_ hb
 clear hT
 refine hK.out _ _ n2_ (fun _ => ?_)
 clear hK K hHeld
 have hHeld := n2_
 clear n2_
 refine norm_ (a' := ?_) ?_ ?_
 rotate_left
 · show Act.put _ (some 93) _ = _
   simp only [Act.put, La_, Lb_, Lc_, i64_w, i32_w]
   rfl
 refine one_ (i := 3) (N := some 95) #[t_,t_,t_,t_,f_,f_,f_,f_,f_,f_,f_,f_,f_,f_,f_,f_,f_,f_,f_,f_,f_,f_,f_,f_,f_,f_,f_,f_,f_,f_,f_,f_,f_,f_,f_,f_,f_,f_,f_,f_,f_,f_,f_,f_,f_,f_,f_,f_,f_] rfl rfl (one_of HT_.out (by kernel_rfl)) (by decide) (fun K hK => ?_)
 refine goes_ Try.func15 (by kernel_rfl) rfl #[.agg #[.slice Aa2 gO.length ca2, .slice Ba2 fO.length ba2], .agg #[.slice Ab gO.length cb, .slice Bb fO.length bb]] (by rfl) rfl rfl (by (try simp only [List.map_toArray, List.map_cons, List.map_nil]); first | done | rfl) ?_
 refine (flagstoneref10_Same.calls k _ _ gO _ _ fO _ _ gO _ _ fO true _ E.out.1.1.1.2 E.out.1.1.1.1 E.out.1.1.2.2 E.out.1.1.2.1 E.out.2.2.2.2.2.2.2.2.2.2.2.2.1.1.1.2 E.out.2.2.2.2.2.2.2.2.2.2.2.2.1.1.1.1 E.out.2.2.2.2.2.2.2.2.2.2.2.2.1.1.2.2 E.out.2.2.2.2.2.2.2.2.2.2.2.2.1.1.2.1 sO_.out).mono ?_
 rintro en w2_ ⟨rfl, hb⟩
 refine ⟨_, rfl, ?_⟩
 have n2_ := Be_ hHeld hb
 have n0_ := Am_ (Env.below (Pe_ E.out) hb)
 have n1_ := Am_ (Be_ (Pb0_ HB.out) hb)
 clear E HB
 have E := n0_
 have HB := n1_
 clear n0_ n1_ hb
 refine hK.out _ _ n2_ (fun _ => ?_)
 clear hK K hHeld
 have hHeld := n2_
 clear n2_
 refine norm_ (a' := ?_) ?_ ?_
 rotate_left
 · show Act.put _ (some 95) _ = _
   simp only [Act.put, La_, Lb_, Lc_, i64_w, i32_w]
   rfl
 refine pure_ (i := 4) (N := some 96) (v := ?_) (a' := ?_) #[t_,t_,t_,t_,t_,f_,f_,f_,f_,f_,f_,f_,f_,f_,f_,f_,f_,f_,f_,f_,f_,f_,f_,f_,f_,f_,f_,f_,f_,f_,f_,f_,f_,f_,f_,f_,f_,f_,f_,f_,f_,f_,f_,f_,f_,f_,f_,f_,f_] rfl rfl (any_of HT_.out (by kernel_rfl)) (fun _ _ _ h => h) (Or.inl ⟨by rfl, ?_⟩) ?_ ?_
 rotate_left
 · intro w'
   go_simp
   with_reducible rfl
 rotate_left
 · simp only [Act.put, La_, Lb_, Lc_, i64_w, i32_w]
   rfl
 refine pure_ (i := 5) (N := some 97) (v := ?_) (a' := ?_) #[t_,t_,t_,t_,t_,t_,f_,f_,f_,f_,f_,f_,f_,f_,f_,f_,f_,f_,f_,f_,f_,f_,f_,f_,f_,f_,f_,f_,f_,f_,f_,f_,f_,f_,f_,f_,f_,f_,f_,f_,f_,f_,f_,f_,f_,f_,f_,f_,f_] rfl rfl (any_of HT_.out (by kernel_rfl)) (fun _ _ _ h => h) (Or.inl ⟨by rfl, ?_⟩) ?_ ?_
 rotate_left
 · intro w'
   go_simp
   with_reducible rfl
 rotate_left
 · simp only [Act.put, La_, Lb_, Lc_, i64_w, i32_w]
   rfl
 refine pure_ (i := 6) (N := some 98) (v := ?_) (a' := ?_) #[t_,t_,t_,t_,t_,t_,t_,f_,f_,f_,f_,f_,f_,f_,f_,f_,f_,f_,f_,f_,f_,f_,f_,f_,f_,f_,f_,f_,f_,f_,f_,f_,f_,f_,f_,f_,f_,f_,f_,f_,f_,f_,f_,f_,f_,f_,f_,f_,f_] rfl rfl (any_of HT_.out (by kernel_rfl)) (fun _ _ _ h => h) (Or.inl ⟨by rfl, ?_⟩) ?_ ?_
 rotate_left
 · intro w'
   go_simp
   with_reducible rfl
 rotate_left
 · simp only [Act.put, La_, Lb_, Lc_, i64_w, i32_w]
   rfl
 refine pure_ (i := 7) (N := some 99) (v := ?_) (a' := ?_) #[t_,t_,t_,t_,t_,t_,t_,t_,f_,f_,f_,f_,f_,f_,f_,f_,f_,f_,f_,f_,f_,f_,f_,f_,f_,f_,f_,f_,f_,f_,f_,f_,f_,f_,f_,f_,f_,f_,f_,f_,f_,f_,f_,f_,f_,f_,f_,f_,f_] rfl rfl (any_of HT_.out (by kernel_rfl)) (fun _ _ _ h => h) (Or.inl ⟨by rfl, ?_⟩) ?_ ?_
 rotate_left
 · intro w'
   go_simp
   with_reducible rfl
 rotate_left
 · simp only [Act.put, La_, Lb_, Lc_, i64_w, i32_w]
   rfl
 refine pure_ (i := 8) (N := some 100) (v := ?_) (a' := ?_) #[t_,t_,t_,t_,t_,t_,t_,t_,t_,f_,f_,f_,f_,f_,f_,f_,f_,f_,f_,f_,f_,f_,f_,f_,f_,f_,f_,f_,f_,f_,f_,f_,f_,f_,f_,f_,f_,f_,f_,f_,f_,f_,f_,f_,f_,f_,f_,f_,f_] rfl rfl (any_of HT_.out (by kernel_rfl)) (fun _ _ _ h => h) (Or.inl ⟨by rfl, ?_⟩) ?_ ?_
 rotate_left
 · intro w'
   go_simp
   with_reducible rfl
 rotate_left
 · simp only [Act.put, La_, Lb_, Lc_, i64_w, i32_w]
   rfl
 refine pure_ (i := 9) (N := some 101) (v := ?_) (a' := ?_) #[t_,t_,t_,t_,t_,t_,t_,t_,t_,t_,f_,f_,f_,f_,f_,f_,f_,f_,f_,f_,f_,f_,f_,f_,f_,f_,f_,f_,f_,f_,f_,f_,f_,f_,f_,f_,f_,f_,f_,f_,f_,f_,f_,f_,f_,f_,f_,f_,f_] rfl rfl (any_of HT_.out (by kernel_rfl)) (fun _ _ _ h => h) (Or.inl ⟨by rfl, ?_⟩) ?_ ?_
 rotate_left
 · intro w'
   go_simp
   with_reducible rfl
 rotate_left
 · simp only [Act.put, La_, Lb_, Lc_, i64_w, i32_w]
   rfl
 refine pure_ (i := 10) (N := some 102) (v := ?_) (a' := ?_) #[t_,t_,t_,t_,t_,t_,t_,t_,t_,t_,t_,f_,f_,f_,f_,f_,f_,f_,f_,f_,f_,f_,f_,f_,f_,f_,f_,f_,f_,f_,f_,f_,f_,f_,f_,f_,f_,f_,f_,f_,f_,f_,f_,f_,f_,f_,f_,f_,f_] rfl rfl (any_of HT_.out (by kernel_rfl)) (fun _ _ _ h => h) (Or.inl ⟨by rfl, ?_⟩) ?_ ?_
 rotate_left
 · intro w'
   go_simp
   with_reducible rfl
 rotate_left
 · simp only [Act.put, La_, Lb_, Lc_, i64_w, i32_w]
   rfl
 refine pure_ (i := 11) (N := some 103) (v := ?_) (a' := ?_) #[t_,t_,t_,t_,t_,t_,t_,t_,t_,t_,t_,t_,f_,f_,f_,f_,f_,f_,f_,f_,f_,f_,f_,f_,f_,f_,f_,f_,f_,f_,f_,f_,f_,f_,f_,f_,f_,f_,f_,f_,f_,f_,f_,f_,f_,f_,f_,f_,f_] rfl rfl (any_of HT_.out (by kernel_rfl)) (fun _ _ _ h => h) (Or.inl ⟨by rfl, ?_⟩) ?_ ?_
 rotate_left
 · intro w'
   go_simp
   with_reducible rfl
 rotate_left
 · simp only [Act.put, La_, Lb_, Lc_, i64_w, i32_w]
   rfl
 refine pure_ (i := 12) (N := some 104) (v := ?_) (a' := ?_) #[t_,t_,t_,t_,t_,t_,t_,t_,t_,t_,t_,t_,t_,f_,f_,f_,f_,f_,f_,f_,f_,f_,f_,f_,f_,f_,f_,f_,f_,f_,f_,f_,f_,f_,f_,f_,f_,f_,f_,f_,f_,f_,f_,f_,f_,f_,f_,f_,f_] rfl rfl (any_of HT_.out (by kernel_rfl)) (fun _ _ _ h => h) (Or.inl ⟨by rfl, ?_⟩) ?_ ?_
 rotate_left
 · intro w'
   go_simp
   with_reducible rfl
 rotate_left
 · simp only [Act.put, La_, Lb_, Lc_, i64_w, i32_w]
   rfl
 refine pure_ (i := 13) (N := some 105) (v := ?_) (a' := ?_) #[t_,t_,t_,t_,t_,t_,t_,t_,t_,t_,t_,t_,t_,t_,f_,f_,f_,f_,f_,f_,f_,f_,f_,f_,f_,f_,f_,f_,f_,f_,f_,f_,f_,f_,f_,f_,f_,f_,f_,f_,f_,f_,f_,f_,f_,f_,f_,f_,f_] rfl rfl (any_of HT_.out (by kernel_rfl)) (fun _ _ _ h => h) (Or.inl ⟨by rfl, ?_⟩) ?_ ?_
 rotate_left
 · intro w'
   go_simp
   with_reducible rfl
 rotate_left
 · simp only [Act.put, La_, Lb_, Lc_, i64_w, i32_w]
   rfl
 refine pure_ (i := 14) (N := some 106) (v := ?_) (a' := ?_) #[t_,t_,t_,t_,t_,t_,t_,t_,t_,t_,t_,t_,t_,t_,t_,f_,f_,f_,f_,f_,f_,f_,f_,f_,f_,f_,f_,f_,f_,f_,f_,f_,f_,f_,f_,f_,f_,f_,f_,f_,f_,f_,f_,f_,f_,f_,f_,f_,f_] rfl rfl (any_of HT_.out (by kernel_rfl)) (fun _ _ _ h => h) (Or.inl ⟨by rfl, ?_⟩) ?_ ?_
 rotate_left
 · intro w'
   go_simp
   with_reducible rfl
 rotate_left
 · simp only [Act.put, La_, Lb_, Lc_, i64_w, i32_w]
   rfl
 refine pure_ (i := 15) (N := some 107) (v := ?_) (a' := ?_) #[t_,t_,t_,t_,t_,t_,t_,t_,t_,t_,t_,t_,t_,t_,t_,t_,f_,f_,f_,f_,f_,f_,f_,f_,f_,f_,f_,f_,f_,f_,f_,f_,f_,f_,f_,f_,f_,f_,f_,f_,f_,f_,f_,f_,f_,f_,f_,f_,f_] rfl rfl (any_of HT_.out (by kernel_rfl)) (fun _ _ _ h => h) (Or.inl ⟨by rfl, ?_⟩) ?_ ?_
 rotate_left
 · intro w'
   go_simp
   with_reducible rfl
 rotate_left
 · simp only [Act.put, La_, Lb_, Lc_, i64_w, i32_w]
   rfl
 refine take_ (i := 16) (N := some 108) (v := ?_) (a' := ?_) #[t_,t_,t_,t_,t_,t_,t_,t_,t_,t_,t_,t_,t_,t_,t_,t_,t_,f_,f_,f_,f_,f_,f_,f_,f_,f_,f_,f_,f_,f_,f_,f_,f_,f_,f_,f_,f_,f_,f_,f_,f_,f_,f_,f_,f_,f_,f_,f_,f_] rfl rfl (take_ofW HT_.out HW_.out (by kernel_rfl)) (fun _ _ _ h => h) (Or.inl ⟨by rfl, ?_⟩) hHeld ?_ ?_
 rotate_left
 · intro w' s
   obtain ⟨⟨l0, l1⟩, -⟩ := Bx2 (Env.below E0.out s).2.2.2.2.2.2.2.2.1.1
   go_simp
   with_reducible rfl
 rotate_left
 · simp only [Act.put, La_, Lb_, Lc_, i64_w, i32_w]
   rfl
 refine take_ (i := 18) (N := some 110) (v := ?_) (a' := ?_) #[t_,t_,t_,t_,t_,t_,t_,t_,t_,t_,t_,t_,t_,t_,t_,t_,t_,f_,t_,f_,f_,f_,f_,f_,f_,f_,f_,f_,f_,f_,f_,f_,f_,f_,f_,f_,f_,f_,f_,f_,f_,f_,f_,f_,f_,f_,f_,f_,f_] rfl rfl (take_ofW HT_.out HW_.out (by kernel_rfl)) (fun _ _ _ h => h) (Or.inl ⟨by rfl, ?_⟩) hHeld ?_ ?_
 rotate_left
 · intro w' s
   obtain ⟨⟨l0, l1⟩, -⟩ := Bx2 (Env.below E0.out s).2.2.2.2.2.2.1.1
   go_simp
   with_reducible rfl
 rotate_left
 · simp only [Act.put, La_, Lb_, Lc_, i64_w, i32_w]
   rfl
 refine one_ (i := 17) (N := some 109) #[t_,t_,t_,t_,t_,t_,t_,t_,t_,t_,t_,t_,t_,t_,t_,t_,t_,t_,t_,f_,f_,f_,f_,f_,f_,f_,f_,f_,f_,f_,f_,f_,f_,f_,f_,f_,f_,f_,f_,f_,f_,f_,f_,f_,f_,f_,f_,f_,f_] rfl rfl (one_of HT_.out (by kernel_rfl)) (by decide) (fun K hK => ?_)
 refine goes_ Try.func14 (by kernel_rfl) rfl #[.agg #[.slice Ac dD.length cc, .slice Bc fD.length bc]] (by rfl) rfl rfl (by (try simp only [List.map_toArray, List.map_cons, List.map_nil]); first | done | rfl) ?_
 refine (its_T E.out.2.2.2.2.2.2.2.2.2.2.1.1 tD_.out).mono ?_
 rintro en w2_ ⟨Ac2, cc2, Bc2, bc2, rfl, hT, hb⟩
 refine ⟨_, rfl, ?_⟩
 have n2_ := Be_ hHeld hb
 have n0_ := Am_ (Env.cons (T54.st _ _ _ _ _ _) hT (Env.below (Pe_ E.out) hb))
 have n1_ := Am_ (Be_ (Pb0_ HB.out) hb)
 clear E HB
 have E := n0_
 have HB := n1_
 clear n0_ n1_ hb
 clear hT
 refine hK.out _ _ n2_ (fun _ => ?_)
 clear hK K hHeld
 have hHeld := n2_
 clear n2_
 refine norm_ (a' := ?_) ?_ ?_
 rotate_left
 · show Act.put _ (some 109) _ = _
   simp only [Act.put, La_, Lb_, Lc_, i64_w, i32_w]
   rfl
 refine one_ (i := 19) (N := some 111) #[t_,t_,t_,t_,t_,t_,t_,t_,t_,t_,t_,t_,t_,t_,t_,t_,t_,t_,t_,t_,f_,f_,f_,f_,f_,f_,f_,f_,f_,f_,f_,f_,f_,f_,f_,f_,f_,f_,f_,f_,f_,f_,f_,f_,f_,f_,f_,f_,f_] rfl rfl (one_of HT_.out (by kernel_rfl)) (by decide) (fun K hK => ?_)
 refine goes_ Try.func15 (by kernel_rfl) rfl #[.agg #[.slice Ac2 gD.length cc2, .slice Bc2 fD.length bc2], .agg #[.slice Ae gD.length ce, .slice Be fD.length be]] (by rfl) rfl rfl (by (try simp only [List.map_toArray, List.map_cons, List.map_nil]); first | done | rfl) ?_
 refine (flagstoneref10_Same.calls k _ _ gD _ _ fD _ _ gD _ _ fD true _ E.out.1.1.1.2 E.out.1.1.1.1 E.out.1.1.2.2 E.out.1.1.2.1 E.out.2.2.2.2.2.2.2.2.2.1.1.1.2 E.out.2.2.2.2.2.2.2.2.2.1.1.1.1 E.out.2.2.2.2.2.2.2.2.2.1.1.2.2 E.out.2.2.2.2.2.2.2.2.2.1.1.2.1 sD_.out).mono ?_
 rintro en w2_ ⟨rfl, hb⟩
 refine ⟨_, rfl, ?_⟩
 have n2_ := Be_ hHeld hb
 have n0_ := Am_ (Env.below (Pe_ E.out) hb)
 have n1_ := Am_ (Be_ (Pb0_ HB.out) hb)
 clear E HB
 have E := n0_
 have HB := n1_
 clear n0_ n1_ hb
 refine hK.out _ _ n2_ (fun _ => ?_)
 clear hK K hHeld
 have hHeld := n2_
 clear n2_
 refine norm_ (a' := ?_) ?_ ?_
 rotate_left
 · show Act.put _ (some 111) _ = _
   simp only [Act.put, La_, Lb_, Lc_, i64_w, i32_w]
   rfl
 refine pure_ (i := 20) (N := some 112) (v := ?_) (a' := ?_) #[t_,t_,t_,t_,t_,t_,t_,t_,t_,t_,t_,t_,t_,t_,t_,t_,t_,t_,t_,t_,t_,f_,f_,f_,f_,f_,f_,f_,f_,f_,f_,f_,f_,f_,f_,f_,f_,f_,f_,f_,f_,f_,f_,f_,f_,f_,f_,f_,f_] rfl rfl (any_of HT_.out (by kernel_rfl)) (fun _ _ _ h => h) (Or.inl ⟨by rfl, ?_⟩) ?_ ?_
 rotate_left
 · intro w'
   go_simp
   with_reducible rfl
 rotate_left
 · simp only [Act.put, La_, Lb_, Lc_, i64_w, i32_w]
   rfl
 refine pure_ (i := 21) (N := some 113) (v := ?_) (a' := ?_) #[t_,t_,t_,t_,t_,t_,t_,t_,t_,t_,t_,t_,t_,t_,t_,t_,t_,t_,t_,t_,t_,t_,f_,f_,f_,f_,f_,f_,f_,f_,f_,f_,f_,f_,f_,f_,f_,f_,f_,f_,f_,f_,f_,f_,f_,f_,f_,f_,f_] rfl rfl (any_of HT_.out (by kernel_rfl)) (fun _ _ _ h => h) (Or.inl ⟨by rfl, ?_⟩) ?_ ?_
 rotate_left
 · intro w'
   go_simp
   with_reducible rfl
 rotate_left
 · simp only [Act.put, La_, Lb_, Lc_, i64_w, i32_w]
   rfl
 refine pure_ (i := 22) (N := some 114) (v := ?_) (a' := ?_) #[t_,t_,t_,t_,t_,t_,t_,t_,t_,t_,t_,t_,t_,t_,t_,t_,t_,t_,t_,t_,t_,t_,t_,f_,f_,f_,f_,f_,f_,f_,f_,f_,f_,f_,f_,f_,f_,f_,f_,f_,f_,f_,f_,f_,f_,f_,f_,f_,f_] rfl rfl (any_of HT_.out (by kernel_rfl)) (fun _ _ _ h => h) (Or.inl ⟨by rfl, ?_⟩) ?_ ?_
 rotate_left
 · intro w'
   go_simp
   with_reducible rfl
 rotate_left
 · simp only [Act.put, La_, Lb_, Lc_, i64_w, i32_w]
   rfl
 refine pure_ (i := 23) (N := some 115) (v := ?_) (a' := ?_) #[t_,t_,t_,t_,t_,t_,t_,t_,t_,t_,t_,t_,t_,t_,t_,t_,t_,t_,t_,t_,t_,t_,t_,t_,f_,f_,f_,f_,f_,f_,f_,f_,f_,f_,f_,f_,f_,f_,f_,f_,f_,f_,f_,f_,f_,f_,f_,f_,f_] rfl rfl (any_of HT_.out (by kernel_rfl)) (fun _ _ _ h => h) (Or.inl ⟨by rfl, ?_⟩) ?_ ?_
 rotate_left
 · intro w'
   go_simp
   with_reducible rfl
 rotate_left
 · simp only [Act.put, La_, Lb_, Lc_, i64_w, i32_w]
   rfl
 refine pure_ (i := 24) (N := some 116) (v := ?_) (a' := ?_) #[t_,t_,t_,t_,t_,t_,t_,t_,t_,t_,t_,t_,t_,t_,t_,t_,t_,t_,t_,t_,t_,t_,t_,t_,t_,f_,f_,f_,f_,f_,f_,f_,f_,f_,f_,f_,f_,f_,f_,f_,f_,f_,f_,f_,f_,f_,f_,f_,f_] rfl rfl (any_of HT_.out (by kernel_rfl)) (fun _ _ _ h => h) (Or.inl ⟨by rfl, ?_⟩) ?_ ?_
 rotate_left
 · intro w'
   go_simp
   with_reducible rfl
 rotate_left
 · simp only [Act.put, La_, Lb_, Lc_, i64_w, i32_w]
   rfl
 refine pure_ (i := 25) (N := some 117) (v := ?_) (a' := ?_) #[t_,t_,t_,t_,t_,t_,t_,t_,t_,t_,t_,t_,t_,t_,t_,t_,t_,t_,t_,t_,t_,t_,t_,t_,t_,t_,f_,f_,f_,f_,f_,f_,f_,f_,f_,f_,f_,f_,f_,f_,f_,f_,f_,f_,f_,f_,f_,f_,f_] rfl rfl (any_of HT_.out (by kernel_rfl)) (fun _ _ _ h => h) (Or.inl ⟨by rfl, ?_⟩) ?_ ?_
 rotate_left
 · intro w'
   go_simp
   with_reducible rfl
 rotate_left
 · simp only [Act.put, La_, Lb_, Lc_, i64_w, i32_w]
   rfl
 refine pure_ (i := 26) (N := some 118) (v := ?_) (a' := ?_) #[t_,t_,t_,t_,t_,t_,t_,t_,t_,t_,t_,t_,t_,t_,t_,t_,t_,t_,t_,t_,t_,t_,t_,t_,t_,t_,t_,f_,f_,f_,f_,f_,f_,f_,f_,f_,f_,f_,f_,f_,f_,f_,f_,f_,f_,f_,f_,f_,f_] rfl rfl (any_of HT_.out (by kernel_rfl)) (fun _ _ _ h => h) (Or.inl ⟨by rfl, ?_⟩) ?_ ?_
 rotate_left
 · intro w'
   go_simp
   with_reducible rfl
 rotate_left
 · simp only [Act.put, La_, Lb_, Lc_, i64_w, i32_w]
   rfl
 refine pure_ (i := 27) (N := some 119) (v := ?_) (a' := ?_) #[t_,t_,t_,t_,t_,t_,t_,t_,t_,t_,t_,t_,t_,t_,t_,t_,t_,t_,t_,t_,t_,t_,t_,t_,t_,t_,t_,t_,f_,f_,f_,f_,f_,f_,f_,f_,f_,f_,f_,f_,f_,f_,f_,f_,f_,f_,f_,f_,f_] rfl rfl (any_of HT_.out (by kernel_rfl)) (fun _ _ _ h => h) (Or.inl ⟨by rfl, ?_⟩) ?_ ?_
 rotate_left
 · intro w'
   go_simp
   with_reducible rfl
 rotate_left
 · simp only [Act.put, La_, Lb_, Lc_, i64_w, i32_w]
   rfl
 refine pure_ (i := 28) (N := some 120) (v := ?_) (a' := ?_) #[t_,t_,t_,t_,t_,t_,t_,t_,t_,t_,t_,t_,t_,t_,t_,t_,t_,t_,t_,t_,t_,t_,t_,t_,t_,t_,t_,t_,t_,f_,f_,f_,f_,f_,f_,f_,f_,f_,f_,f_,f_,f_,f_,f_,f_,f_,f_,f_,f_] rfl rfl (any_of HT_.out (by kernel_rfl)) (fun _ _ _ h => h) (Or.inl ⟨by rfl, ?_⟩) ?_ ?_
 rotate_left
 · intro w'
   go_simp
   with_reducible rfl
 rotate_left
 · simp only [Act.put, La_, Lb_, Lc_, i64_w, i32_w]
   rfl
 refine pure_ (i := 29) (N := some 121) (v := ?_) (a' := ?_) #[t_,t_,t_,t_,t_,t_,t_,t_,t_,t_,t_,t_,t_,t_,t_,t_,t_,t_,t_,t_,t_,t_,t_,t_,t_,t_,t_,t_,t_,t_,f_,f_,f_,f_,f_,f_,f_,f_,f_,f_,f_,f_,f_,f_,f_,f_,f_,f_,f_] rfl rfl (any_of HT_.out (by kernel_rfl)) (fun _ _ _ h => h) (Or.inl ⟨by rfl, ?_⟩) ?_ ?_
 rotate_left
 · intro w'
   go_simp
   with_reducible rfl
 rotate_left
 · simp only [Act.put, La_, Lb_, Lc_, i64_w, i32_w]
   rfl
 refine pure_ (i := 30) (N := some 122) (v := ?_) (a' := ?_) #[t_,t_,t_,t_,t_,t_,t_,t_,t_,t_,t_,t_,t_,t_,t_,t_,t_,t_,t_,t_,t_,t_,t_,t_,t_,t_,t_,t_,t_,t_,t_,f_,f_,f_,f_,f_,f_,f_,f_,f_,f_,f_,f_,f_,f_,f_,f_,f_,f_] rfl rfl (any_of HT_.out (by kernel_rfl)) (fun _ _ _ h => h) (Or.inl ⟨by rfl, ?_⟩) ?_ ?_
 rotate_left
 · intro w'
   go_simp
   with_reducible rfl
 rotate_left
 · simp only [Act.put, La_, Lb_, Lc_, i64_w, i32_w]
   rfl
 refine pure_ (i := 31) (N := some 123) (v := ?_) (a' := ?_) #[t_,t_,t_,t_,t_,t_,t_,t_,t_,t_,t_,t_,t_,t_,t_,t_,t_,t_,t_,t_,t_,t_,t_,t_,t_,t_,t_,t_,t_,t_,t_,t_,f_,f_,f_,f_,f_,f_,f_,f_,f_,f_,f_,f_,f_,f_,f_,f_,f_] rfl rfl (any_of HT_.out (by kernel_rfl)) (fun _ _ _ h => h) (Or.inl ⟨by rfl, ?_⟩) ?_ ?_
 rotate_left
 · intro w'
   go_simp
   with_reducible rfl
 rotate_left
 · simp only [Act.put, La_, Lb_, Lc_, i64_w, i32_w]
   rfl
 refine pure_ (i := 32) (N := some 124) (v := ?_) (a' := ?_) #[t_,t_,t_,t_,t_,t_,t_,t_,t_,t_,t_,t_,t_,t_,t_,t_,t_,t_,t_,t_,t_,t_,t_,t_,t_,t_,t_,t_,t_,t_,t_,t_,t_,f_,f_,f_,f_,f_,f_,f_,f_,f_,f_,f_,f_,f_,f_,f_,f_] rfl rfl (any_of HT_.out (by kernel_rfl)) (fun _ _ _ h => h) (Or.inl ⟨by rfl, ?_⟩) ?_ ?_
 rotate_left
 · intro w'
   go_simp
   with_reducible rfl
 rotate_left
 · simp only [Act.put, La_, Lb_, Lc_, i64_w, i32_w]
   rfl
 refine take_ (i := 33) (N := some 125) (v := ?_) (a' := ?_) #[t_,t_,t_,t_,t_,t_,t_,t_,t_,t_,t_,t_,t_,t_,t_,t_,t_,t_,t_,t_,t_,t_,t_,t_,t_,t_,t_,t_,t_,t_,t_,t_,t_,t_,f_,f_,f_,f_,f_,f_,f_,f_,f_,f_,f_,f_,f_,f_,f_] rfl rfl (take_ofW HT_.out HW_.out (by kernel_rfl)) (fun _ _ _ h => h) (Or.inl ⟨by rfl, ?_⟩) hHeld ?_ ?_
 rotate_left
 · intro w' s
   obtain ⟨⟨l0, l1⟩, -⟩ := Bx2 (Env.below E0.out s).2.2.2.2.1.1
   go_simp
   with_reducible rfl
 rotate_left
 · simp only [Act.put, La_, Lb_, Lc_, i64_w, i32_w]
   rfl
 refine take_ (i := 35) (N := some 127) (v := ?_) (a' := ?_) #[t_,t_,t_,t_,t_,t_,t_,t_,t_,t_,t_,t_,t_,t_,t_,t_,t_,t_,t_,t_,t_,t_,t_,t_,t_,t_,t_,t_,t_,t_,t_,t_,t_,t_,f_,t_,f_,f_,f_,f_,f_,f_,f_,f_,f_,f_,f_,f_,f_] rfl rfl (take_ofW HT_.out HW_.out (by kernel_rfl)) (fun _ _ _ h => h) (Or.inl ⟨by rfl, ?_⟩) hHeld ?_ ?_
 rotate_left
 · intro w' s
   obtain ⟨⟨l0, l1⟩, -⟩ := Bx2 (Env.below E0.out s).2.1.1
   go_simp
   with_reducible rfl
 rotate_left
 · simp only [Act.put, La_, Lb_, Lc_, i64_w, i32_w]
   rfl
 refine one_ (i := 34) (N := some 126) #[t_,t_,t_,t_,t_,t_,t_,t_,t_,t_,t_,t_,t_,t_,t_,t_,t_,t_,t_,t_,t_,t_,t_,t_,t_,t_,t_,t_,t_,t_,t_,t_,t_,t_,t_,t_,f_,f_,f_,f_,f_,f_,f_,f_,f_,f_,f_,f_,f_] rfl rfl (one_of HT_.out (by kernel_rfl)) (by decide) (fun K hK => ?_)
 refine goes_ Try.func14 (by kernel_rfl) rfl #[.agg #[.slice Am dC.length cm, .slice Bm fC.length bm]] (by rfl) rfl rfl (by (try simp only [List.map_toArray, List.map_cons, List.map_nil]); first | done | rfl) ?_
 refine (its_T E.out.2.2.2.2.2.2.2.1.1 tC_.out).mono ?_
 rintro en w2_ ⟨Am2, cm2, Bm2, bm2, rfl, hT, hb⟩
 refine ⟨_, rfl, ?_⟩
 have n2_ := Be_ hHeld hb
 have n0_ := Am_ (Env.cons (T54.st _ _ _ _ _ _) hT (Env.below (Pe_ E.out) hb))
 have n1_ := Am_ (Be_ (Pb0_ HB.out) hb)
 clear E HB
 have E := n0_
 have HB := n1_
 clear n0_ n1_ hb
 clear hT
 refine hK.out _ _ n2_ (fun _ => ?_)
 clear hK K hHeld
 have hHeld := n2_
 clear n2_
 refine norm_ (a' := ?_) ?_ ?_
 rotate_left
 · show Act.put _ (some 126) _ = _
   simp only [Act.put, La_, Lb_, Lc_, i64_w, i32_w]
   rfl
 refine one_ (i := 36) (N := some 128) #[t_,t_,t_,t_,t_,t_,t_,t_,t_,t_,t_,t_,t_,t_,t_,t_,t_,t_,t_,t_,t_,t_,t_,t_,t_,t_,t_,t_,t_,t_,t_,t_,t_,t_,t_,t_,t_,f_,f_,f_,f_,f_,f_,f_,f_,f_,f_,f_,f_] rfl rfl (one_of HT_.out (by kernel_rfl)) (by decide) (fun K hK => ?_)
 refine goes_ Try.func15 (by kernel_rfl) rfl #[.agg #[.slice Am2 gC.length cm2, .slice Bm2 fC.length bm2], .agg #[.slice Ao gC.length co, .slice Bo fC.length bo]] (by rfl) rfl rfl (by (try simp only [List.map_toArray, List.map_cons, List.map_nil]); first | done | rfl) ?_
 refine (flagstoneref10_Same.calls k _ _ gC _ _ fC _ _ gC _ _ fC true _ E.out.1.1.1.2 E.out.1.1.1.1 E.out.1.1.2.2 E.out.1.1.2.1 E.out.2.2.2.2.2.1.1.1.2 E.out.2.2.2.2.2.1.1.1.1 E.out.2.2.2.2.2.1.1.2.2 E.out.2.2.2.2.2.1.1.2.1 sC_.out).mono ?_
 rintro en w2_ ⟨rfl, hb⟩
 refine ⟨_, rfl, ?_⟩
 have n2_ := Be_ hHeld hb
 have n0_ := Am_ (Env.below (Pe_ E.out) hb)
 have n1_ := Am_ (Be_ (Pb0_ HB.out) hb)
 clear E HB
 have E := n0_
 have HB := n1_
 clear n0_ n1_ hb
 refine hK.out _ _ n2_ (fun _ => ?_)
 clear hK K hHeld
 have hHeld := n2_
 clear n2_
 refine norm_ (a' := ?_) ?_ ?_
 rotate_left
 · show Act.put _ (some 128) _ = _
   simp only [Act.put, La_, Lb_, Lc_, i64_w, i32_w]
   rfl
 refine pure_ (i := 37) (N := some 129) (v := ?_) (a' := ?_) #[t_,t_,t_,t_,t_,t_,t_,t_,t_,t_,t_,t_,t_,t_,t_,t_,t_,t_,t_,t_,t_,t_,t_,t_,t_,t_,t_,t_,t_,t_,t_,t_,t_,t_,t_,t_,t_,t_,f_,f_,f_,f_,f_,f_,f_,f_,f_,f_,f_] rfl rfl (any_of HT_.out (by kernel_rfl)) (fun _ _ _ h => h) (Or.inl ⟨by rfl, ?_⟩) ?_ ?_
 rotate_left
 · intro w'
   go_simp
   with_reducible rfl
 rotate_left
 · simp only [Act.put, La_, Lb_, Lc_, i64_w, i32_w]
   rfl
 refine pure_ (i := 38) (N := some 130) (v := ?_) (a' := ?_) #[t_,t_,t_,t_,t_,t_,t_,t_,t_,t_,t_,t_,t_,t_,t_,t_,t_,t_,t_,t_,t_,t_,t_,t_,t_,t_,t_,t_,t_,t_,t_,t_,t_,t_,t_,t_,t_,t_,t_,f_,f_,f_,f_,f_,f_,f_,f_,f_,f_] rfl rfl (any_of HT_.out (by kernel_rfl)) (fun _ _ _ h => h) (Or.inl ⟨by rfl, ?_⟩) ?_ ?_
 rotate_left
 · intro w'
   go_simp
   with_reducible rfl
 rotate_left
 · simp only [Act.put, La_, Lb_, Lc_, i64_w, i32_w]
   rfl
 refine pure_ (i := 39) (N := some 131) (v := ?_) (a' := ?_) #[t_,t_,t_,t_,t_,t_,t_,t_,t_,t_,t_,t_,t_,t_,t_,t_,t_,t_,t_,t_,t_,t_,t_,t_,t_,t_,t_,t_,t_,t_,t_,t_,t_,t_,t_,t_,t_,t_,t_,t_,f_,f_,f_,f_,f_,f_,f_,f_,f_] rfl rfl (any_of HT_.out (by kernel_rfl)) (fun _ _ _ h => h) (Or.inl ⟨by rfl, ?_⟩) ?_ ?_
 rotate_left
 · intro w'
   go_simp
   with_reducible rfl
 rotate_left
 · simp only [Act.put, La_, Lb_, Lc_, i64_w, i32_w]
   rfl
 refine take_ (i := 40) (N := some 132) (v := ?_) (a' := ?_) #[t_,t_,t_,t_,t_,t_,t_,t_,t_,t_,t_,t_,t_,t_,t_,t_,t_,t_,t_,t_,t_,t_,t_,t_,t_,t_,t_,t_,t_,t_,t_,t_,t_,t_,t_,t_,t_,t_,t_,t_,t_,f_,f_,f_,f_,f_,f_,f_,f_] rfl rfl (take_ofW HT_.out HW_.out (by kernel_rfl)) (fun _ _ _ h => h) (Or.inl ⟨by rfl, ?_⟩) hHeld ?_ ?_
 rotate_left
 · intro w' s
   obtain ⟨⟨l0, l1, l2, l3, l4, l5⟩, -⟩ := Bx6 (Env.below E0.out s).2.2.2.1.1
   go_simp
   with_reducible rfl
 rotate_left
 · simp only [Act.put, La_, Lb_, Lc_, i64_w, i32_w]
   rfl
 refine take_ (i := 41) (N := some 133) (v := ?_) (a' := ?_) #[t_,t_,t_,t_,t_,t_,t_,t_,t_,t_,t_,t_,t_,t_,t_,t_,t_,t_,t_,t_,t_,t_,t_,t_,t_,t_,t_,t_,t_,t_,t_,t_,t_,t_,t_,t_,t_,t_,t_,t_,t_,t_,f_,f_,f_,f_,f_,f_,f_] rfl rfl (take_ofW HT_.out HW_.out (by kernel_rfl)) (fun _ _ _ h => h) (Or.inl ⟨by rfl, ?_⟩) hHeld ?_ ?_
 rotate_left
 · intro w' s
   obtain ⟨⟨l0, l1, l2, l3, l4, l5⟩, -⟩ := Bx6 (Env.below E0.out s).1.1
   go_simp
   with_reducible rfl
 rotate_left
 · simp only [Act.put, La_, Lb_, Lc_, i64_w, i32_w]
   rfl
 refine pure_ (i := 42) (N := some 134) (v := ?_) (a' := ?_) #[t_,t_,t_,t_,t_,t_,t_,t_,t_,t_,t_,t_,t_,t_,t_,t_,t_,t_,t_,t_,t_,t_,t_,t_,t_,t_,t_,t_,t_,t_,t_,t_,t_,t_,t_,t_,t_,t_,t_,t_,t_,t_,t_,f_,f_,f_,f_,f_,f_] rfl rfl (any_of HT_.out (by kernel_rfl)) (fun _ _ _ h => h) (Or.inl ⟨by rfl, ?_⟩) ?_ ?_
 rotate_left
 · intro w'
   go_simp
   with_reducible rfl
 rotate_left
 · simp only [Act.put, La_, Lb_, Lc_, i64_w, i32_w]
   rfl
 refine pure_ (i := 43) (N := some 135) (v := ?_) (a' := ?_) #[t_,t_,t_,t_,t_,t_,t_,t_,t_,t_,t_,t_,t_,t_,t_,t_,t_,t_,t_,t_,t_,t_,t_,t_,t_,t_,t_,t_,t_,t_,t_,t_,t_,t_,t_,t_,t_,t_,t_,t_,t_,t_,t_,t_,f_,f_,f_,f_,f_] rfl rfl (any_of HT_.out (by kernel_rfl)) (fun _ _ _ h => h) (Or.inl ⟨by rfl, ?_⟩) ?_ ?_
 rotate_left
 · intro w'
   go_simp
   with_reducible rfl
 rotate_left
 · simp only [Act.put, La_, Lb_, Lc_, i64_w, i32_w]
   rfl
 refine pure_ (i := 44) (N := some 136) (v := ?_) (a' := ?_) #[t_,t_,t_,t_,t_,t_,t_,t_,t_,t_,t_,t_,t_,t_,t_,t_,t_,t_,t_,t_,t_,t_,t_,t_,t_,t_,t_,t_,t_,t_,t_,t_,t_,t_,t_,t_,t_,t_,t_,t_,t_,t_,t_,t_,t_,f_,f_,f_,f_] rfl rfl (any_of HT_.out (by kernel_rfl)) (fun _ _ _ h => h) (Or.inl ⟨by rfl, ?_⟩) ?_ ?_
 rotate_left
 · intro w'
   go_simp
   with_reducible rfl
 rotate_left
 · simp only [Act.put, La_, Lb_, Lc_, i64_w, i32_w]
   rfl
 refine pure_ (i := 45) (N := some 137) (v := ?_) (a' := ?_) #[t_,t_,t_,t_,t_,t_,t_,t_,t_,t_,t_,t_,t_,t_,t_,t_,t_,t_,t_,t_,t_,t_,t_,t_,t_,t_,t_,t_,t_,t_,t_,t_,t_,t_,t_,t_,t_,t_,t_,t_,t_,t_,t_,t_,t_,t_,f_,f_,f_] rfl rfl (any_of HT_.out (by kernel_rfl)) (fun _ _ _ h => h) (Or.inl ⟨by rfl, ?_⟩) ?_ ?_
 rotate_left
 · intro w'
   go_simp
   with_reducible rfl
 rotate_left
 · simp only [Act.put, La_, Lb_, Lc_, i64_w, i32_w]
   rfl
 refine pure_ (i := 46) (N := some 138) (v := ?_) (a' := ?_) #[t_,t_,t_,t_,t_,t_,t_,t_,t_,t_,t_,t_,t_,t_,t_,t_,t_,t_,t_,t_,t_,t_,t_,t_,t_,t_,t_,t_,t_,t_,t_,t_,t_,t_,t_,t_,t_,t_,t_,t_,t_,t_,t_,t_,t_,t_,t_,f_,f_] rfl rfl (any_of HT_.out (by kernel_rfl)) (fun _ _ _ h => h) (Or.inl ⟨by rfl, ?_⟩) ?_ ?_
 rotate_left
 · intro w'
   go_simp
   with_reducible rfl
 rotate_left
 · simp only [Act.put, La_, Lb_, Lc_, i64_w, i32_w]
   rfl
 refine pure_ (i := 47) (N := some 139) (v := ?_) (a' := ?_) #[t_,t_,t_,t_,t_,t_,t_,t_,t_,t_,t_,t_,t_,t_,t_,t_,t_,t_,t_,t_,t_,t_,t_,t_,t_,t_,t_,t_,t_,t_,t_,t_,t_,t_,t_,t_,t_,t_,t_,t_,t_,t_,t_,t_,t_,t_,t_,t_,f_] rfl rfl (any_of HT_.out (by kernel_rfl)) (fun _ _ _ h => h) (Or.inl ⟨by rfl, ?_⟩) ?_ ?_
 rotate_left
 · intro w'
   go_simp
   with_reducible rfl
 rotate_left
 · simp only [Act.put, La_, Lb_, Lc_, i64_w, i32_w]
   rfl
 refine pure_ (i := 48) (N := some 140) (v := ?_) (a' := ?_) #[t_,t_,t_,t_,t_,t_,t_,t_,t_,t_,t_,t_,t_,t_,t_,t_,t_,t_,t_,t_,t_,t_,t_,t_,t_,t_,t_,t_,t_,t_,t_,t_,t_,t_,t_,t_,t_,t_,t_,t_,t_,t_,t_,t_,t_,t_,t_,t_,t_] rfl rfl (any_of HT_.out (by kernel_rfl)) (fun _ _ _ h => h) (Or.inl ⟨by rfl, ?_⟩) ?_ ?_
 rotate_left
 · intro w'
   go_simp
   with_reducible rfl
 rotate_left
 · simp only [Act.put, La_, Lb_, Lc_, i64_w, i32_w]
   rfl
 refine done_ (done_of HT_.out (by kernel_rfl)) ?_
 clear HT_ HW_ hHeld E0
 obtain ⟨⟨l4_0, l4_1⟩, m4_0, m4_1⟩ := Bx2 E.out.2.2.2.2.2.2.2.2.2.2.2.2.2.2.2.2.2.2.2.2.1.1
 go_upto_region 13 with (first | ((with_reducible refine gate_callee (f := 20) rfl ?_); refine goesL_ (some 145) rfl rfl Try.func20 (by kernel_rfl) rfl #[.agg #[.slice A0 ds.length c0, .slice A1 fs.length c1], .int .i64 p, .int .i64 d] rfl (by (try simp only [List.map_toArray, List.map_cons, List.map_nil]); first | done | rfl) ?_; (refine (handle_Get.calls A0 c0 ds A1 c1 fs p d z v0 v1 v2 v3 v4 v5 zb _ E.out.2.2.2.2.2.2.2.2.2.2.2.2.2.2.2.2.2.2.2.2.2.1.1.1.2 E.out.2.2.2.2.2.2.2.2.2.2.2.2.2.2.2.2.2.2.2.2.2.1.1.1.1 E.out.2.2.2.2.2.2.2.2.2.2.2.2.2.2.2.2.2.2.2.2.2.1.1.2.2 E.out.2.2.2.2.2.2.2.2.2.2.2.2.2.2.2.2.2.2.2.2.2.1.1.2.1 hG_.out).mono ?_); rintro en w_ ⟨rfl, hb⟩; refine ⟨_, rfl, ?_⟩; have n0_ := Am_ (Env.below (Pe_ E.out) hb); have n1_ := Am_ (Be_ (Pb0_ HB.out) hb); clear E HB; have E := n0_; have HB := n1_; clear n0_ n1_ hb) | ((with_reducible refine gate_dst (N := 29) rfl ?_); refine box_event ?hg (N := 29) ?hd (cs := #[.int .i64 0, .int .i64 0, .bool false, .bool false, .int .i64 0, .int .i64 0]) (t := 38) ?hr ?_; (case hd => rfl); (case hg => rfl); (case hr => go_simp; try rfl); intro g29 hg w_ hbox hb; have GE29 := Am_ (Nat.le_of_eq hg.symm); have HX29 := Am_ hbox; have HA := Am_ hb; obtain ⟨⟨z29_0, z29_1, z29_2, z29_3, z29_4, z29_5⟩, q29_0, q29_1, q29_2, q29_3, q29_4, q29_5⟩ := Bx6 HX29.out; clear hb hbox hg))
 refine to_env (w0 := w) (Env.cons (Bx.st g29 #[.int .i64 v0, .int .i64 v1, .bool v2, .bool v3, .int .i64 v4, .int .i64 v5] 38) (blk_put (blk_put (blk_put (blk_put (blk_put (blk_put HX29.out 0 (.int .i64 v0) rfl) 1 (.int .i64 v1) rfl) 2 (.bool v2) rfl) 3 (.bool v3) rfl) 4 (.int .i64 v4) rfl) 5 (.int .i64 v5) rfl) (Env.below (Pe_ E.out) (below_set (g := g29) (below_set (g := g29) (below_set (g := g29) (below_set (g := g29) (below_set (g := g29) (below_set (g := g29) HA.out GE29.out (j := 0) (v := .int .i64 v0)) GE29.out (j := 1) (v := .int .i64 v1)) GE29.out (j := 2) (v := .bool v2)) GE29.out (j := 3) (v := .bool v3)) GE29.out (j := 4) (v := .int .i64 v4)) GE29.out (j := 5) (v := .int .i64 v5)))) (Be_ (Pb0_ HB.out) (below_set (g := g29) (below_set (g := g29) (below_set (g := g29) (below_set (g := g29) (below_set (g := g29) (below_set (g := g29) HA.out GE29.out (j := 0) (v := .int .i64 v0)) GE29.out (j := 1) (v := .int .i64 v1)) GE29.out (j := 2) (v := .bool v2)) GE29.out (j := 3) (v := .bool v3)) GE29.out (j := 4) (v := .int .i64 v4)) GE29.out (j := 5) (v := .int .i64 v5))) (fun w13 nE nB => ?_)
 clear E HB HA HX29 GE29
 have E := nE
 have HB := nB
 clear nE nB
 (try clear l4_0 l4_1 m4_0 m4_1)
 (try clear z29_0 z29_1 z29_2 z29_3 z29_4 z29_5 q29_0 q29_1 q29_2 q29_3 q29_4 q29_5)
 obtain ⟨⟨l9_0, l9_1⟩, m9_0, m9_1⟩ := Bx2 E.out.2.2.2.2.2.2.2.2.2.2.2.2.2.2.2.2.2.2.1.1
 go_upto_region 14 with (first | ((with_reducible refine gate_callee (f := 28) rfl ?_); refine goesL_ (some 153) rfl rfl Try.func28 (by kernel_rfl) rfl #[.agg #[.slice Au es.length cu, .slice Bu fs.length bu], .int .i64 p, .int .i64 d] rfl (by (try simp only [List.map_toArray, List.map_cons, List.map_nil]); first | done | rfl) ?_; (refine (flagstoneref10_Get.calls _ _ es _ _ fs p d z v0 v1 v2 v3 v4 v5 zb _ E.out.2.2.2.2.2.2.2.2.2.2.2.2.2.2.2.2.2.2.2.1.1.1.2 E.out.2.2.2.2.2.2.2.2.2.2.2.2.2.2.2.2.2.2.2.1.1.1.1 E.out.2.2.2.2.2.2.2.2.2.2.2.2.2.2.2.2.2.2.2.1.1.2.2 E.out.2.2.2.2.2.2.2.2.2.2.2.2.2.2.2.2.2.2.2.1.1.2.1 hGr_.out).mono ?_); rintro en w_ ⟨rfl, hb⟩; refine ⟨_, rfl, ?_⟩; have n0_ := Am_ (Env.below (Pe_ E.out) hb); have n1_ := Am_ (Be_ (Pb0_ HB.out) hb); clear E HB; have E := n0_; have HB := n1_; clear n0_ n1_ hb) | ((with_reducible refine gate_dst (N := 32) rfl ?_); refine box_event ?hg (N := 32) ?hd (cs := #[.int .i64 0, .int .i64 0, .bool false, .bool false, .int .i64 0, .int .i64 0]) (t := 54) ?hr ?_; (case hd => rfl); (case hg => rfl); (case hr => go_simp; try rfl); intro g32 hg w_ hbox hb; have GE32 := Am_ (Nat.le_of_eq hg.symm); have HX32 := Am_ hbox; have HA := Am_ hb; obtain ⟨⟨z32_0, z32_1, z32_2, z32_3, z32_4, z32_5⟩, q32_0, q32_1, q32_2, q32_3, q32_4, q32_5⟩ := Bx6 HX32.out; clear hb hbox hg))
 refine to_env (w0 := w) (Env.cons (Bx.st g32 #[.int .i64 v0, .int .i64 v1, .bool v2, .bool v3, .int .i64 v4, .int .i64 v5] 54) (blk_put (blk_put (blk_put (blk_put (blk_put (blk_put HX32.out 0 (.int .i64 v0) rfl) 1 (.int .i64 v1) rfl) 2 (.bool v2) rfl) 3 (.bool v3) rfl) 4 (.int .i64 v4) rfl) 5 (.int .i64 v5) rfl) (Env.below (Pe_ E.out) (below_set (g := g32) (below_set (g := g32) (below_set (g := g32) (below_set (g := g32) (below_set (g := g32) (below_set (g := g32) HA.out GE32.out (j := 0) (v := .int .i64 v0)) GE32.out (j := 1) (v := .int .i64 v1)) GE32.out (j := 2) (v := .bool v2)) GE32.out (j := 3) (v := .bool v3)) GE32.out (j := 4) (v := .int .i64 v4)) GE32.out (j := 5) (v := .int .i64 v5)))) (Be_ (Pb0_ HB.out) (below_set (g := g32) (below_set (g := g32) (below_set (g := g32) (below_set (g := g32) (below_set (g := g32) (below_set (g := g32) HA.out GE32.out (j := 0) (v := .int .i64 v0)) GE32.out (j := 1) (v := .int .i64 v1)) GE32.out (j := 2) (v := .bool v2)) GE32.out (j := 3) (v := .bool v3)) GE32.out (j := 4) (v := .int .i64 v4)) GE32.out (j := 5) (v := .int .i64 v5))) (fun w14 nE nB => ?_)
 clear E HB HA HX32 GE32
 have E := nE
 have HB := nB
 clear nE nB
 (try clear l9_0 l9_1 m9_0 m9_1)
 (try clear z32_0 z32_1 z32_2 z32_3 z32_4 z32_5 q32_0 q32_1 q32_2 q32_3 q32_4 q32_5)
 have E0 := E
 have HS := Am_ (rfl : w14 = w14)
 clear HS
 refine start_ (n := 41) (S := fun w' => Below w14.heap.size w14 w') (ds := []) #[f_,f_,f_,f_,f_,f_,f_,f_,f_,f_,f_,f_,f_,f_,f_,f_,f_,f_,f_,f_,f_,f_,f_,f_,f_,f_,f_,f_,f_,f_,f_,f_,f_,f_,f_,f_,f_,f_,f_,f_,f_] (by kernel_rfl) rfl rfl (below_drew1 (Below.refl _ _)) (fun hHeld => ?_)
 refine with_tabW acts.tab14 acts.bits14 (fun HT_ HW_ => ?_)
 have n0_ := Am_ (Env.below E.out hHeld)
 have n1_ := Am_ (Be_ HB.out hHeld)
 clear E HB
 have E := n0_
 have HB := n1_
 clear n0_ n1_
 generalize w14.drew = w_ at E HB hHeld ⊢
 refine pure_ (i := 0) (N := some 157) (v := ?_) (a' := ?_) #[t_,f_,f_,f_,f_,f_,f_,f_,f_,f_,f_,f_,f_,f_,f_,f_,f_,f_,f_,f_,f_,f_,f_,f_,f_,f_,f_,f_,f_,f_,f_,f_,f_,f_,f_,f_,f_,f_,f_,f_,f_] rfl rfl (any_of HT_.out (by kernel_rfl)) (fun _ _ _ h => h) (Or.inl ⟨by rfl, ?_⟩) ?_ ?_
 rotate_left
 · intro w'
   go_simp
   with_reducible rfl
 rotate_left
 · simp only [Act.put, La_, Lb_, Lc_, i64_w, i32_w]
   rfl
 refine pure_ (i := 1) (N := some 158) (v := ?_) (a' := ?_) #[t_,t_,f_,f_,f_,f_,f_,f_,f_,f_,f_,f_,f_,f_,f_,f_,f_,f_,f_,f_,f_,f_,f_,f_,f_,f_,f_,f_,f_,f_,f_,f_,f_,f_,f_,f_,f_,f_,f_,f_,f_] rfl rfl (any_of HT_.out (by kernel_rfl)) (fun _ _ _ h => h) (Or.inl ⟨by rfl, ?_⟩) ?_ ?_
 rotate_left
 · intro w'
   go_simp
   with_reducible rfl
 rotate_left
 · simp only [Act.put, La_, Lb_, Lc_, i64_w, i32_w]
   rfl
 refine pure_ (i := 2) (N := some 159) (v := ?_) (a' := ?_) #[t_,t_,t_,f_,f_,f_,f_,f_,f_,f_,f_,f_,f_,f_,f_,f_,f_,f_,f_,f_,f_,f_,f_,f_,f_,f_,f_,f_,f_,f_,f_,f_,f_,f_,f_,f_,f_,f_,f_,f_,f_] rfl rfl (any_of HT_.out (by kernel_rfl)) (fun _ _ _ h => h) (Or.inl ⟨by rfl, ?_⟩) ?_ ?_
 rotate_left
 · intro w'
   go_simp
   with_reducible rfl
 rotate_left
 · simp only [Act.put, La_, Lb_, Lc_, i64_w, i32_w]
   rfl
 refine pure_ (i := 3) (N := some 160) (v := ?_) (a' := ?_) #[t_,t_,t_,t_,f_,f_,f_,f_,f_,f_,f_,f_,f_,f_,f_,f_,f_,f_,f_,f_,f_,f_,f_,f_,f_,f_,f_,f_,f_,f_,f_,f_,f_,f_,f_,f_,f_,f_,f_,f_,f_] rfl rfl (any_of HT_.out (by kernel_rfl)) (fun _ _ _ h => h) (Or.inl ⟨by rfl, ?_⟩) ?_ ?_
 rotate_left
 · intro w'
   go_simp
   with_reducible rfl
 rotate_left
 · simp only [Act.put, La_, Lb_, Lc_, i64_w, i32_w]
   rfl
 refine take_ (i := 4) (N := some 161) (v := ?_) (a' := ?_) #[t_,t_,t_,t_,t_,f_,f_,f_,f_,f_,f_,f_,f_,f_,f_,f_,f_,f_,f_,f_,f_,f_,f_,f_,f_,f_,f_,f_,f_,f_,f_,f_,f_,f_,f_,f_,f_,f_,f_,f_,f_] rfl rfl (take_ofW HT_.out HW_.out (by kernel_rfl)) (fun _ _ _ h => h) (Or.inl ⟨by rfl, ?_⟩) hHeld ?_ ?_
 rotate_left
 · intro w' s
   obtain ⟨⟨l0, l1, l2, l3, l4, l5⟩, -⟩ := Bx6 (Env.below E0.out s).2.1.1
   go_simp
   with_reducible rfl
 rotate_left
 · simp only [Act.put, La_, Lb_, Lc_, i64_w, i32_w]
   rfl
 refine take_ (i := 5) (N := some 162) (v := ?_) (a' := ?_) #[t_,t_,t_,t_,t_,t_,f_,f_,f_,f_,f_,f_,f_,f_,f_,f_,f_,f_,f_,f_,f_,f_,f_,f_,f_,f_,f_,f_,f_,f_,f_,f_,f_,f_,f_,f_,f_,f_,f_,f_,f_] rfl rfl (take_ofW HT_.out HW_.out (by kernel_rfl)) (fun _ _ _ h => h) (Or.inl ⟨by rfl, ?_⟩) hHeld ?_ ?_
 rotate_left
 · intro w' s
   obtain ⟨⟨l0, l1, l2, l3, l4, l5⟩, -⟩ := Bx6 (Env.below E0.out s).1.1
   go_simp
   with_reducible rfl
 rotate_left
 · simp only [Act.put, La_, Lb_, Lc_, i64_w, i32_w]
   rfl
 refine pure_ (i := 6) (N := some 163) (v := ?_) (a' := ?_) #[t_,t_,t_,t_,t_,t_,t_,f_,f_,f_,f_,f_,f_,f_,f_,f_,f_,f_,f_,f_,f_,f_,f_,f_,f_,f_,f_,f_,f_,f_,f_,f_,f_,f_,f_,f_,f_,f_,f_,f_,f_] rfl rfl (any_of HT_.out (by kernel_rfl)) (fun _ _ _ h => h) (Or.inl ⟨by rfl, ?_⟩) ?_ ?_
 rotate_left
 · intro w'
   go_simp
   with_reducible rfl
 rotate_left
 · simp only [Act.put, La_, Lb_, Lc_, i64_w, i32_w]
   rfl
 refine pure_ (i := 7) (N := some 164) (v := ?_) (a' := ?_) #[t_,t_,t_,t_,t_,t_,t_,t_,f_,f_,f_,f_,f_,f_,f_,f_,f_,f_,f_,f_,f_,f_,f_,f_,f_,f_,f_,f_,f_,f_,f_,f_,f_,f_,f_,f_,f_,f_,f_,f_,f_] rfl rfl (any_of HT_.out (by kernel_rfl)) (fun _ _ _ h => h) (Or.inl ⟨by rfl, ?_⟩) ?_ ?_
 rotate_left
 · intro w'
   go_simp
   with_reducible rfl
 rotate_left
 · simp only [Act.put, La_, Lb_, Lc_, i64_w, i32_w]
   rfl
 refine pure_ (i := 8) (N := some 165) (v := ?_) (a' := ?_) #[t_,t_,t_,t_,t_,t_,t_,t_,t_,f_,f_,f_,f_,f_,f_,f_,f_,f_,f_,f_,f_,f_,f_,f_,f_,f_,f_,f_,f_,f_,f_,f_,f_,f_,f_,f_,f_,f_,f_,f_,f_] rfl rfl (any_of HT_.out (by kernel_rfl)) (fun _ _ _ h => h) (Or.inl ⟨by rfl, ?_⟩) ?_ ?_
 rotate_left
 · intro w'
   go_simp
   with_reducible rfl
 rotate_left
 · simp only [Act.put, La_, Lb_, Lc_, i64_w, i32_w]
   rfl
 refine pure_ (i := 9) (N := some 166) (v := ?_) (a' := ?_) #[t_,t_,t_,t_,t_,t_,t_,t_,t_,t_,f_,f_,f_,f_,f_,f_,f_,f_,f_,f_,f_,f_,f_,f_,f_,f_,f_,f_,f_,f_,f_,f_,f_,f_,f_,f_,f_,f_,f_,f_,f_] rfl rfl (any_of HT_.out (by kernel_rfl)) (fun _ _ _ h => h) (Or.inl ⟨by rfl, ?_⟩) ?_ ?_
 rotate_left
 · intro w'
   go_simp
   with_reducible rfl
 rotate_left
 · simp only [Act.put, La_, Lb_, Lc_, i64_w, i32_w]
   rfl
 refine pure_ (i := 10) (N := some 167) (v := ?_) (a' := ?_) #[t_,t_,t_,t_,t_,t_,t_,t_,t_,t_,t_,f_,f_,f_,f_,f_,f_,f_,f_,f_,f_,f_,f_,f_,f_,f_,f_,f_,f_,f_,f_,f_,f_,f_,f_,f_,f_,f_,f_,f_,f_] rfl rfl (any_of HT_.out (by kernel_rfl)) (fun _ _ _ h => h) (Or.inl ⟨by rfl, ?_⟩) ?_ ?_
 rotate_left
 · intro w'
   go_simp
   with_reducible rfl
 rotate_left
 · simp only [Act.put, La_, Lb_, Lc_, i64_w, i32_w]
   rfl
 refine pure_ (i := 11) (N := some 168) (v := ?_) (a' := ?_) #[t_,t_,t_,t_,t_,t_,t_,t_,t_,t_,t_,t_,f_,f_,f_,f_,f_,f_,f_,f_,f_,f_,f_,f_,f_,f_,f_,f_,f_,f_,f_,f_,f_,f_,f_,f_,f_,f_,f_,f_,f_] rfl rfl (any_of HT_.out (by kernel_rfl)) (fun _ _ _ h => h) (Or.inl ⟨by rfl, ?_⟩) ?_ ?_
 rotate_left
 · intro w'
   go_simp
   with_reducible rfl
 rotate_left
 · simp only [Act.put, La_, Lb_, Lc_, i64_w, i32_w]
   rfl
 refine pure_ (i := 12) (N := some 169) (v := ?_) (a' := ?_) #[t_,t_,t_,t_,t_,t_,t_,t_,t_,t_,t_,t_,t_,f_,f_,f_,f_,f_,f_,f_,f_,f_,f_,f_,f_,f_,f_,f_,f_,f_,f_,f_,f_,f_,f_,f_,f_,f_,f_,f_,f_] rfl rfl (any_of HT_.out (by kernel_rfl)) (fun _ _ _ h => h) (Or.inl ⟨by rfl, ?_⟩) ?_ ?_
 rotate_left
 · intro w'
   go_simp
   with_reducible rfl
 rotate_left
 · simp only [Act.put, La_, Lb_, Lc_, i64_w, i32_w]
   rfl
 refine pure_ (i := 13) (N := some 170) (v := ?_) (a' := ?_) #[t_,t_,t_,t_,t_,t_,t_,t_,t_,t_,t_,t_,t_,t_,f_,f_,f_,f_,f_,f_,f_,f_,f_,f_,f_,f_,f_,f_,f_,f_,f_,f_,f_,f_,f_,f_,f_,f_,f_,f_,f_] rfl rfl (any_of HT_.out (by kernel_rfl)) (fun _ _ _ h => h) (Or.inl ⟨by rfl, ?_⟩) ?_ ?_
 rotate_left
 · intro w'
   go_simp
   with_reducible rfl
 rotate_left
 · simp only [Act.put, La_, Lb_, Lc_, i64_w, i32_w]
   rfl
 refine pure_ (i := 15) (N := some 172) (v := ?_) (a' := ?_) #[t_,t_,t_,t_,t_,t_,t_,t_,t_,t_,t_,t_,t_,t_,f_,t_,f_,f_,f_,f_,f_,f_,f_,f_,f_,f_,f_,f_,f_,f_,f_,f_,f_,f_,f_,f_,f_,f_,f_,f_,f_] rfl rfl (any_of HT_.out (by kernel_rfl)) (fun _ _ _ h => h) (Or.inl ⟨by rfl, ?_⟩) ?_ ?_
 rotate_left
 · intro w'
   go_simp
   with_reducible rfl
 rotate_left
 · simp only [Act.put, La_, Lb_, Lc_, i64_w, i32_w]
   rfl
 refine pure_ (i := 18) (N := some 175) (v := ?_) (a' := ?_) #[t_,t_,t_,t_,t_,t_,t_,t_,t_,t_,t_,t_,t_,t_,f_,t_,f_,f_,t_,f_,f_,f_,f_,f_,f_,f_,f_,f_,f_,f_,f_,f_,f_,f_,f_,f_,f_,f_,f_,f_,f_] rfl rfl (any_of HT_.out (by kernel_rfl)) (fun _ _ _ h => h) (Or.inl ⟨by rfl, ?_⟩) ?_ ?_
 rotate_left
 · intro w'
   go_simp
   with_reducible rfl
 rotate_left
 · simp only [Act.put, La_, Lb_, Lc_, i64_w, i32_w]
   rfl
 refine take_ (i := 14) (N := some 171) (v := ?_) (a' := ?_) #[t_,t_,t_,t_,t_,t_,t_,t_,t_,t_,t_,t_,t_,t_,t_,t_,f_,f_,t_,f_,f_,f_,f_,f_,f_,f_,f_,f_,f_,f_,f_,f_,f_,f_,f_,f_,f_,f_,f_,f_,f_] rfl rfl (take_ofW HT_.out HW_.out (by kernel_rfl)) (fun _ _ _ h => h) (Or.inl ⟨by rfl, ?_⟩) hHeld ?_ ?_
 rotate_left
 · intro w' s
   obtain ⟨⟨l0, l1⟩, -⟩ := Bx2 (Env.below E0.out s).2.2.2.2.2.2.2.2.2.2.2.2.2.2.2.2.2.2.2.2.2.2.1.1
   go_simp
   with_reducible rfl
 rotate_left
 · simp only [Act.put, La_, Lb_, Lc_, i64_w, i32_w]
   rfl
 refine take_ (i := 17) (N := some 174) (v := ?_) (a' := ?_) #[t_,t_,t_,t_,t_,t_,t_,t_,t_,t_,t_,t_,t_,t_,t_,t_,f_,t_,t_,f_,f_,f_,f_,f_,f_,f_,f_,f_,f_,f_,f_,f_,f_,f_,f_,f_,f_,f_,f_,f_,f_] rfl rfl (take_ofW HT_.out HW_.out (by kernel_rfl)) (fun _ _ _ h => h) (Or.inl ⟨by rfl, ?_⟩) hHeld ?_ ?_
 rotate_left
 · intro w' s
   obtain ⟨⟨l0, l1⟩, -⟩ := Bx2 (Env.below E0.out s).2.2.2.2.2.2.2.2.2.2.2.2.2.2.2.2.2.2.2.1.1
   go_simp
   with_reducible rfl
 rotate_left
 · simp only [Act.put, La_, Lb_, Lc_, i64_w, i32_w]
   rfl
 refine one_ (i := 16) (N := some 173) #[t_,t_,t_,t_,t_,t_,t_,t_,t_,t_,t_,t_,t_,t_,t_,t_,t_,t_,t_,f_,f_,f_,f_,f_,f_,f_,f_,f_,f_,f_,f_,f_,f_,f_,f_,f_,f_,f_,f_,f_,f_] rfl rfl (one_of HT_.out (by kernel_rfl)) (by decide) (fun K hK => ?_)
 refine goes_ Try.func22 (by kernel_rfl) rfl #[.agg #[.slice A0 ds.length c0, .slice A1 fs.length c1], .int .i64 p] (by rfl) rfl rfl (by (try simp only [List.map_toArray, List.map_cons, List.map_nil]); first | done | rfl) ?_
 refine (handle_Count.calls k _ _ ds _ _ fs p n _ E.out.2.2.2.2.2.2.2.2.2.2.2.2.2.2.2.2.2.2.2.2.2.2.2.1.1.1.2 E.out.2.2.2.2.2.2.2.2.2.2.2.2.2.2.2.2.2.2.2.2.2.2.2.1.1.1.1 E.out.2.2.2.2.2.2.2.2.2.2.2.2.2.2.2.2.2.2.2.2.2.2.2.1.1.2.2 E.out.2.2.2.2.2.2.2.2.2.2.2.2.2.2.2.2.2.2.2.2.2.2.2.1.1.2.1 hN_.out).mono ?_
 rintro en w2_ ⟨rfl, hb⟩
 refine ⟨_, rfl, ?_⟩
 have n2_ := Be_ hHeld hb
 have n0_ := Am_ (Env.below (Pe_ E.out) hb)
 have n1_ := Am_ (Be_ (Pb0_ HB.out) hb)
 clear E HB
 have E := n0_
 have HB := n1_
 clear n0_ n1_ hb
 refine hK.out _ _ n2_ (fun _ => ?_)
 clear hK K hHeld
 have hHeld := n2_
 clear n2_
 refine norm_ (a' := ?_) ?_ ?_
 rotate_left
 · show Act.put _ (some 173) _ = _
   simp only [Act.put, La_, Lb_, Lc_, i64_w, i32_w]
   rfl
 refine one_ (i := 19) (N := some 176) #[t_,t_,t_,t_,t_,t_,t_,t_,t_,t_,t_,t_,t_,t_,t_,t_,t_,t_,t_,t_,f_,f_,f_,f_,f_,f_,f_,f_,f_,f_,f_,f_,f_,f_,f_,f_,f_,f_,f_,f_,f_] rfl rfl (one_of HT_.out (by kernel_rfl)) (by decide) (fun K hK => ?_)
 refine goes_ Try.func29 (by kernel_rfl) rfl #[.agg #[.slice Au es.length cu, .slice Bu fs.length bu], .int .i64 p] (by rfl) rfl rfl (by (try simp only [List.map_toArray, List.map_cons, List.map_nil]); first | done | rfl) ?_
 refine (flagstoneref10_Count.calls k _ _ es _ _ fs p n _ E.out.2.2.2.2.2.2.2.2.2.2.2.2.2.2.2.2.2.2.2.2.1.1.1.2 E.out.2.2.2.2.2.2.2.2.2.2.2.2.2.2.2.2.2.2.2.2.1.1.1.1 E.out.2.2.2.2.2.2.2.2.2.2.2.2.2.2.2.2.2.2.2.2.1.1.2.2 E.out.2.2.2.2.2.2.2.2.2.2.2.2.2.2.2.2.2.2.2.2.1.1.2.1 hNr_.out).mono ?_
 rintro en w2_ ⟨rfl, hb⟩
 refine ⟨_, rfl, ?_⟩
 have n2_ := Be_ hHeld hb
 have n0_ := Am_ (Env.below (Pe_ E.out) hb)
 have n1_ := Am_ (Be_ (Pb0_ HB.out) hb)
 clear E HB
 have E := n0_
 have HB := n1_
 clear n0_ n1_ hb
 refine hK.out _ _ n2_ (fun _ => ?_)
 clear hK K hHeld
 have hHeld := n2_
 clear n2_
 refine norm_ (a' := ?_) ?_ ?_
 rotate_left
 · show Act.put _ (some 176) _ = _
   simp only [Act.put, La_, Lb_, Lc_, i64_w, i32_w]
   rfl
 refine pure_ (i := 20) (N := some 177) (v := ?_) (a' := ?_) #[t_,t_,t_,t_,t_,t_,t_,t_,t_,t_,t_,t_,t_,t_,t_,t_,t_,t_,t_,t_,t_,f_,f_,f_,f_,f_,f_,f_,f_,f_,f_,f_,f_,f_,f_,f_,f_,f_,f_,f_,f_] rfl rfl (any_of HT_.out (by kernel_rfl)) (fun _ _ _ h => h) (Or.inl ⟨by rfl, ?_⟩) ?_ ?_
 rotate_left
 · intro w'
   go_simp
   with_reducible rfl
 rotate_left
 · simp only [Act.put, La_, Lb_, Lc_, i64_w, i32_w]
   rfl
 refine pure_ (i := 21) (N := some 178) (v := ?_) (a' := ?_) #[t_,t_,t_,t_,t_,t_,t_,t_,t_,t_,t_,t_,t_,t_,t_,t_,t_,t_,t_,t_,t_,t_,f_,f_,f_,f_,f_,f_,f_,f_,f_,f_,f_,f_,f_,f_,f_,f_,f_,f_,f_] rfl rfl (any_of HT_.out (by kernel_rfl)) (fun _ _ _ h => h) (Or.inl ⟨by rfl, ?_⟩) ?_ ?_
 rotate_left
 · intro w'
   go_simp
   with_reducible rfl
 rotate_left
 · simp only [Act.put, La_, Lb_, Lc_, i64_w, i32_w]
   rfl
 refine pure_ (i := 22) (N := some 179) (v := ?_) (a' := ?_) #[t_,t_,t_,t_,t_,t_,t_,t_,t_,t_,t_,t_,t_,t_,t_,t_,t_,t_,t_,t_,t_,t_,t_,f_,f_,f_,f_,f_,f_,f_,f_,f_,f_,f_,f_,f_,f_,f_,f_,f_,f_] rfl rfl (any_of HT_.out (by kernel_rfl)) (fun _ _ _ h => h) (Or.inl ⟨by rfl, ?_⟩) ?_ ?_
 rotate_left
 · intro w'
   go_simp
   with_reducible rfl
 rotate_left
 · simp only [Act.put, La_, Lb_, Lc_, i64_w, i32_w]
   rfl
 refine pure_ (i := 24) (N := some 181) (v := ?_) (a' := ?_) #[t_,t_,t_,t_,t_,t_,t_,t_,t_,t_,t_,t_,t_,t_,t_,t_,t_,t_,t_,t_,t_,t_,t_,f_,t_,f_,f_,f_,f_,f_,f_,f_,f_,f_,f_,f_,f_,f_,f_,f_,f_] rfl rfl (any_of HT_.out (by kernel_rfl)) (fun _ _ _ h => h) (Or.inl ⟨by rfl, ?_⟩) ?_ ?_
 rotate_left
 · intro w'
   go_simp
   with_reducible rfl
 rotate_left
 · simp only [Act.put, La_, Lb_, Lc_, i64_w, i32_w]
   rfl
 refine pure_ (i := 29) (N := some 186) (v := ?_) (a' := ?_) #[t_,t_,t_,t_,t_,t_,t_,t_,t_,t_,t_,t_,t_,t_,t_,t_,t_,t_,t_,t_,t_,t_,t_,f_,t_,f_,f_,f_,f_,t_,f_,f_,f_,f_,f_,f_,f_,f_,f_,f_,f_] rfl rfl (any_of HT_.out (by kernel_rfl)) (fun _ _ _ h => h) (Or.inl ⟨by rfl, ?_⟩) ?_ ?_
 rotate_left
 · intro w'
   go_simp
   with_reducible rfl
 rotate_left
 · simp only [Act.put, La_, Lb_, Lc_, i64_w, i32_w]
   rfl
 refine take_ (i := 23) (N := some 180) (v := ?_) (a' := ?_) #[t_,t_,t_,t_,t_,t_,t_,t_,t_,t_,t_,t_,t_,t_,t_,t_,t_,t_,t_,t_,t_,t_,t_,t_,t_,f_,f_,f_,f_,t_,f_,f_,f_,f_,f_,f_,f_,f_,f_,f_,f_] rfl rfl (take_ofW HT_.out HW_.out (by kernel_rfl)) (fun _ _ _ h => h) (Or.inl ⟨by rfl, ?_⟩) hHeld ?_ ?_
 rotate_left
 · intro w' s
   obtain ⟨⟨l0, l1⟩, -⟩ := Bx2 (Env.below E0.out s).2.2.2.2.2.2.2.2.2.2.2.2.2.2.2.2.2.2.2.2.2.2.1.1
   go_simp
   with_reducible rfl
 rotate_left
 · simp only [Act.put, La_, Lb_, Lc_, i64_w, i32_w]
   rfl
 refine take_ (i := 25) (N := some 182) (v := ?_) (a' := ?_) #[t_,t_,t_,t_,t_,t_,t_,t_,t_,t_,t_,t_,t_,t_,t_,t_,t_,t_,t_,t_,t_,t_,t_,t_,t_,t_,f_,f_,f_,t_,f_,f_,f_,f_,f_,f_,f_,f_,f_,f_,f_] rfl rfl (take_ofW HT_.out HW_.out (by kernel_rfl)) (fun _ _ _ h => h) (Or.inl ⟨by rfl, ?_⟩) hHeld ?_ ?_
 rotate_left
 · intro w' s
   obtain ⟨⟨l0, l1, l2, l3, l4, l5⟩, -⟩ := Bx6 (Env.below E0.out s).2.2.2.2.2.2.2.2.2.2.2.2.2.2.2.2.2.2.2.2.2.1.1
   go_simp
   with_reducible rfl
 rotate_left
 · simp only [Act.put, La_, Lb_, Lc_, i64_w, i32_w]
   rfl
 refine take_ (i := 28) (N := some 185) (v := ?_) (a' := ?_) #[t_,t_,t_,t_,t_,t_,t_,t_,t_,t_,t_,t_,t_,t_,t_,t_,t_,t_,t_,t_,t_,t_,t_,t_,t_,t_,f_,f_,t_,t_,f_,f_,f_,f_,f_,f_,f_,f_,f_,f_,f_] rfl rfl (take_ofW HT_.out HW_.out (by kernel_rfl)) (fun _ _ _ h => h) (Or.inl ⟨by rfl, ?_⟩) hHeld ?_ ?_
 rotate_left
 · intro w' s
   obtain ⟨⟨l0, l1⟩, -⟩ := Bx2 (Env.below E0.out s).2.2.2.2.2.2.2.2.2.2.2.2.2.2.2.2.2.2.2.1.1
   go_simp
   with_reducible rfl
 rotate_left
 · simp only [Act.put, La_, Lb_, Lc_, i64_w, i32_w]
   rfl
 refine take_ (i := 30) (N := some 187) (v := ?_) (a' := ?_) #[t_,t_,t_,t_,t_,t_,t_,t_,t_,t_,t_,t_,t_,t_,t_,t_,t_,t_,t_,t_,t_,t_,t_,t_,t_,t_,f_,f_,t_,t_,t_,f_,f_,f_,f_,f_,f_,f_,f_,f_,f_] rfl rfl (take_ofW HT_.out HW_.out (by kernel_rfl)) (fun _ _ _ h => h) (Or.inl ⟨by rfl, ?_⟩) hHeld ?_ ?_
 rotate_left
 · intro w' s
   obtain ⟨⟨l0, l1, l2, l3, l4, l5⟩, -⟩ := Bx6 (Env.below E0.out s).2.2.2.2.2.2.2.2.2.2.2.2.2.2.2.2.2.2.2.2.2.1.1
   go_simp
   with_reducible rfl
 rotate_left
 · simp only [Act.put, La_, Lb_, Lc_, i64_w, i32_w]
   rfl
 refine one_ (i := 26) (N := some 183) #[t_,t_,t_,t_,t_,t_,t_,t_,t_,t_,t_,t_,t_,t_,t_,t_,t_,t_,t_,t_,t_,t_,t_,t_,t_,t_,t_,f_,t_,t_,t_,f_,f_,f_,f_,f_,f_,f_,f_,f_,f_] rfl rfl (one_of HT_.out (by kernel_rfl)) (by decide) (fun K hK => ?_)
 refine goes_ Try.func30 (by kernel_rfl) rfl #[.agg #[.slice A0 ds.length c0, .slice A1 fs.length c1], .int .i64 d, .agg #[.int .i64 x0, .int .i64 x1, .bool x2, .bool x3, .int .i64 x4, .int .i64 x5]] (by rfl) rfl rfl (by (try simp only [List.map_toArray, List.map_cons, List.map_nil]); first | done | rfl) ?_
 refine (Set_T E.out.2.2.2.2.2.2.2.2.2.2.2.2.2.2.2.2.2.2.2.2.2.2.2.1.1 hS_.out).mono ?_
 rintro en w2_ ⟨As, cs, Bs, bs, rfl, hT, hb⟩
 refine ⟨_, rfl, ?_⟩
 have n2_ := Be_ hHeld hb
 have n0_ := Am_ (Env.cons (T38.st _ _ _ _ _ _) hT (Env.below (Pe_ E.out) hb))
 have n1_ := Am_ (Be_ (Pb0_ HB.out) hb)
 clear E HB
 have E := n0_
 have HB := n1_
 clear n0_ n1_ hb
 clear hT
 refine hK.out _ _ n2_ (fun _ => ?_)
 clear hK K hHeld
 have hHeld := n2_
 clear n2_
 refine norm_ (a' := ?_) ?_ ?_
 rotate_left
 · show Act.put _ (some 183) _ = _
   simp only [Act.put, La_, Lb_, Lc_, i64_w, i32_w]
   rfl
 refine one_ (i := 27) (N := some 184) #[t_,t_,t_,t_,t_,t_,t_,t_,t_,t_,t_,t_,t_,t_,t_,t_,t_,t_,t_,t_,t_,t_,t_,t_,t_,t_,t_,t_,t_,t_,t_,f_,f_,f_,f_,f_,f_,f_,f_,f_,f_] rfl rfl (one_of HT_.out (by kernel_rfl)) (by decide) (fun K hK => ?_)
 refine goes_ Try.func14 (by kernel_rfl) rfl #[.agg #[.slice As dS.length cs, .slice Bs fS.length bs]] (by rfl) rfl rfl (by (try simp only [List.map_toArray, List.map_cons, List.map_nil]); first | done | rfl) ?_
 refine (its_T E.out.1.1 tS_.out).mono ?_
 rintro en w2_ ⟨As2, cs2, Bs2, bs2, rfl, hT, hb⟩
 refine ⟨_, rfl, ?_⟩
 have n2_ := Be_ hHeld hb
 have n0_ := Am_ (Env.cons (T54.st _ _ _ _ _ _) hT (Env.below (Pe_ E.out) hb))
 have n1_ := Am_ (Be_ (Pb0_ HB.out) hb)
 clear E HB
 have E := n0_
 have HB := n1_
 clear n0_ n1_ hb
 clear hT
 refine hK.out _ _ n2_ (fun _ => ?_)
 clear hK K hHeld
 have hHeld := n2_
 clear n2_
 refine norm_ (a' := ?_) ?_ ?_
 rotate_left
 · show Act.put _ (some 184) _ = _
   simp only [Act.put, La_, Lb_, Lc_, i64_w, i32_w]
   rfl
 refine one_ (i := 31) (N := some 188) #[t_,t_,t_,t_,t_,t_,t_,t_,t_,t_,t_,t_,t_,t_,t_,t_,t_,t_,t_,t_,t_,t_,t_,t_,t_,t_,t_,t_,t_,t_,t_,t_,f_,f_,f_,f_,f_,f_,f_,f_,f_] rfl rfl (one_of HT_.out (by kernel_rfl)) (by decide) (fun K hK => ?_)
 refine goes_ Try.func31 (by kernel_rfl) rfl #[.agg #[.slice Au es.length cu, .slice Bu fs.length bu], .int .i64 d, .agg #[.int .i64 x0, .int .i64 x1, .bool x2, .bool x3, .int .i64 x4, .int .i64 x5]] (by rfl) rfl rfl (by (try simp only [List.map_toArray, List.map_cons, List.map_nil]); first | done | rfl) ?_
 refine (rSet_T E.out.2.2.2.2.2.2.2.2.2.2.2.2.2.2.2.2.2.2.2.2.2.2.1.1 hSr_.out).mono ?_
 rintro en w2_ ⟨Ar, cr, Br, br, rfl, hT, hb⟩
 refine ⟨_, rfl, ?_⟩
 have n2_ := Be_ hHeld hb
 have n0_ := Am_ (Env.cons (T54.st _ _ _ _ _ _) hT (Env.below (Pe_ E.out) hb))
 have n1_ := Am_ (Be_ (Pb0_ HB.out) hb)
 clear E HB
 have E := n0_
 have HB := n1_
 clear n0_ n1_ hb
 clear hT
 refine hK.out _ _ n2_ (fun _ => ?_)
 clear hK K hHeld
 have hHeld := n2_
 clear n2_
 refine norm_ (a' := ?_) ?_ ?_
 rotate_left
 · show Act.put _ (some 188) _ = _
   simp only [Act.put, La_, Lb_, Lc_, i64_w, i32_w]
   rfl
 refine one_ (i := 32) (N := some 189) #[t_,t_,t_,t_,t_,t_,t_,t_,t_,t_,t_,t_,t_,t_,t_,t_,t_,t_,t_,t_,t_,t_,t_,t_,t_,t_,t_,t_,t_,t_,t_,t_,t_,f_,f_,f_,f_,f_,f_,f_,f_] rfl rfl (one_of HT_.out (by kernel_rfl)) (by decide) (fun K hK => ?_)
 refine goes_ Try.func15 (by kernel_rfl) rfl #[.agg #[.slice As2 gS.length cs2, .slice Bs2 fS.length bs2], .agg #[.slice Ar gS.length cr, .slice Br fS.length br]] (by rfl) rfl rfl (by (try simp only [List.map_toArray, List.map_cons, List.map_nil]); first | done | rfl) ?_
 refine (flagstoneref10_Same.calls k _ _ gS _ _ fS _ _ gS _ _ fS true _ E.out.2.1.1.1.2 E.out.2.1.1.1.1 E.out.2.1.1.2.2 E.out.2.1.1.2.1 E.out.1.1.1.2 E.out.1.1.1.1 E.out.1.1.2.2 E.out.1.1.2.1 sS_.out).mono ?_
 rintro en w2_ ⟨rfl, hb⟩
 refine ⟨_, rfl, ?_⟩
 have n2_ := Be_ hHeld hb
 have n0_ := Am_ (Env.below (Pe_ E.out) hb)
 have n1_ := Am_ (Be_ (Pb0_ HB.out) hb)
 clear E HB
 have E := n0_
 have HB := n1_
 clear n0_ n1_ hb
 refine hK.out _ _ n2_ (fun _ => ?_)
 clear hK K hHeld
 have hHeld := n2_
 clear n2_
 refine norm_ (a' := ?_) ?_ ?_
 rotate_left
 · show Act.put _ (some 189) _ = _
   simp only [Act.put, La_, Lb_, Lc_, i64_w, i32_w]
   rfl
 refine pure_ (i := 33) (N := some 190) (v := ?_) (a' := ?_) #[t_,t_,t_,t_,t_,t_,t_,t_,t_,t_,t_,t_,t_,t_,t_,t_,t_,t_,t_,t_,t_,t_,t_,t_,t_,t_,t_,t_,t_,t_,t_,t_,t_,t_,f_,f_,f_,f_,f_,f_,f_] rfl rfl (any_of HT_.out (by kernel_rfl)) (fun _ _ _ h => h) (Or.inl ⟨by rfl, ?_⟩) ?_ ?_
 rotate_left
 · intro w'
   go_simp
   with_reducible rfl
 rotate_left
 · simp only [Act.put, La_, Lb_, Lc_, i64_w, i32_w]
   rfl
 refine pure_ (i := 34) (N := some 191) (v := ?_) (a' := ?_) #[t_,t_,t_,t_,t_,t_,t_,t_,t_,t_,t_,t_,t_,t_,t_,t_,t_,t_,t_,t_,t_,t_,t_,t_,t_,t_,t_,t_,t_,t_,t_,t_,t_,t_,t_,f_,f_,f_,f_,f_,f_] rfl rfl (any_of HT_.out (by kernel_rfl)) (fun _ _ _ h => h) (Or.inl ⟨by rfl, ?_⟩) ?_ ?_
 rotate_left
 · intro w'
   go_simp
   with_reducible rfl
 rotate_left
 · simp only [Act.put, La_, Lb_, Lc_, i64_w, i32_w]
   rfl
 refine take_ (i := 35) (N := some 192) (v := ?_) (a' := ?_) #[t_,t_,t_,t_,t_,t_,t_,t_,t_,t_,t_,t_,t_,t_,t_,t_,t_,t_,t_,t_,t_,t_,t_,t_,t_,t_,t_,t_,t_,t_,t_,t_,t_,t_,t_,t_,f_,f_,f_,f_,f_] rfl rfl (take_ofW HT_.out HW_.out (by kernel_rfl)) (fun _ _ _ h => h) (Or.inl ⟨by rfl, ?_⟩) hHeld ?_ ?_
 rotate_left
 · intro w' s
   obtain ⟨⟨l0, l1⟩, -⟩ := Bx2 (Env.below E0.out s).2.2.2.2.2.2.2.2.2.2.2.2.2.2.2.2.2.2.2.2.2.2.1.1
   go_simp
   with_reducible rfl
 rotate_left
 · simp only [Act.put, La_, Lb_, Lc_, i64_w, i32_w]
   rfl
 refine take_ (i := 37) (N := some 194) (v := ?_) (a' := ?_) #[t_,t_,t_,t_,t_,t_,t_,t_,t_,t_,t_,t_,t_,t_,t_,t_,t_,t_,t_,t_,t_,t_,t_,t_,t_,t_,t_,t_,t_,t_,t_,t_,t_,t_,t_,t_,f_,t_,f_,f_,f_] rfl rfl (take_ofW HT_.out HW_.out (by kernel_rfl)) (fun _ _ _ h => h) (Or.inl ⟨by rfl, ?_⟩) hHeld ?_ ?_
 rotate_left
 · intro w' s
   obtain ⟨⟨l0, l1⟩, -⟩ := Bx2 (Env.below E0.out s).2.2.2.2.2.2.2.2.2.2.2.2.2.2.2.2.2.2.2.1.1
   go_simp
   with_reducible rfl
 rotate_left
 · simp only [Act.put, La_, Lb_, Lc_, i64_w, i32_w]
   rfl
 refine one_ (i := 36) (N := some 193) #[t_,t_,t_,t_,t_,t_,t_,t_,t_,t_,t_,t_,t_,t_,t_,t_,t_,t_,t_,t_,t_,t_,t_,t_,t_,t_,t_,t_,t_,t_,t_,t_,t_,t_,t_,t_,t_,t_,f_,f_,f_] rfl rfl (one_of HT_.out (by kernel_rfl)) (by decide) (fun K hK => ?_)
 refine goes_ Try.func14 (by kernel_rfl) rfl #[.agg #[.slice A0 ds.length c0, .slice A1 fs.length c1]] (by rfl) rfl rfl (by (try simp only [List.map_toArray, List.map_cons, List.map_nil]); first | done | rfl) ?_
 refine (its_T E.out.2.2.2.2.2.2.2.2.2.2.2.2.2.2.2.2.2.2.2.2.2.2.2.2.2.2.1.1 hu_.out).mono ?_
 rintro en w2_ ⟨At2, ct2, Bt2, bt2, rfl, hT, hb⟩
 refine ⟨_, rfl, ?_⟩
 have n2_ := Be_ hHeld hb
 have n0_ := Am_ (Env.cons (T54.st _ _ _ _ _ _) hT (Env.below (Pe_ E.out) hb))
 have n1_ := Am_ (Be_ (Pb0_ HB.out) hb)
 clear E HB
 have E := n0_
 have HB := n1_
 clear n0_ n1_ hb
 clear hT
 refine hK.out _ _ n2_ (fun _ => ?_)
 clear hK K hHeld
 have hHeld := n2_
 clear n2_
 refine norm_ (a' := ?_) ?_ ?_
 rotate_left
 · show Act.put _ (some 193) _ = _
   simp only [Act.put, La_, Lb_, Lc_, i64_w, i32_w]
   rfl
 refine one_ (i := 38) (N := some 195) #[t_,t_,t_,t_,t_,t_,t_,t_,t_,t_,t_,t_,t_,t_,t_,t_,t_,t_,t_,t_,t_,t_,t_,t_,t_,t_,t_,t_,t_,t_,t_,t_,t_,t_,t_,t_,t_,t_,t_,f_,f_] rfl rfl (one_of HT_.out (by kernel_rfl)) (by decide) (fun K hK => ?_)
 refine goes_ Try.func15 (by kernel_rfl) rfl #[.agg #[.slice At2 es.length ct2, .slice Bt2 fs.length bt2], .agg #[.slice Au es.length cu, .slice Bu fs.length bu]] (by rfl) rfl rfl (by (try simp only [List.map_toArray, List.map_cons, List.map_nil]); first | done | rfl) ?_
 refine (flagstoneref10_Same.calls k _ _ es _ _ fs _ _ es _ _ fs true _ E.out.1.1.1.2 E.out.1.1.1.1 E.out.1.1.2.2 E.out.1.1.2.1 E.out.2.2.2.2.2.2.2.2.2.2.2.2.2.2.2.2.2.2.2.2.2.2.2.2.1.1.1.2 E.out.2.2.2.2.2.2.2.2.2.2.2.2.2.2.2.2.2.2.2.2.2.2.2.2.1.1.1.1 E.out.2.2.2.2.2.2.2.2.2.2.2.2.2.2.2.2.2.2.2.2.2.2.2.2.1.1.2.2 E.out.2.2.2.2.2.2.2.2.2.2.2.2.2.2.2.2.2.2.2.2.2.2.2.2.1.1.2.1 su_.out).mono ?_
 rintro en w2_ ⟨rfl, hb⟩
 refine ⟨_, rfl, ?_⟩
 have n2_ := Be_ hHeld hb
 have n0_ := Am_ (Env.below (Pe_ E.out) hb)
 have n1_ := Am_ (Be_ (Pb0_ HB.out) hb)
 clear E HB
 have E := n0_
 have HB := n1_
 clear n0_ n1_ hb
 refine hK.out _ _ n2_ (fun _ => ?_)
 clear hK K hHeld
 have hHeld := n2_
 clear n2_
 refine norm_ (a' := ?_) ?_ ?_
 rotate_left
 · show Act.put _ (some 195) _ = _
   simp only [Act.put, La_, Lb_, Lc_, i64_w, i32_w]
   rfl
 refine pure_ (i := 39) (N := some 196) (v := ?_) (a' := ?_) #[t_,t_,t_,t_,t_,t_,t_,t_,t_,t_,t_,t_,t_,t_,t_,t_,t_,t_,t_,t_,t_,t_,t_,t_,t_,t_,t_,t_,t_,t_,t_,t_,t_,t_,t_,t_,t_,t_,t_,t_,f_] rfl rfl (any_of HT_.out (by kernel_rfl)) (fun _ _ _ h => h) (Or.inl ⟨by rfl, ?_⟩) ?_ ?_
 rotate_left
 · intro w'
   go_simp
   with_reducible rfl
 rotate_left
 · simp only [Act.put, La_, Lb_, Lc_, i64_w, i32_w]
   rfl
 refine pure_ (i := 40) (N := some 8) (v := ?_) (a' := ?_) #[t_,t_,t_,t_,t_,t_,t_,t_,t_,t_,t_,t_,t_,t_,t_,t_,t_,t_,t_,t_,t_,t_,t_,t_,t_,t_,t_,t_,t_,t_,t_,t_,t_,t_,t_,t_,t_,t_,t_,t_,t_] rfl rfl (any_of HT_.out (by kernel_rfl)) (fun _ _ _ h => h) (Or.inl ⟨by rfl, ?_⟩) ?_ ?_
 rotate_left
 · intro w'
   go_simp
   with_reducible rfl
 rotate_left
 · simp only [Act.put, La_, Lb_, Lc_, i64_w, i32_w]
   rfl
 refine done_ (done_of HT_.out (by kernel_rfl)) ?_
 clear HT_ HW_ hHeld E0
 try go_wp2
 go_ret
 exact ⟨by first | rfl | (simp; done), by first | exact HB.out | exact (Pb0_ HB.out)⟩
end Go.Proofs.Ytkecfdljodiifaa.P
