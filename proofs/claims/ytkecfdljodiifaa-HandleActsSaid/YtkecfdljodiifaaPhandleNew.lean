-- Printed by a program of this session (inject.py) over the kit's print, with functions that were proved by hand in their places.
import Derived.Test.YtkecfdljodiifaaPK
import Derived.Test.YtkecfdljodiifaaPslicesRepeatintint
namespace Go.Proofs.Ytkecfdljodiifaa.P
open Go.RowKit Go.Proofs.YtkecfdljodiifaaW.PrintWords Go.Proofs.YtkecfdljodiifaaW.PrintLast Go.Proofs.YtkecfdljodiifaaW.PrintMore
attribute [local go_sem] max2_int min2_int max_two min_two max_three min_three max_four min_four   -- for this text's walks alone
set_option linter.unusedVariables false
set_option linter.unusedSimpArgs false

/-! ### handle_New: function 16 -/
def handle_New.l0 : Nat → Int → Int → List (List Int) → Option ((List (S38)) × (List (List Int)))
 | 0, _, _, _ => none
 | k + 1, x7, x8, x113001 => if x8 < x7 then ((slices_Repeat_int_int.f (([(-1)] : List Int)) 8).bind fun t116 => (if x113001.length < 5864062014805 then (handle_New.l0 k x7 (wrap64 (x8 + 1)) (x113001 ++ [t116])) else (none))) else (some (([] : List (S38)), x113001))
def handle_New.f (k : Nat) (a0 : Int) : Option ((List (S38)) × (List (List Int))) := if a0 > 8 then (some (([] : List (S38)), ([] : List (List Int)))) else (handle_New.l0 k (mx a0 0) 0 ([] : List (List Int)))
theorem handle_New.mono_l : ∀ k, (∀ y0 y1 y2, LeO (handle_New.l0 k y0 y1 y2) (handle_New.l0 (k + 1) y0 y1 y2))
 | 0 => fun _ _ _ r h => by simp [handle_New.l0] at h
 | k + 1 => by
  have ih0 := handle_New.mono_l k
  ·intro y0 y1 y2
   unfold handle_New.l0
   repeat' first
   | (with_reducible exact ih0 _ _ _)
   | (with_reducible exact LeO.refl _)
   | (with_reducible exact LeO.none _)
   | (with_reducible refine LeO.ite ?_ ?_)
   | (with_reducible refine LeO.bind ?_ (fun _ => ?_))
   | exact ih0 _ _ _
   | exact LeO.none _
   | refine LeO.ite ?_ ?_
   | refine LeO.bind ?_ (fun _ => ?_)
theorem handle_New.mono : ∀ a0 k, LeO (handle_New.f k a0) (handle_New.f (k + 1) a0) := by
 intro a0 k
 have ih0 := handle_New.mono_l k
 unfold handle_New.f
 repeat' first
   | (with_reducible exact ih0 _ _ _)
   | (with_reducible exact LeO.refl _)
   | (with_reducible exact LeO.none _)
   | (with_reducible refine LeO.ite ?_ ?_)
   | (with_reducible refine LeO.bind ?_ (fun _ => ?_))
   | exact ih0 _ _ _
   | exact LeO.none _
   | refine LeO.ite ?_ ?_
   | refine LeO.bind ?_ (fun _ => ?_)
def handle_New.T5 : Bool × List (List Nat × List Nat) := (true, [([], []), ([0], [0]), ([], []), ([2], [2]), ([3], [3]), ([1, 4, 3], [1, 4]), ([0, 1, 2, 3, 4, 5], []), ([6, 5, 5, 0, 1, 2, 3, 4, 5], [5, 6])])
def handle_New.B5 : List Nat := [0, 1, 0, 4, 12, 31, 63, 127]
theorem handle_New.tab5 : rtab .any (opsOf Try.f16 5) = handle_New.T5 := by kernel_rfl
theorem handle_New.bits5 : waitsOk handle_New.T5.2 handle_New.B5 = true := by kernel_rfl
set_option maxHeartbeats 8000000 in
set_option maxRecDepth 100000 in
theorem handle_New.calls (k : Nat) (a0 : Int) (r1 : List (S38)) (r2 : List (List Int)) (w : World) (h : handle_New.f k a0 = some (r1, r2)) :
  Calls Try.prog 16 #[.int .i64 a0] w fun e w' => ∃ v0_ v1_ : Value, e = .returned (.agg #[v0_, v1_]) ∧ Kd.R k38 38 w' w.heap.size (fun k_ => (w.heap.size ≤ k_)) v0_ r1 ∧ Kd.N (Kd.slice 3 (Kd.int .i64)) 64 w' w.heap.size (fun k_ => (w.heap.size ≤ k_) ∧ some k_ ≠ (v0_ : Value).ownBlock) v1_ r2 ∧ Below w.heap.size w w' := by
 have hu25 := Try.underlying25
 have HB := Am_ (Below.refl w.heap.size w)
 have H : (if a0 > 8 then (some (([] : List (S38)), ([] : List (List Int)))) else (handle_New.l0 k (mx a0 0) 0 ([] : List (List Int)))) = some (r1, r2) := h
 clear h
 by_cases c2 : a0 > 8
 ·rw [if_pos c2] at H
  have c2b0 : decide (8 < a0) = true := Dt_ c2
  clear c2
  simp only [Option.some.injEq, Prod.mk.injEq] at H
  obtain ⟨rfl, rfl⟩ := H
  go_enter Try.func16, Try.ntmps16
  go_wp2_with (first | ((with_reducible refine gate_dst (N := 2) rfl ?_); refine box_event ?hg (N := 2) ?hd (cs := #[.slice none 0 0, .slice none 0 0]) (t := 25) ?hr ?_; (case hd => rfl); (case hg => rfl); (case hr => go_simp; try rfl); intro gb112 hg w3 hbox hb; have n0_ := Am_ (Be_ (Pb0_ HB.out) hb); have n1_ := Am_ (hbox); have n2_ := Am_ ((by rw [hg]; exact (Bz_ (Pb0_ HB.out)) : w.heap.size ≤ gb112)); have n3_ := Am_ ((by rw [hg]; exact (Bz_ (Pb0_ HB.out)) : w.heap.size ≤ gb112)); clear HB; have HB := n0_; have BK112 := n1_; have GW112 := n2_; have GE112 := n3_; clear n0_ n1_ n2_ n3_; clear hb hbox hg; obtain ⟨hcz4_0, hcz4_1, hfz4_0, hfz4_1⟩ := Ce2_ BK112.out))
  refine bodyPost_ret (results_cell_row rfl _ _ gb112 25 #[.slice none 0 0, .slice none 0 0] (0, 0) _ rfl (by (with_reducible repeat (first | refine Bn_ ?_ _ | refine Bd_ ?_ | refine Ba_ ?_ _)); refine Bp_ (cs := #[.slice none 0 0, .slice none 0 0]) ?_ 1 _ rfl; (with_reducible repeat (first | refine Bn_ ?_ _ | refine Bd_ ?_ | refine Ba_ ?_ _)); refine Bp_ (cs := #[.slice none 0 0, .slice none 0 0]) ?_ 0 _ rfl; (with_reducible repeat (first | refine Bn_ ?_ _ | refine Bd_ ?_ | refine Ba_ ?_ _)); exact BK112.out) Try.underlying25 rfl (by kernel_rfl)) rfl ?_
  exact ⟨_, _, by first | rfl | (simp [errW_none, errW_some] <;> rfl) | (simp [*, errW_none, errW_some] <;> rfl), by first | exact Kd.R_nil _ _ _ _ _ | exact Kd.N_nil _ _ _ _ _ | exact Kd.V_nil _ _ _ _ _ | exact Kd.Q_nil _ _ _ _ _ | exact Kd.S_nil _ _ _ _ _, by first | exact Kd.S_nil _ _ _ _ _ | exact Kd.N_nil _ _ _ _ _ | exact Kd.V_nil _ _ _ _ _ | exact Kd.Q_nil _ _ _ _ _ | exact Kd.R_nil _ _ _ _ _, by repeat (first | (with_reducible first | exact HB.out | apply Pa_ | apply Pn_ | apply Pd_ | refine Bs_ ?_ GE112.out) | exact HB.out)⟩
 ·rw [if_neg c2] at H
  have c2b0 : decide (8 < a0) = false := Df_ c2
  clear c2
  obtain ⟨ji5, hji5⟩ : ∃ j_ : Int, (mx a0 0) = j_ := ⟨_, rfl⟩
  replace H : (handle_New.l0 k ji5 0 ([] : List (List Int))) = some (r1, r2) := by first | (rw [hji5] at H; exact H) | (simp only [hji5] at H ⊢; exact H)
  (try (have hji5l : 0 ≤ ji5 := by (rw [← hji5]; unfold mx; (repeat' split) <;> omega)))
  (try (have hji5m : 0 ≤ ji5 := by omega))
  have hji5_ : (if a0 < 0 then 0 else a0) = ji5 := hji5
  have H' := Am_ H
  clear H
  go_enter Try.func16, Try.ntmps16
  go_wp2_with (first | ((with_reducible refine gate_dst (N := 2) rfl ?_); refine box_event ?hg (N := 2) ?hd (cs := #[.slice none 0 0, .slice none 0 0]) (t := 25) ?hr ?_; (case hd => rfl); (case hg => rfl); (case hr => go_simp; try rfl); intro gb112 hg w6 hbox hb; have n0_ := Am_ (Be_ (Pb0_ HB.out) hb); have n1_ := Am_ (hbox); have n2_ := Am_ ((by rw [hg]; exact (Bz_ (Pb0_ HB.out)) : w.heap.size ≤ gb112)); have n3_ := Am_ ((by rw [hg]; exact (Bz_ (Pb0_ HB.out)) : w.heap.size ≤ gb112)); clear HB; have HB := n0_; have BK112 := n1_; have GW112 := n2_; have GE112 := n3_; clear n0_ n1_ n2_ n3_; clear hb hbox hg))
  go_loopg [8] k (fun kq v8 w' => ∃ (x8_1 : Int) (x113001_1 : List (List Int)) (u113001 : Value), v8 = .int .i64 x8_1 ∧ Aside0 (handle_New.l0 kq ji5 x8_1 x113001_1 = some (r1, r2)) ∧ Aside0 (kq ≤ k) ∧ Aside0 (Kd.N (Kd.slice 3 (Kd.int .i64)) 64 w' w.heap.size (fun k_ => (w.heap.size ≤ k_) ∧ k_ ≠ gb112) u113001 x113001_1) ∧ Aside0 (w'.heap[gb112]? = some (.cells #[(.slice none 0 0), u113001] 25 (0, 0))) ∧ Aside0 (Below w.heap.size w w'))
  case atStart => exact ⟨(0), (([] : List (List Int))), (.slice none 0 0), (by first | rfl | (simp; done) | (simp [*]; done)), H', ⟨Nat.le_refl _⟩, ⟨by first | exact Kd.S_nil _ _ _ _ _ | exact Kd.N_nil _ _ _ _ _ | exact Kd.V_nil _ _ _ _ _ | exact Kd.Q_nil _ _ _ _ _ | exact Kd.R_nil _ _ _ _ _⟩, ⟨by (with_reducible repeat (first | refine Bn_ ?_ _ | refine Bd_ ?_ | refine Ba_ ?_ _)); exact BK112.out⟩, ⟨by repeat (first | (with_reducible first | exact HB.out | apply Pa_ | apply Pn_ | apply Pd_ | refine Bs_ ?_ GE112.out) | exact HB.out)⟩⟩
  case round =>
   clear H'
   try clear c1
   try clear c2
   try clear c2b0
   try clear p2
   try clear hcz4_0
   try clear hcz4_1
   try clear hfz4_0
   try clear hfz4_1
   obtain ⟨x8_1, x113001_1, u113001, rfl, HA, HK1, HO_113001, BK112, HB⟩ := hrel
   cases gk with
   | zero => exact absurd HA.out (by simp [handle_New.l0])
   | succ k1 =>
    have H := HA.out
    clear HA
    simp only [handle_New.l0] at H
    by_cases c7 : x8_1 < ji5
    ·rw [if_pos c7] at H
     have c7b0 : decide (x8_1 < ji5) = true := Dt_ c7
     clear c7
     obtain ⟨y113, hy113⟩ : ∃ y_ : List Int, y_ = (([(-1)] : List Int)) := ⟨_, rfl⟩
     replace H : ((slices_Repeat_int_int.f y113 8).bind fun t116 => (if x113001_1.length < 5864062014805 then (handle_New.l0 k1 ji5 (wrap64 (x8_1 + 1)) (x113001_1 ++ [t116])) else (none))) = some (r1, r2) := by first | (rw [hy113]; with_reducible exact H) | (have H2_ := (Option.bind_some _ _).symm.trans H; rw [hy113]; with_reducible exact H2_) | (have H2_ := (Option.bind_some _ _).symm.trans H; with_reducible exact H2_) | with_reducible exact H | (rw [hy113]; exact H) | exact H
     have Ny113 := Am_ hy113
     clear hy113
     replace H := Option.bind_eq_some_iff.mp H
     obtain ⟨t116, A80, H⟩ := H
     replace H : (if x113001_1.length < 5864062014805 then (handle_New.l0 k1 ji5 (wrap64 (x8_1 + 1)) (x113001_1 ++ [t116])) else (none)) = some (r1, r2) := H
     have A8 := Am_ A80
     clear A80
     by_cases c9 : x113001_1.length < 5864062014805
     ·rw [if_pos c9] at H
      have LMc9 := Am_ c9
      clear c9
      obtain ⟨y119, hy119⟩ : ∃ y_ : List (List Int), y_ = (x113001_1 ++ [t116]) := ⟨_, rfl⟩
      replace H : (handle_New.l0 k1 ji5 (wrap64 (x8_1 + 1)) y119) = some (r1, r2) := by first | (rw [hy119]; with_reducible exact H) | (have H2_ := (Option.bind_some _ _).symm.trans H; rw [hy119]; with_reducible exact H2_) | (have H2_ := (Option.bind_some _ _).symm.trans H; with_reducible exact H2_) | with_reducible exact H | (rw [hy119]; exact H) | exact H
      have Ny119 := Am_ hy119
      clear hy119
      have H' := Am_ H
      clear H
      try go_wp2
      have n0_ := Am_ (Kd.N_drew HO_113001.out)
      have n1_ := Am_ (Bd_ BK112.out)
      have n2_ := Am_ (Pd_ HB.out)
      clear HO_113001
      clear BK112
      clear HB
      have HO_113001 := n0_
      have BK112 := n1_
      have HB := n2_
      clear n0_ n1_ n2_
      refine start_ (n := 8) (S := fun w' => w'.cell? ⟨gb112, 0, none⟩ = some (.slice none 0 0) ∧ w'.cell? ⟨gb112, 1, none⟩ = some (u113001)) (ds := [7]) #[f_,f_,f_,f_,f_,f_,f_,f_] (by kernel_rfl) rfl rfl ⟨(Bc_ BK112.out 0).trans rfl, (Bc_ BK112.out 1).trans rfl⟩ (fun hHeld => ?_); refine with_tabW handle_New.tab5 handle_New.bits5 (fun HT_ HW_ => ?_)
      generalize wr.drew = w10 at HO_113001 BK112 HB hHeld ⊢
      refine pure_ (i := 0) (N := some 10) (v := ?_) (a' := ?_) #[t_,f_,f_,f_,f_,f_,f_,f_] rfl rfl (any_of HT_.out (by kernel_rfl)) (fun _ _ _ h => h) (Or.inl ⟨by rfl, ?_⟩) ?_ ?_
      rotate_left
      ·intro w'
       go_simp
       with_reducible rfl
      rotate_left
      ·simp only [Act.put, La_, Lb_, Lc_, i64_w, i32_w]
       rfl
      refine take_ (i := 1) (N := some 11) (v := ?_) (a' := ?_) #[t_,t_,f_,f_,f_,f_,f_,f_] rfl rfl (take_ofW HT_.out HW_.out (by kernel_rfl)) (fun _ _ _ h => h) (Or.inl ⟨by rfl, ?_⟩) hHeld ?_ ?_
      rotate_left
      ·rintro w' ⟨s0, s1⟩
       go_simp
       with_reducible rfl
      rotate_left
      ·simp only [Act.put, La_, Lb_, Lc_, i64_w, i32_w]
       rfl
      refine one_ (i := 2) (N := some 12) #[t_,t_,t_,f_,f_,f_,f_,f_] rfl rfl (one_of HT_.out (by kernel_rfl)) (by decide) (fun K hK => ?_)
      refine Kd.R_lit_step (Kd.int .i64) _ 3 ?hg (N := 12) ?hd (xs := ([(-1)] : List Int)) (inner := [.int .i64 (-1)]) (ok := fun _ => True) (okp := fun _ => True) ?hr ?hp (fun _ hk => hk) trivial (Below.refl _ _) (Nat.le_refl _) (by simp) ?_; (case hd => rfl); (case hg => rfl); (case hr => go_simp; try rfl); (case hp => exact (Reps.one (show Kd.M (Kd.int .i64) _ _ _ (-1) [.int .i64 (-1)] from rfl) (Reps.none _ _)))
      intro v114 w11 ho12 hb hg_ hnew_
      clear hg_ hnew_
      (first | rw [← Ny113.out] at ho12 | (simp only [Int.reduceToNat] at ho12; rw [← Ny113.out] at ho12))
      have n0_ := Am_ (Kd.N_elder' (Pz_ HO_113001.out) (Kd.R_base ho12) hb)
      have n1_ := Am_ (Kd.R_lower (Kd.R_newM (M := fun k_ => (w.heap.size ≤ k_)) ho12 (Bz_ (Pb1_ HB.out GE112.out)) (fun k_ h_ => h_)) (Bz_ (Pb1_ HB.out GE112.out)))
      have n2_ := Am_ (Bb_ (g := gb112) (o := .cells #[.slice none 0 0, u113001] 25 (0, 0)) (Pk_ BK112.out) hb)
      have n3_ := Am_ (Be_ (Pb1_ HB.out GE112.out) hb)
      clear HO_113001
      clear BK112
      clear HB
      have HO_113001 := n0_
      have HO115 := n1_
      have BK112 := n2_
      have HB := n3_
      clear n0_ n1_ n2_ n3_
      clear hb ho12
      obtain ⟨Ao13, co13, eo13⟩ := Kd.R_slice HO115.out
      (first | subst eo13 | (injection eo13 with f1_ f2_ f3_; have f4_ := f1_.symm; have f5_ := f3_.symm; clear f1_ f2_ f3_; subst f4_; subst f5_))
      refine hK.out _ _ ⟨(Bc_ BK112.out 0).trans rfl, (Bc_ BK112.out 1).trans rfl⟩ (fun hHeld => ?_)
      clear hK K
      refine norm_ (a' := ?_) ?_ ?_
      rotate_left
      ·show Act.put _ (some 12) _ = _
       simp only [Act.put, La_, Lb_, Lc_, i64_w, i32_w]
       rfl
      refine one_ (i := 3) (N := some 13) #[t_,t_,t_,t_,f_,f_,f_,f_] rfl rfl (one_of HT_.out (by kernel_rfl)) (by decide) (fun K hK => ?_)
      refine goes_ Try.func33 (by kernel_rfl) rfl #[.slice Ao13 y113.length co13, .int .i64 8] (by rfl) rfl rfl (by (try simp only [List.map_toArray, List.map_cons, List.map_nil]); first | done | rfl | (simp only [List.length_drop, List.length_take]; rfl)) ?_
      with_reducible refine (slices_Repeat_int_int.calls (fun k_ => some k_ = (.slice Ao13 y113.length co13 : Value).ownBlock) _ _ y113 8 t116 _ ?side1 A8.out).mono ?_
      (case side1 => exact Kd.R_V (Kd.R_tight rfl (Kd.R_types (Kd.R_apart' (HO115.out) (Kd.N_typed HO_113001.out) (by decide)) BK112.out (by decide))))
      rintro e w14 ⟨v117, rfl, ho0, hb⟩
      refine ⟨_, rfl, ?_⟩
      have n0_ := Am_ (Kd.N_below (Pz_ HO_113001.out) hb)
      have n1_ := Am_ (Rb_ (Px_ HO115.out) hb)
      have n2_ := Am_ (Vl_ (Vm_ (ok' := fun k_ => (w.heap.size ≤ k_) ∧ some k_ ≠ (u113001 : Value).ownBlock ∧ k_ ≠ gb112) ho0 (fun k_ hk_ => ⟨Or.elim hk_ (fun hs_ => ((Kd.R_types (Kd.R_apart' (HO115.out) (Kd.N_typed HO_113001.out) (by decide)) BK112.out (by decide)).1 k_ hs_.symm).1.1.1) (fun hn_ => (Nat.le_trans (Bz_ (Pb1_ HB.out GE112.out)) hn_)), Or.elim hk_ (fun hs_ => ((Kd.R_types (Kd.R_apart' (HO115.out) (Kd.N_typed HO_113001.out) (by decide)) BK112.out (by decide)).1 k_ hs_.symm).1.2) (fun hn_ => (Kd.fresh' (Kd.N_lt (Pz_ HO_113001.out)) k_ hn_)), Or.elim hk_ (fun hs_ => ((Kd.R_types (Kd.R_apart' (HO115.out) (Kd.N_typed HO_113001.out) (by decide)) BK112.out (by decide)).1 k_ hs_.symm).2) (fun hn_ => (Kd.freshB (g := gb112) (o := .cells #[.slice none 0 0, u113001] 25 (0, 0)) (Pk_ BK112.out) k_ hn_))⟩)) (Bz_ (Pb1_ HB.out GE112.out)))
      have n3_ := Am_ (Bb_ (g := gb112) (o := .cells #[.slice none 0 0, u113001] 25 (0, 0)) (Pk_ BK112.out) hb)
      have n4_ := Am_ (Be_ (Pb1_ HB.out GE112.out) hb)
      clear HO_113001
      clear HO115
      clear BK112
      clear HB
      have HO_113001 := n0_
      have HO115 := n1_
      have HO118 := n2_
      have BK112 := n3_
      have HB := n4_
      clear n0_ n1_ n2_ n3_ n4_
      (try clear hb)
      (try clear hb2)
      (try clear hk)
      (try clear hi)
      (try clear ho0)
      obtain ⟨Ao16, co16, eo16⟩ := Vx_ HO118.out
      (first | subst eo16 | (injection eo16 with f1_ f2_ f3_; have f4_ := f1_.symm; have f5_ := f3_.symm; clear f1_ f2_ f3_; subst f4_; subst f5_))
      refine hK.out _ _ ⟨(Bc_ BK112.out 0).trans rfl, (Bc_ BK112.out 1).trans rfl⟩ (fun hHeld => ?_)
      clear hK K
      refine norm_ (a' := ?_) ?_ ?_
      rotate_left
      ·show Act.put _ (some 13) _ = _
       simp only [Act.put, La_, Lb_, Lc_, i64_w, i32_w]
       rfl
      refine one_ (i := 4) (N := some 14) #[t_,t_,t_,t_,t_,f_,f_,f_] rfl rfl (one_of HT_.out (by kernel_rfl)) (by decide) (fun K hK => ?_)
      refine value_ (w1 := ?_) (v := ?_) (by rfl) rfl ?_ ?_
      rotate_left 2
      ·go_simp
       constructor
       ·rfl
       ·rfl
      refine hK.out _ _ ⟨(Bc_ (Ba_ BK112.out _) 0).trans rfl, (Bc_ (Ba_ BK112.out _) 1).trans rfl⟩ (fun hHeld => ?_)
      clear hK K
      refine norm_ (a' := ?_) ?_ ?_
      rotate_left
      ·show Act.put _ (some 14) _ = _
       simp only [Act.put, La_, Lb_, Lc_, i64_w, i32_w]
       rfl
      refine one_ (i := 5) (N := some 15) #[t_,t_,t_,t_,t_,t_,f_,f_] rfl rfl (one_of HT_.out (by kernel_rfl)) (by decide) (fun K hK => ?_)
      refine Kd.N_append_step (Kd.slice 3 (Kd.int .i64)) (w0 := w) w.heap.size (by rfl) (.tmp 11) (.tmp 14) 23 64 (.slice none 0 0) 24 rfl Try.underlying23 info64 rfl (by decide) (by omega) u113001 x113001_1 t116 [.slice Ao16 t116.length co16] (fun k_ => (w.heap.size ≤ k_) ∧ k_ ≠ gb112) (fun k_ => ((fun k_ => (w.heap.size ≤ k_) ∧ k_ ≠ gb112)) k_ ∧ some k_ ≠ (u113001 : Value).ownBlock) rfl rfl ?aP (fun _ hk => hk) ?aF ?aO ?aB ?aS ?aL ?_
      (case aP => exact (Kd.FK_slice_mk (Vr_ (Vm_ (ok' := (fun k_ => ((fun k_ => (w.heap.size ≤ k_) ∧ k_ ≠ gb112)) k_ ∧ some k_ ≠ (u113001 : Value).ownBlock)) (HO118.out) (fun k_ hk => ⟨⟨hk.1, hk.2.2⟩, hk.2.1⟩))).2.1 (Kd.V_F (Vm_ (ok' := (fun k_ => ((fun k_ => (w.heap.size ≤ k_) ∧ k_ ≠ gb112)) k_ ∧ some k_ ≠ (u113001 : Value).ownBlock)) (HO118.out) (fun k_ hk => ⟨⟨hk.1, hk.2.2⟩, hk.2.1⟩)))))
      (case aB => exact (Pb1_ HB.out GE112.out))
      (case aF => exact (fun k_ hk => ⟨(Nat.le_trans (Bz_ (Pb1_ HB.out GE112.out)) hk), Kd.freshB (g := gb112) (o := .cells #[.slice none 0 0, u113001] 25 (0, 0)) (Pk_ BK112.out) k_ hk⟩))
      (case aO => exact (by (with_reducible repeat (first | apply Kd.N_alloc | apply Kd.N_drewN | apply Kd.N_drew)); exact Kd.N_mono HO_113001.out (fun _ hk => ⟨hk.1.1, hk.1.2⟩)))
      (case aS => exact (Bz_ (Pb1_ HB.out GE112.out)))
      (case aL => have := LMc9.out; omega)
      intro v120 w15 ho hb hg hat
      rw [← Ny119.out] at ho
      have n0_ := Am_ (Bg_ (g := gb112) (o := .cells #[.slice none 0 0, u113001] 25 (0, 0)) (Pk_ BK112.out) hg (Kd.N_ne HO_113001.out BK112.out (by decide)))
      have n1_ := Am_ (Kd.R_over' (Px_ HO115.out) (Kd.N_typed (Pz_ HO_113001.out)) (by decide) hg)
      have n2_ := Am_ (Kd.V_afterv (ok := (fun k_ => (w.heap.size ≤ k_) ∧ k_ ≠ gb112)) (by (with_reducible repeat (first | apply Va_ | apply Vn_ | apply Vd_)); exact Vm_ HO118.out (fun _ hk => ⟨⟨hk.1, hk.2.2⟩, hk.2.1⟩)) hg hat)
      have n3_ := Am_ (hb)
      have n4_ := Am_ (ho)
      clear BK112
      clear HO115
      clear HO118
      clear HB
      clear HO_113001
      have BK112 := n0_
      have HO115 := n1_
      have HO118 := n2_
      have HB := n3_
      have HO121 := n4_
      clear n0_ n1_ n2_ n3_ n4_
      clear ho hb hg hat
      obtain ⟨Ao17, co17, eo17⟩ := Kd.N_slice HO121.out
      (first | subst eo17 | (injection eo17 with f1_ f2_ f3_; have f4_ := f1_.symm; have f5_ := f3_.symm; clear f1_ f2_ f3_; subst f4_; subst f5_))
      refine hK.out _ _ ⟨(Bc_ BK112.out 0).trans rfl, (Bc_ BK112.out 1).trans rfl⟩ (fun hHeld => ?_)
      clear hK K
      refine norm_ (a' := ?_) ?_ ?_
      rotate_left
      ·show Act.put _ (some 15) _ = _
       simp only [Act.put, La_, Lb_, Lc_, i64_w, i32_w]
       rfl
      refine pure_ (i := 6) (N := some 16) (v := ?_) (a' := ?_) #[t_,t_,t_,t_,t_,t_,t_,f_] rfl rfl (any_of HT_.out (by kernel_rfl)) (fun _ _ _ h => h) (Or.inl ⟨by rfl, ?_⟩) ?_ ?_
      rotate_left
      ·intro w'
       go_simp
       with_reducible rfl
      rotate_left
      ·simp only [Act.put, La_, Lb_, Lc_, i64_w, i32_w]
       rfl
      refine last_ (i := 7) (N := none) #[t_,t_,t_,t_,t_,t_,t_,t_] rfl rfl (one_of HT_.out (by kernel_rfl)) (by decide) (fun K hK => ?_)
      have hs18 : w15.cell? ⟨gb112, 1, none⟩ = some (u113001) := (Bc_ BK112.out 1).trans rfl
      have hfs18 := Bf_ BK112.out 1
      refine skip_ (w1 := ?_) (by rfl) rfl ?_ ?_
      rotate_left
      ·go_simp
       rfl
      refine hK.out _ _ ?_
      clear hK K
      refine done_ (done_of HT_.out (by kernel_rfl)) ?_
      try go_wp2
      go_roundg k1
      case measure => have := HK1.out; omega
      case rel => exact ⟨(wrap64 (x8_1 + 1)), (y119), (.slice Ao17 y119.length co17), (by first | rfl | (simp; done) | (simp [*]; done)), H', ⟨by have := HK1.out; omega⟩, ⟨by (with_reducible repeat (first | apply Kd.N_alloc | apply Kd.N_drewN | apply Kd.N_drew)); exact Kd.N_mono (Kd.N_far (p := ⟨gb112, 1, none⟩) (Kd.N_mono HO121.out (fun k_ hk => (⟨hk, hk.2⟩ : _ ∧ k_ ≠ gb112))) (fun _ hk => hk.2) (.slice Ao17 y119.length co17)) (fun _ hk => ⟨hk.1.1, hk.1.2⟩)⟩, ⟨by (with_reducible repeat (first | refine Bn_ ?_ _ | refine Bd_ ?_ | refine Ba_ ?_ _)); refine Bp_ (cs := #[.slice none 0 0, u113001]) ?_ 1 _ rfl; (with_reducible repeat (first | refine Bn_ ?_ _ | refine Bd_ ?_ | refine Ba_ ?_ _)); exact BK112.out⟩, ⟨by repeat (first | (with_reducible first | exact HB.out | apply Pa_ | apply Pn_ | apply Pd_ | refine Bs_ ?_ GE112.out) | exact HB.out)⟩⟩
     ·rw [if_neg c9] at H
      exact absurd H (by simp)
    ·rw [if_neg c7] at H
     have c7b0 : decide (x8_1 < ji5) = false := Df_ c7
     clear c7
     simp only [Option.some.injEq, Prod.mk.injEq] at H
     obtain ⟨rfl, rfl⟩ := H
     obtain ⟨hcz19_0, hcz19_1, hfz19_0, hfz19_1⟩ := Ce2_ BK112.out
     obtain ⟨Ao20, co20, eo20⟩ := Kd.N_slice HO_113001.out
     subst eo20
     go_wp2
     refine bodyPost_ret (results_cell_row rfl _ _ gb112 25 #[.slice none 0 0, .slice Ao20 x113001_1.length co20] (0, 0) _ rfl (by (with_reducible repeat (first | refine Bn_ ?_ _ | refine Bd_ ?_ | refine Ba_ ?_ _)); refine Bp_ (cs := #[.slice none 0 0, .slice Ao20 x113001_1.length co20]) ?_ 1 _ rfl; (with_reducible repeat (first | refine Bn_ ?_ _ | refine Bd_ ?_ | refine Ba_ ?_ _)); refine Bp_ (cs := #[.slice none 0 0, .slice Ao20 x113001_1.length co20]) ?_ 0 _ rfl; (with_reducible repeat (first | refine Bn_ ?_ _ | refine Bd_ ?_ | refine Ba_ ?_ _)); exact BK112.out) Try.underlying25 rfl (by kernel_rfl)) rfl ?_
     exact ⟨_, _, by first | rfl | (simp [errW_none, errW_some] <;> rfl) | (simp only [← hji5]; first | rfl | (simp [errW_none, errW_some] <;> rfl)) | (simp [*, errW_none, errW_some] <;> rfl), by first | exact Kd.R_nil _ _ _ _ _ | exact Kd.N_nil _ _ _ _ _ | exact Kd.V_nil _ _ _ _ _ | exact Kd.Q_nil _ _ _ _ _ | exact Kd.S_nil _ _ _ _ _, by (with_reducible repeat (first | apply Kd.N_alloc | apply Kd.N_drewN | apply Kd.N_drew)); exact Kd.N_mono (Kd.N_far (p := ⟨gb112, 1, none⟩) (Kd.N_far (p := ⟨gb112, 0, none⟩) (Kd.N_mono HO_113001.out (fun k_ hk => (⟨hk, hk.2⟩ : _ ∧ k_ ≠ gb112))) (fun _ hk => hk.2) (.slice none 0 0)) (fun _ hk => hk.2) (.slice Ao20 x113001_1.length co20)) (fun _ hk => ⟨hk.1.1, (by simp [Value.ownBlock])⟩), by repeat (first | (with_reducible first | exact HB.out | apply Pa_ | apply Pn_ | apply Pd_ | refine Bs_ ?_ GE112.out) | exact HB.out)⟩

end Go.Proofs.Ytkecfdljodiifaa.P
