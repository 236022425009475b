/- Plain laws, second part: fine, Holders, Fair, Same, copied, Set as plain functions of lists; no program in sight. -/
import Derived.Test.YtbfjakhloabhmaaQa
import Derived.Test.YtbfjakhloabhmaaPflockFair
import Derived.Test.YtbfjakhloabhmaaPref11Fair
import Derived.Test.YtbfjakhloabhmaaPref10Same
namespace Go.Proofs.Ytbfjakhloabhmaa.P
open Go.RowKit Go.Proofs.YtbfjakhloabhmaaW.PrintWords Go.Proofs.YtbfjakhloabhmaaW.PrintLast Go.Proofs.YtbfjakhloabhmaaW.PrintMore

theorem wrap_small {i : Int} (h0 : 0 ≤ i) (h1 : i < 1000000) : wrap64 (i + 1) = i + 1 := wrap_one h0 (Int.lt_trans h1 (by decide))
def fineB (ds : List S44) (fs : List (List Int)) : Bool := decide (ds.length ≤ 100) && decide (fs.length ≤ 20) && rightB ds fs
theorem fine_ev (ds : List S44) (fs : List (List Int)) : Ev (fun k => flagstonelaw11_fine.f k ds fs) (fineB ds fs) := by
  have last : Ev (fun k => if (ds.length : Int) ≤ 100 then (if (fs.length : Int) ≤ 20 then ((flagstonelaw11_its.f k ds fs).bind fun bt128 => ((flagstoneref10_Right.f k bt128.1 bt128.2).bind fun t134 => (some t134))) else (some false)) else (some false)) (fineB ds fs) := by
    by_cases c1 : ds.length ≤ 100
    · refine Ev.pos (by omega) ?_
      by_cases c2 : fs.length ≤ 20
      · refine Ev.pos (by omega) ?_
        refine Ev.bind (its_ev ds fs (by omega)) ?_
        refine Ev.bind (right_ev ds fs (by omega) (by omega)) ?_
        have e : fineB ds fs = rightB ds fs := by simp [fineB, c1, c2]
        rw [e]
        exact Ev.now _
      · refine Ev.neg (by omega) ?_
        have e : fineB ds fs = false := by simp [fineB, c2]
        rw [e]
        exact Ev.now _
    · refine Ev.neg (by omega) ?_
      have e : fineB ds fs = false := by simp [fineB, c1]
      rw [e]
      exact Ev.now _
  have key : ∀ d j : Nat, j ≤ 20 → 20 - j = d → Ev (fun k => flagstonelaw11_fine.l0 k (j : Int) ds fs) (fineB ds fs) := by
    intro d
    induction d with
    | zero =>
      intro j hj hd
      refine Ev.step (fun k => by rw [flagstonelaw11_fine.l0]) ?_
      by_cases c : (j : Int) < (fs.length : Int)
      · refine Ev.pos c ?_
        rw [decide_eq_false (show ¬ (j : Int) < 20 by omega)]
        refine Ev.step (fun k => by rw [flagstonelaw11_fine.j1]) ?_
        exact Ev.neg (by decide) last
      · refine Ev.neg c ?_
        refine Ev.step (fun k => by rw [flagstonelaw11_fine.j1]) ?_
        exact Ev.neg (by decide) last
    | succ d ih =>
      intro j hj hd
      refine Ev.step (fun k => by rw [flagstonelaw11_fine.l0]) ?_
      by_cases c : (j : Int) < (fs.length : Int)
      · refine Ev.pos c ?_
        rw [decide_eq_true (show (j : Int) < 20 by omega)]
        refine Ev.step (fun k => by rw [flagstonelaw11_fine.j1]) ?_
        refine Ev.pos rfl (Ev.pos (by omega) (Ev.pos c ?_))
        by_cases c2 : ((rd_L4 fs (j : Int)).length : Int) > 20
        · refine Ev.pos c2 ?_
          have hm : rd_L4 fs (j : Int) ∈ fs := by
            have h : j < fs.length := by omega
            have : rd_L4 fs (j : Int) = fs[j] := by simp [rd_L4, h]
            rw [this]
            exact List.getElem_mem h
          have e : rowsOk ds.length fs = false := by
            cases h : rowsOk ds.length fs
            · rfl
            · have h8 := (List.all_eq_true.1 h) _ hm
              simp only [Bool.and_eq_true, decide_eq_true_eq] at h8
              omega
          have e : fineB ds fs = false := by simp [fineB, rightB, e]
          rw [e]
          exact Ev.now _
        · refine Ev.neg c2 ?_
          rw [wrap_small (by omega) (by omega)]
          exact ih (j + 1) (by omega) (by omega)
      · refine Ev.neg c ?_
        refine Ev.step (fun k => by rw [flagstonelaw11_fine.j1]) ?_
        exact Ev.neg (by decide) last
  exact key _ 0 (by omega) rfl

/-! Holders -/
theorem rd_at (ds : List S44) (j : Nat) (h : j < ds.length) : rd_T44 ds (j : Int) = ds[j] := by simp [rd_T44, h]
def tells (ino lock : Int) (x : S44) : Bool := decide (x.f4 > 0) && decide (x.f0 = ino) && decide (x.f5 = lock)
theorem holders_step (ds : List S44) (ino lock : Int) (j : Nat) (h : j < ds.length) : (holdersOf (ds.take (j + 1)) ino lock : Int) = (holdersOf (ds.take j) ino lock : Int) + if tells ino lock (rd_T44 ds (j : Int)) = true then 1 else 0 := by
  rw [rd_at ds j h]
  unfold holdersOf
  rw [List.take_succ_eq_append_getElem h, List.countP_append, List.countP_singleton]
  show _ = _ + if ((decide (ds[j].f4 > 0) && decide (ds[j].f0 = ino) && decide (ds[j].f5 = lock)) = true) then 1 else 0
  split <;> simp
theorem holders_le (ds : List S44) (ino lock : Int) : holdersOf ds ino lock ≤ ds.length := List.countP_le_length
theorem wrap_holders (ds : List S44) (ino lock : Int) (j : Nat) (hn : ds.length < 1000000) : wrap64 ((holdersOf (ds.take j) ino lock : Int) + 1) = (holdersOf (ds.take j) ino lock : Int) + 1 := by
  have b := holders_le (ds.take j) ino lock
  have b2 := List.length_take_le' j ds
  exact wrap_small (by omega) (by omega)
theorem holders_ev (ds : List S44) (fs : List (List Int)) (ino : Int) (hn : ds.length < 1000000) : Ev (fun k => flagstoneref11_Holders.f k (ds.map conv) fs ino) ((holdersOf ds ino 1 : Int), (holdersOf ds ino 2 : Int)) := by
  have key : ∀ d j : Nat, j ≤ ds.length → ds.length - j = d → Ev (fun k => flagstoneref11_Holders.l0 k ino (holdersOf (ds.take j) ino 1 : Int) (holdersOf (ds.take j) ino 2 : Int) (j : Int) (ds.map conv) fs) ((holdersOf ds ino 1 : Int), (holdersOf ds ino 2 : Int)) := by
    intro d
    induction d with
    | zero =>
      intro j hj hd
      rw [List.take_of_length_le (by omega)]
      refine Ev.step (fun k => by rw [flagstoneref11_Holders.l0]) ?_
      exact Ev.neg (by rw [List.length_map]; omega) (Ev.now _)
    | succ d ih =>
      intro j hj hd
      have hj2 : j < ds.length := by omega
      have hj0 : (0 : Int) ≤ (j : Int) := by omega
      have w1 : wrap64 ((j : Int) + 1) = ((j + 1 : Nat) : Int) := by rw [wrap_small (by omega) (by omega)]; omega
      have b1 := wrap_holders ds ino 1 j hn
      have b2 := wrap_holders ds ino 2 j hn
      have h := ih (j + 1) (by omega) (by omega)
      have hlt : (j : Int) < ((ds.map conv).length : Int) := by rw [List.length_map]; omega
      refine Ev.step (fun k => by rw [flagstoneref11_Holders.l0]) ?_
      refine Ev.pos hlt (Ev.pos hj0 ?_)
      rw [rd_conv]
      have s1 := holders_step ds ino 1 j hj2
      have s2 := holders_step ds ino 2 j hj2
      generalize hx : rd_T44 ds (j : Int) = x at s1 s2 ⊢
      have e0 : (conv x).f0 = x.f0 := rfl
      have e4 : (conv x).f4 = x.f4 := rfl
      have e5 : (conv x).f5 = x.f5 := rfl
      have rest : ∀ b : Bool, b = tells ino 1 x → Ev (fun k => flagstoneref11_Holders.j1 k ino (holdersOf (ds.take j) ino 1 : Int) (holdersOf (ds.take j) ino 2 : Int) (j : Int) b (ds.map conv) fs) ((holdersOf ds ino 1 : Int), (holdersOf ds ino 2 : Int)) := by
        intro b hb
        refine Ev.step (fun k => by rw [flagstoneref11_Holders.j1]) ?_
        rw [rd_conv, hx, e0, e4, e5, w1, b1, b2]
        have t2 : tells ino 2 x = (decide (x.f4 > 0) && decide (x.f0 = ino) && decide (x.f5 = 2)) := rfl
        subst hb
        cases ht : tells ino 1 x
        · rw [ht] at s1
          simp only [Bool.false_eq_true, if_false, Int.add_zero] at s1
          rw [s1] at h
          refine Ev.neg (by decide) (Ev.pos hj0 (Ev.pos hlt ?_))
          by_cases c1 : x.f4 > 0
          · refine Ev.pos c1 ?_
            by_cases c2 : x.f0 = ino
            · refine Ev.pos c2 ?_
              by_cases c3 : x.f5 = 2
              · refine Ev.pos c3 ?_
                rw [t2, decide_eq_true c1, decide_eq_true c2, decide_eq_true c3] at s2
                simp only [Bool.and_self, if_true] at s2
                rw [s2] at h
                exact h
              · refine Ev.neg c3 ?_
                rw [t2, decide_eq_false c3] at s2
                simp only [Bool.and_false, Bool.false_eq_true, if_false, Int.add_zero] at s2
                rw [s2] at h
                exact h
            · refine Ev.neg c2 ?_
              rw [t2, decide_eq_false c2] at s2
              simp only [Bool.and_false, Bool.false_and, Bool.false_eq_true, if_false, Int.add_zero] at s2
              rw [s2] at h
              exact h
          · refine Ev.neg c1 ?_
            rw [t2, decide_eq_false c1] at s2
            simp only [Bool.false_and, Bool.false_eq_true, if_false, Int.add_zero] at s2
            rw [s2] at h
            exact h
        · rw [ht] at s1
          simp only [if_true] at s1
          simp only [tells, Bool.and_eq_true, decide_eq_true_eq] at ht
          have c3 : ¬ x.f5 = 2 := by intro h9; rw [ht.2] at h9; exact absurd h9 (by decide)
          rw [t2, decide_eq_false c3] at s2
          simp only [Bool.and_false, Bool.false_eq_true, if_false, Int.add_zero] at s2
          rw [s1, s2] at h
          refine Ev.pos rfl (Ev.pos hj0 (Ev.pos hlt (Ev.pos ht.1.1 (Ev.pos ht.1.2 (Ev.neg c3 h)))))
      rw [e0, e4, e5]
      by_cases c1 : x.f4 > 0
      · refine Ev.pos c1 ?_
        by_cases c2 : x.f0 = ino
        · refine Ev.pos c2 (rest _ ?_)
          simp only [tells, decide_eq_true c1, decide_eq_true c2, Bool.true_and]
          cases h5 : decide (x.f5 = 1) <;> simp_all
        · exact Ev.neg c2 (rest _ (by simp [tells, c2]))
      · exact Ev.neg c1 (rest _ (by simp [tells, c1]))
  exact key _ 0 (by omega) rfl

/-! Fair -/
def fairAt (ds : List S44) (x : S44) : Bool := decide (0 ≤ x.f5) && decide (x.f5 ≤ 2) && decide (holdersOf ds x.f0 2 ≤ 1) && (decide (holdersOf ds x.f0 2 ≠ 1) || decide (holdersOf ds x.f0 1 = 0))
def fairB (ds : List S44) : Bool := (List.range ds.length).all fun (i : Nat) => fairAt ds (rd_T44 ds (i : Int))
theorem fairAt_iff (ds : List S44) (x : S44) : fairAt ds x = true ↔ 0 ≤ x.f5 ∧ x.f5 ≤ 2 ∧ holdersOf ds x.f0 2 ≤ 1 ∧ (holdersOf ds x.f0 2 = 1 → holdersOf ds x.f0 1 = 0) := by
  simp only [fairAt, Bool.and_eq_true, Bool.or_eq_true, decide_eq_true_eq]
  omega
theorem fair_ev (ds : List S44) (fs : List (List Int)) (hn : ds.length < 1000000) : Ev (fun k => flagstoneref11_Fair.f k (ds.map conv) fs) (fairB ds) := by
  have key : ∀ d j : Nat, j ≤ ds.length → ds.length - j = d → Ev (fun k => flagstoneref11_Fair.l0 k (j : Int) (ds.map conv) fs) ((List.range' j d).all fun (i : Nat) => fairAt ds (rd_T44 ds (i : Int))) := by
    intro d
    induction d with
    | zero =>
      intro j hj hd
      refine Ev.step (fun k => by rw [flagstoneref11_Fair.l0]) ?_
      exact Ev.neg (by rw [List.length_map]; omega) (Ev.now _)
    | succ d ih =>
      intro j hj hd
      have h := ih (j + 1) (by omega) (by omega)
      have hlt : (j : Int) < ((ds.map conv).length : Int) := by rw [List.length_map]; omega
      rw [List.range'_succ, List.all_cons]
      refine Ev.step (fun k => by rw [flagstoneref11_Fair.l0]) ?_
      refine Ev.pos hlt (Ev.pos (by omega) ?_)
      rw [rd_conv]
      have rest : ∀ b : Bool, b = (decide (0 ≤ (rd_T44 ds (j : Int)).f5) && decide ((rd_T44 ds (j : Int)).f5 ≤ 2)) → Ev (fun k => flagstoneref11_Fair.j1 k (j : Int) (!b) (ds.map conv) fs) (fairAt ds (rd_T44 ds (j : Int)) && (List.range' (j + 1) d).all fun (i : Nat) => fairAt ds (rd_T44 ds (i : Int))) := by
        intro b hb
        have hw : wrap64 ((j : Int) + 1) = ((j + 1 : Nat) : Int) := by rw [wrap_small (by omega) (by omega)]; omega
        refine Ev.step (fun k => by rw [flagstoneref11_Fair.j1]) ?_
        cases b
        · have e : fairAt ds (rd_T44 ds (j : Int)) = false := by simp only [fairAt, ← hb, Bool.false_and]
          rw [e, Bool.false_and]
          exact Ev.pos rfl (Ev.now _)
        · refine Ev.neg (by decide) (Ev.pos (by omega) (Ev.pos hlt ?_))
          rw [rd_conv]
          refine Ev.bind (holders_ev ds fs _ hn) ?_
          show Ev (fun n => if (holdersOf ds (rd_T44 ds (j : Int)).f0 2 : Int) > 1 then some false else if (holdersOf ds (rd_T44 ds (j : Int)).f0 2 : Int) = 1 then if (holdersOf ds (rd_T44 ds (j : Int)).f0 1 : Int) > 0 then some false else flagstoneref11_Fair.l0 n (wrap64 ((j : Int) + 1)) (ds.map conv) fs else flagstoneref11_Fair.l0 n (wrap64 ((j : Int) + 1)) (ds.map conv) fs) _
          unfold fairAt
          rw [← hb, Bool.true_and, hw]
          by_cases c1 : (holdersOf ds (rd_T44 ds (j : Int)).f0 2 : Int) > 1
          · rw [decide_eq_false (show ¬ holdersOf ds (rd_T44 ds (j : Int)).f0 2 ≤ 1 by omega), Bool.false_and, Bool.false_and]
            exact Ev.pos c1 (Ev.now _)
          · rw [decide_eq_true (show holdersOf ds (rd_T44 ds (j : Int)).f0 2 ≤ 1 by omega), Bool.true_and]
            refine Ev.neg c1 ?_
            by_cases c2 : (holdersOf ds (rd_T44 ds (j : Int)).f0 2 : Int) = 1
            · refine Ev.pos c2 ?_
              rw [decide_eq_false (show ¬ holdersOf ds (rd_T44 ds (j : Int)).f0 2 ≠ 1 by omega), Bool.false_or]
              by_cases c3 : (holdersOf ds (rd_T44 ds (j : Int)).f0 1 : Int) > 0
              · rw [decide_eq_false (show ¬ holdersOf ds (rd_T44 ds (j : Int)).f0 1 = 0 by omega), Bool.false_and]
                exact Ev.pos c3 (Ev.now _)
              · rw [decide_eq_true (show holdersOf ds (rd_T44 ds (j : Int)).f0 1 = 0 by omega), Bool.true_and]
                exact Ev.neg c3 h
            · rw [decide_eq_true (show holdersOf ds (rd_T44 ds (j : Int)).f0 2 ≠ 1 by omega), Bool.true_or, Bool.true_and]
              exact Ev.neg c2 h
      by_cases c1 : (rd_T44 ds (j : Int)).f5 < 0
      · refine Ev.pos c1 (rest false ?_)
        rw [decide_eq_false (show ¬ 0 ≤ (rd_T44 ds (j : Int)).f5 by omega), Bool.false_and]
      · refine Ev.neg c1 ?_
        have e : (decide ((conv (rd_T44 ds (j : Int))).f5 > 2)) = !(decide ((rd_T44 ds (j : Int)).f5 ≤ 2)) := by
          show decide ((rd_T44 ds (j : Int)).f5 > 2) = _
          by_cases c : (rd_T44 ds (j : Int)).f5 ≤ 2
          · rw [decide_eq_true c, decide_eq_false (by omega)]; rfl
          · rw [decide_eq_false c, decide_eq_true (by omega)]; rfl
        rw [e]
        refine rest _ ?_
        rw [decide_eq_true (show 0 ≤ (rd_T44 ds (j : Int)).f5 by omega), Bool.true_and]
  have h := key ds.length 0 (by omega) (by omega)
  rw [← List.range_eq_range'] at h
  exact h

theorem flockFair_ev (ds : List S44) (fs : List (List Int)) (hn : ds.length < 1000000) : Ev (fun k => flock_Fair.f k ds fs) (fairB ds) := by
  have key : ∀ d j : Nat, j ≤ ds.length → ds.length - j = d → Ev (fun k => flock_Fair.l0 k ds (ds.length : Int) (j : Int) ds fs) ((List.range' j d).all fun (i : Nat) => fairAt ds (rd_T44 ds (i : Int))) := by
    intro d
    induction d with
    | zero =>
      intro j hj hd
      refine Ev.step (fun k => by rw [flock_Fair.l0]) ?_
      exact Ev.neg (by omega) (Ev.now _)
    | succ d ih =>
      intro j hj hd
      have h := ih (j + 1) (by omega) (by omega)
      have hw : wrap64 ((j : Int) + 1) = ((j + 1 : Nat) : Int) := by rw [wrap_small (by omega) (by omega)]; omega
      rw [List.range'_succ, List.all_cons]
      refine Ev.step (fun k => by rw [flock_Fair.l0]) ?_
      refine Ev.pos (by omega) (Ev.pos (by omega) (Ev.pos (by omega) ?_))
      unfold flock_Holders.f
      show Ev (fun n => if (rd_T44 ds (j : Int)).f5 < 0 then some false else if (rd_T44 ds (j : Int)).f5 > 2 then some false else if (holdersOf ds (rd_T44 ds (j : Int)).f0 2 : Int) > 1 then some false else if (holdersOf ds (rd_T44 ds (j : Int)).f0 2 : Int) = 1 then if (holdersOf ds (rd_T44 ds (j : Int)).f0 1 : Int) > 0 then some false else flock_Fair.l0 n ds (ds.length : Int) (wrap64 ((j : Int) + 1)) ds fs else flock_Fair.l0 n ds (ds.length : Int) (wrap64 ((j : Int) + 1)) ds fs) _
      unfold fairAt
      rw [hw]
      by_cases c1 : (rd_T44 ds (j : Int)).f5 < 0
      · rw [decide_eq_false (show ¬ 0 ≤ (rd_T44 ds (j : Int)).f5 by omega), Bool.false_and, Bool.false_and, Bool.false_and, Bool.false_and]
        exact Ev.pos c1 (Ev.now _)
      · refine Ev.neg c1 ?_
        rw [decide_eq_true (show 0 ≤ (rd_T44 ds (j : Int)).f5 by omega), Bool.true_and]
        by_cases c2 : (rd_T44 ds (j : Int)).f5 > 2
        · rw [decide_eq_false (show ¬ (rd_T44 ds (j : Int)).f5 ≤ 2 by omega), Bool.false_and, Bool.false_and, Bool.false_and]
          exact Ev.pos c2 (Ev.now _)
        · refine Ev.neg c2 ?_
          rw [decide_eq_true (show (rd_T44 ds (j : Int)).f5 ≤ 2 by omega), Bool.true_and]
          by_cases c1 : (holdersOf ds (rd_T44 ds (j : Int)).f0 2 : Int) > 1
          · rw [decide_eq_false (show ¬ holdersOf ds (rd_T44 ds (j : Int)).f0 2 ≤ 1 by omega), Bool.false_and, Bool.false_and]
            exact Ev.pos c1 (Ev.now _)
          · rw [decide_eq_true (show holdersOf ds (rd_T44 ds (j : Int)).f0 2 ≤ 1 by omega), Bool.true_and]
            refine Ev.neg c1 ?_
            by_cases c2 : (holdersOf ds (rd_T44 ds (j : Int)).f0 2 : Int) = 1
            · refine Ev.pos c2 ?_
              rw [decide_eq_false (show ¬ holdersOf ds (rd_T44 ds (j : Int)).f0 2 ≠ 1 by omega), Bool.false_or]
              by_cases c3 : (holdersOf ds (rd_T44 ds (j : Int)).f0 1 : Int) > 0
              · rw [decide_eq_false (show ¬ holdersOf ds (rd_T44 ds (j : Int)).f0 1 = 0 by omega), Bool.false_and]
                exact Ev.pos c3 (Ev.now _)
              · rw [decide_eq_true (show holdersOf ds (rd_T44 ds (j : Int)).f0 1 = 0 by omega), Bool.true_and]
                exact Ev.neg c3 h
            · rw [decide_eq_true (show holdersOf ds (rd_T44 ds (j : Int)).f0 2 ≠ 1 by omega), Bool.true_or, Bool.true_and]
              exact Ev.neg c2 h
  have h := key ds.length 0 (by omega) (by omega)
  rw [← List.range_eq_range'] at h
  exact h
end Go.Proofs.Ytbfjakhloabhmaa.P
