/- Plain laws of layer 10: the program's own Right answers what the document's does, for any table; New does; no program in sight. -/
import Derived.Test.YtkecfdljodiifaaQa
import Derived.Test.YtkecfdljodiifaaPhandleRight
import Derived.Test.YtkecfdljodiifaaPhandleNew
namespace Go.Proofs.Ytkecfdljodiifaa.P
open Go.RowKit Go.Proofs.YtkecfdljodiifaaW.PrintWords Go.Proofs.YtkecfdljodiifaaW.PrintLast Go.Proofs.YtkecfdljodiifaaW.PrintMore

theorem hr2_ev (ds : List S38) (l : List Int) (hn : ds.length < 1000000) : ∀ d i : Nat, i ≤ ds.length → ds.length - i = d →
    Ev (fun k => handle_Right.l2 k (refs l ds.length) ds (ds.length : Int) (i : Int)) ((List.range' i d).all fun (i : Nat) => descOk (l.count (i : Int)) (rd_T38 ds (i : Int))) := by
  intro d
  induction d with
  | zero =>
    intro i hi hd
    refine Ev.step (fun k => by rw [handle_Right.l2]) ?_
    refine Ev.neg (by omega) ?_
    exact Ev.now _
  | succ d ih =>
    intro i hi hd
    have h := ih (i + 1) (by omega) (by omega)
    refine Ev.step (fun k => by rw [handle_Right.l2]) ?_
    refine Ev.pos (by omega) (Ev.pos (by omega) (Ev.pos (by omega) (Ev.pos (by rw [refs_length]; omega) ?_)))
    rw [rd_refs l _ _ (by omega) (by omega), wrap_one (by omega) (by omega)]
    rw [List.range'_succ, List.all_cons]
    by_cases c1 : (rd_T38 ds (i : Int)).f4 = (l.count (i : Int) : Int)
    · refine Ev.pos c1 ?_
      by_cases c2 : (rd_T38 ds (i : Int)).f4 = 0
      · refine Ev.pos c2 ?_
        by_cases c3 : isZero (rd_T38 ds (i : Int)) = true
        · refine Ev.neg ?_ ?_
          · simp only [isZero, Bool.and_eq_true, beq_iff_eq, Bool.not_eq_true'] at c3
            simp [c3]
          · have : descOk (l.count (i : Int)) (rd_T38 ds (i : Int)) = true := by simp [descOk, c1, c3]
            rw [this, Bool.true_and]
            exact h
        · refine Ev.pos ?_ ?_
          · simp only [isZero, Bool.and_eq_true, beq_iff_eq, Bool.not_eq_true'] at c3
            simp only [Bool.or_eq_true, Bool.not_eq_true', beq_eq_false_iff_ne, ne_eq]
            rcases Classical.em ((rd_T38 ds (i : Int)).f0 = 0) with a | a
            · rcases Classical.em ((rd_T38 ds (i : Int)).f1 = 0) with b | b
              · cases e2 : (rd_T38 ds (i : Int)).f2 <;> cases e3 : (rd_T38 ds (i : Int)).f3 <;> simp_all
              · simp [b]
            · simp [a]
          · have : descOk (l.count (i : Int)) (rd_T38 ds (i : Int)) = false := by
              have c2' : l.count (i : Int) = 0 := by omega
              simp [descOk, c3, c2']
            rw [this, Bool.false_and]
            exact Ev.now _
      · refine Ev.neg c2 ?_
        have : descOk (l.count (i : Int)) (rd_T38 ds (i : Int)) = true := by
          have c2' : ¬ l.count (i : Int) = 0 := by omega
          simp [descOk, c1, c2']
        rw [this, Bool.true_and]
        exact h
    · refine Ev.neg c1 ?_
      have : descOk (l.count (i : Int)) (rd_T38 ds (i : Int)) = false := by simp [descOk, c1]
      rw [this, Bool.false_and]
      exact Ev.now _

set_option maxHeartbeats 2000000 in
theorem hr1_ev (ds : List S38) (fs : List (List Int)) (p : Nat) (row : List Int) (h8 : row.length = 8) (hn : ds.length < 1000000) (r : Bool) : ∀ d j : Nat, j ≤ 8 → 8 - j = d → ∀ l : List Int, l.length ≤ p * 8 + j →
    (rowOk ds.length (row.drop j) = true → Ev (fun k => handle_Right.l0 k (refs (l ++ row.drop j) ds.length) fs (fs.length : Int) ((p : Int) + 1) ds fs) r) → (rowOk ds.length (row.drop j) = false → r = false) → p < 1000000 →
    Ev (fun k => handle_Right.l1 k (refs l ds.length) fs (fs.length : Int) (p : Int) row (row.length : Int) (j : Int) ds fs) r := by
  intro d
  induction d with
  | zero =>
    intro j hj hd l hl h1 h2 hp2
    have e : row.drop j = [] := List.drop_eq_nil_of_le (by omega)
    rw [e] at h1
    refine Ev.step (fun k => by rw [handle_Right.l1]) ?_
    refine Ev.neg (by omega) ?_
    rw [wrap_one (by omega) (by omega)]
    simpa using h1 rfl
  | succ d ih =>
    intro j hj hd l hl h1 h2 hp2
    have hjl : j < row.length := by omega
    have e : row.drop j = rd row (j : Int) :: row.drop (j + 1) := by
      rw [List.drop_eq_getElem_cons hjl]
      simp [rd, hjl]
    refine Ev.step (fun k => by rw [handle_Right.l1]) ?_
    refine Ev.pos (by omega) (Ev.pos (by omega) (Ev.pos (by omega) ?_))
    rw [e] at h1 h2
    simp only [rowOk, List.all_cons] at h1 h2
    have next : ∀ m : List Int, m.length = l.length + 1 → m = l ++ [rd row (j : Int)] → decide (-1 ≤ rd row (j : Int)) = true → decide (rd row (j : Int) < (ds.length : Int)) = true → Ev (fun k => handle_Right.l1 k (refs m ds.length) fs (fs.length : Int) (p : Int) row (row.length : Int) ((j + 1 : Nat) : Int) ds fs) r := by
      intro m hm em a b
      refine ih (j + 1) (by omega) (by omega) m (by omega) (fun hr => ?_) (fun hr => ?_) hp2
      · have := h1 (by rw [a, b]; simpa [rowOk] using hr)
        rw [em, List.append_assoc]
        exact this
      · refine h2 ?_
        have : (row.drop (j + 1)).all (fun i => decide (-1 ≤ i) && decide (i < (ds.length : Int))) = false := hr
        rw [this, Bool.and_false]
    by_cases c1 : rd row (j : Int) < -1
    · refine Ev.pos c1 ?_
      have : decide (-1 ≤ rd row (j : Int)) = false := decide_eq_false (by omega)
      have hr := h2 (by rw [this]; simp)
      rw [hr]
      refine Ev.step (fun k => by rw [handle_Right.j2]) ?_
      refine Ev.pos rfl (Ev.now _)
    · refine Ev.neg c1 ?_
      have a : decide (-1 ≤ rd row (j : Int)) = true := decide_eq_true (by omega)
      by_cases c2 : rd row (j : Int) ≥ ((refs l ds.length).length : Int)
      · rw [decide_eq_true c2]
        have : decide (rd row (j : Int) < (ds.length : Int)) = false := decide_eq_false (by rw [refs_length] at c2; omega)
        have hr := h2 (by rw [this]; simp)
        rw [hr]
        refine Ev.step (fun k => by rw [handle_Right.j2]) ?_
        refine Ev.pos rfl (Ev.now _)
      · rw [decide_eq_false c2]
        have c2' : rd row (j : Int) < (ds.length : Int) := by rw [refs_length] at c2; omega
        have b : decide (rd row (j : Int) < (ds.length : Int)) = true := decide_eq_true c2'
        refine Ev.step (fun k => by rw [handle_Right.j2]) ?_
        refine Ev.neg (by decide) ?_
        have w1 : wrap64 ((j : Int) + 1) = ((j + 1 : Nat) : Int) := by rw [wrap_one (by omega) (by omega)]; omega
        by_cases c3 : rd row (j : Int) = -1
        · refine Ev.pos c3 ?_
          rw [w1, ← refs_skip l ds.length (rd row (j : Int)) (by omega)]
          exact next _ (by simp) rfl a b
        · have c5 : 0 ≤ rd row (j : Int) := by omega
          have c4 : rd row (j : Int) < ((refs l ds.length).length : Int) := by rw [refs_length]; exact c2'
          have hll : l.length < 4611686018427387904 := Nat.lt_of_lt_of_le (show l.length < 8000100 by clear h1 h2 ih next w1 c1 c2 a b c2' c3 c4 c5 e hn; omega) (by decide)
          have e9 := refs_inc l _ _ c5 c2' hll
          have nx := next (l ++ [rd row (j : Int)]) (by simp) rfl a b
          clear h1 h2 ih next
          refine Ev.neg c3 (Ev.pos c5 (Ev.pos c4 ?_))
          rw [e9, w1]
          exact nx

set_option maxHeartbeats 2000000 in
theorem hr0_ev (ds : List S38) (fs : List (List Int)) (hn : ds.length < 1000000) (hf : fs.length < 1000000) : ∀ d p : Nat, p ≤ fs.length → fs.length - p = d → ∀ l : List Int, l.length ≤ p * 8 →
    Ev (fun k => handle_Right.l0 k (refs l ds.length) fs (fs.length : Int) (p : Int) ds fs) (rowsOk ds.length (fs.drop p) && descsOk (l ++ (fs.drop p).flatten) ds) := by
  intro d
  induction d with
  | zero =>
    intro p hp hd l hl
    have e : fs.drop p = [] := List.drop_eq_nil_of_le (by omega)
    rw [e]
    refine Ev.step (fun k => by rw [handle_Right.l0]) ?_
    refine Ev.neg (by omega) ?_
    have h := hr2_ev ds l hn ds.length 0 (by omega) (by omega)
    simpa [rowsOk, descsOk, List.range_eq_range'] using h
  | succ d ih =>
    intro p hp hd l hl
    have hpl : p < fs.length := by omega
    have e : fs.drop p = rd_L1 fs (p : Int) :: fs.drop (p + 1) := by
      rw [List.drop_eq_getElem_cons hpl]
      simp [rd_L1, hpl]
    refine Ev.step (fun k => by rw [handle_Right.l0]) ?_
    refine Ev.pos (by omega) (Ev.pos (by omega) (Ev.pos (by omega) ?_))
    generalize rd_L1 fs (p : Int) = row at e ⊢
    rw [e]
    simp only [rowsOk, List.all_cons, List.flatten_cons]
    by_cases c : (row.length : Int) = 8
    · have h8 : row.length = 8 := by omega
      refine Ev.pos c ?_
      refine hr1_ev ds fs p row h8 hn _ 8 0 (by omega) (by omega) l (by omega) (fun hr => ?_) (fun hr => ?_) (by omega)
      · rw [List.drop_zero] at hr ⊢
        have h := ih (p + 1) (by omega) (by omega) (l ++ row) (by rw [List.length_append]; omega)
        rw [hr, decide_eq_true h8, Bool.and_self, Bool.true_and, ← List.append_assoc]
        exact h
      · rw [List.drop_zero] at hr
        rw [hr, Bool.and_false, Bool.false_and, Bool.false_and]
    · refine Ev.neg c ?_
      have h8 : ¬ row.length = 8 := by omega
      rw [decide_eq_false h8, Bool.false_and, Bool.false_and, Bool.false_and]
      exact Ev.now _
theorem hright_ev (ds : List S38) (fs : List (List Int)) (hn : ds.length < 1000000) (hf : fs.length < 1000000) : Ev (fun k => handle_Right.f k ds fs) (rightB ds fs) := by
  refine Ev.congr (fun k => by rw [handle_Right.f]) ?_
  refine Ev.pos (by omega) (Ev.pos (by rw [Int.toNat_natCast]; exact Nat.le_of_lt (Nat.lt_trans hn (by decide))) ?_)
  rw [Int.toNat_natCast, ← refs_nil]
  simpa [rightB] using hr0_ev ds fs hn hf fs.length 0 (by omega) (by omega) [] (by simp)

/-! New -/
def newR (n : Int) : List (List Int) := if n > 8 then [] else List.replicate n.toNat (List.replicate 8 (-1))
theorem new_ev (n : Int) : Ev (fun k => handle_New.f k n) ([], newR n) := by
  refine Ev.congr (fun k => by rw [handle_New.f]) ?_
  by_cases c : n > 8
  · have e : newR n = [] := if_pos c
    rw [e]
    exact Ev.pos c (Ev.now _)
  · have e : newR n = List.replicate n.toNat (List.replicate 8 (-1)) := if_neg c
    rw [e]
    refine Ev.neg c ?_
    have key : ∀ d j : Nat, j ≤ n.toNat → n.toNat - j = d → Ev (fun k => handle_New.l0 k (mx n 0) (j : Int) (List.replicate j (List.replicate 8 (-1)))) ([], List.replicate n.toNat (List.replicate 8 (-1))) := by
      intro d
      induction d with
      | zero =>
        intro j hj hd
        obtain rfl : j = n.toNat := by omega
        refine Ev.step (fun k => by rw [handle_New.l0]) ?_
        exact Ev.neg (by unfold mx; omega) (Ev.now _)
      | succ d ih =>
        intro j hj hd
        refine Ev.step (fun k => by rw [handle_New.l0]) ?_
        refine Ev.pos (by unfold mx; omega) ?_
        rw [show slices_Repeat_int_int.f [-1] 8 = some (List.replicate 8 (-1)) from rfl]
        refine Ev.bind (Ev.now _) (Ev.pos (by rw [List.length_replicate]; omega) ?_)
        rw [wrap_one (by omega) (by omega)]
        have h := ih (j + 1) (by omega) (by omega)
        rw [List.replicate_succ' (n := j)] at h
        exact h
    exact key _ 0 (by omega) rfl
end Go.Proofs.Ytkecfdljodiifaa.P
