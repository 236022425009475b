/- Plain laws of the references of layer 10: what they answer as plain functions of lists; no program in sight. -/
import Derived.Test.YtkecfdljodiifaaPlaw10fine
import Derived.Test.YtkecfdljodiifaaPref10Same
namespace Go.Proofs.Ytkecfdljodiifaa.P
open Go.RowKit Go.Proofs.YtkecfdljodiifaaW.PrintWords Go.Proofs.YtkecfdljodiifaaW.PrintLast Go.Proofs.YtkecfdljodiifaaW.PrintMore

theorem Ev.pos {α : Type} {c : Prop} [Decidable c] {a b : Nat → Option α} {r : α} (h : c) (k : Ev a r) : Ev (fun n => if c then a n else b n) r := Ev.congr (fun _ => if_pos h) k
theorem Ev.neg {α : Type} {c : Prop} [Decidable c] {a b : Nat → Option α} {r : α} (h : ¬ c) (k : Ev b r) : Ev (fun n => if c then a n else b n) r := Ev.congr (fun _ => if_neg h) k
theorem wrap_one {i : Int} (h0 : 0 ≤ i) (h1 : i < 4611686018427387904) : wrap64 (i + 1) = i + 1 := by
  unfold wrap64
  omega

def conv (x : S38) : S54 := ⟨x.f0, x.f1, x.f2, x.f3, x.f4, x.f5⟩
theorem rd_conv (l : List S38) (i : Int) : rd_T54 (l.map conv) i = conv (rd_T38 l i) := by
  have : z54 = conv z38 := rfl
  simp only [rd_T54, rd_T38, this, List.getD_eq_getElem?_getD, List.getElem?_map]
  cases l[i.toNat]? <;> rfl

theorem its_ev (l0 : List S38) (l1 : List (List Int)) (hn : l0.length < 3518437208883) : Ev (fun k => flagstonelaw10_its.f k l0 l1) (l0.map conv, l1) := by
  have key : ∀ d j : Nat, j ≤ l0.length → l0.length - j = d → Ev (fun k => flagstonelaw10_its.l0 k ((l0.take j).map conv) (j : Int) l0 l1) (l0.map conv, l1) := by
    intro d
    induction d with
    | zero =>
      intro j hj hd
      refine Ev.step (fun k => by rw [flagstonelaw10_its.l0]) ?_
      refine Ev.neg (by omega) ?_
      rw [List.take_of_length_le (by omega)]
      exact Ev.now _
    | succ d ih =>
      intro j hj hd
      refine Ev.step (fun k => by rw [flagstonelaw10_its.l0]) ?_
      refine Ev.pos (by omega) (Ev.pos (by omega) (Ev.pos (by simp; omega) ?_))
      rw [wrap_one (by omega) (by omega)]
      have h := ih (j + 1) (by omega) (by omega)
      have e : (l0.take (j + 1)).map conv = (l0.take j).map conv ++ [conv (rd_T38 l0 (j : Int))] := by
        rw [List.take_succ_eq_append_getElem (by omega), List.map_append]
        simp [rd_T38, show j < l0.length by omega]
      rw [e] at h
      exact h
  exact key _ 0 (by omega) rfl

/-! Right -/
def refs (l : List Int) (n : Nat) : List Int := (List.range n).map fun (i : Nat) => (l.count (i : Int) : Int)
theorem refs_length (l : List Int) (n : Nat) : (refs l n).length = n := by simp [refs]
theorem rd_refs (l : List Int) (n : Nat) (i : Int) (h0 : 0 ≤ i) (h1 : i < (n : Int)) : rd (refs l n) i = (l.count i : Int) := by
  have h : i.toNat < n := by omega
  have e : ((i.toNat : Nat) : Int) = i := Int.toNat_of_nonneg h0
  unfold rd refs
  rw [List.getD_eq_getElem?_getD, List.getElem?_map, List.getElem?_range h]
  show ((l.count ((i.toNat : Nat) : Int) : Nat) : Int) = _
  rw [e]
theorem refs_nil (n : Nat) : refs [] n = List.replicate n 0 := by
  simp [refs, List.map_const']
theorem refs_inc (l : List Int) (n : Nat) (v : Int) (h0 : 0 ≤ v) (h1 : v < (n : Int)) (hl : l.length < 4611686018427387904) :
    (refs l n).set v.toNat (wrap64 (rd (refs l n) v + 1)) = refs (l ++ [v]) n := by
  rw [rd_refs l n v h0 h1]
  have hc : l.count v ≤ l.length := List.count_le_length
  rw [wrap_one (by omega) (by omega)]
  apply List.ext_getElem?
  intro j
  rw [List.getElem?_set]
  simp only [refs_length]
  by_cases hj : j < n
  · by_cases he : v.toNat = j
    · have e : (j : Int) = v := by omega
      simp only [he, if_true, hj, refs, List.getElem?_map, List.getElem?_range hj, Option.map_some, List.count_append, e]
      simp
    · have e : ¬ v = (j : Int) := by omega
      have e2 : ¬ (v == (j : Int)) = true := by simpa using e
      simp only [he, if_false, refs, List.getElem?_map, List.getElem?_range hj, Option.map_some, List.count_append, List.count_singleton, e2]
      simp
  · have h2 : ∀ m : List Int, (refs m n)[j]? = none := fun m => List.getElem?_eq_none (by rw [refs_length]; omega)
    by_cases he : v.toNat = j
    · omega
    · simp [he, h2]
theorem refs_skip (l : List Int) (n : Nat) (v : Int) (h : v < 0) : refs (l ++ [v]) n = refs l n := by
  unfold refs
  apply List.map_congr_left
  intro i _
  rw [List.count_append, List.count_singleton]
  have : ¬ (v == (i : Int)) = true := by simp; omega
  simp [this]

def isZero (x : S38) : Bool := x.f0 == 0 && x.f1 == 0 && !x.f2 && !x.f3 && x.f4 == 0 && x.f5 == 0
def descOk (c : Nat) (x : S38) : Bool := decide (x.f4 = (c : Int)) && (decide (c ≠ 0) || isZero x)
def rowOk (n : Nat) (row : List Int) : Bool := row.all fun i => decide (-1 ≤ i) && decide (i < (n : Int))
def rowsOk (n : Nat) (fs : List (List Int)) : Bool := fs.all fun row => decide (row.length = 8) && rowOk n row
def descsOk (l : List Int) (ds : List S38) : Bool := (List.range ds.length).all fun (i : Nat) => descOk (l.count (i : Int)) (rd_T38 ds (i : Int))
def rightB (ds : List S38) (fs : List (List Int)) : Bool := rowsOk ds.length fs && descsOk fs.flatten ds

theorem l3_ev (ds : List S38) (fs : List (List Int)) (l : List Int) (hn : ds.length < 1000000) : ∀ d i : Nat, i ≤ ds.length → ds.length - i = d →
    Ev (fun k => flagstoneref10_Right.l3 k (refs l ds.length) (i : Int) (ds.map conv) fs) ((List.range' i d).all fun (i : Nat) => descOk (l.count (i : Int)) (rd_T38 ds (i : Int))) := by
  intro d
  induction d with
  | zero =>
    intro i hi hd
    refine Ev.step (fun k => by rw [flagstoneref10_Right.l3]) ?_
    refine Ev.neg (by simp; omega) ?_
    exact Ev.now _
  | succ d ih =>
    intro i hi hd
    have h := ih (i + 1) (by omega) (by omega)
    refine Ev.step (fun k => by rw [flagstoneref10_Right.l3]) ?_
    refine Ev.pos (by simp; omega) (Ev.pos (by omega) (Ev.pos (by rw [refs_length]; omega) ?_))
    rw [rd_refs l _ _ (by omega) (by omega), rd_conv, wrap_one (by omega) (by omega)]
    rw [List.range'_succ, List.all_cons]
    by_cases c1 : (conv (rd_T38 ds (i : Int))).f4 = (l.count (i : Int) : Int)
    · have c1' : (rd_T38 ds (i : Int)).f4 = (l.count (i : Int) : Int) := c1
      refine Ev.pos c1 ?_
      by_cases c2 : (l.count (i : Int) : Int) = 0
      · refine Ev.pos c2 ?_
        by_cases c3 : isZero (rd_T38 ds (i : Int)) = true
        · refine Ev.neg ?_ ?_
          · simp only [isZero, Bool.and_eq_true, beq_iff_eq, Bool.not_eq_true'] at c3
            simp [conv, c3]
          · have : descOk (l.count (i : Int)) (rd_T38 ds (i : Int)) = true := by simp [descOk, c1', c3]
            rw [this, Bool.true_and]
            exact h
        · refine Ev.pos ?_ ?_
          · simp only [isZero, Bool.and_eq_true, beq_iff_eq, Bool.not_eq_true'] at c3
            simp only [conv, Bool.or_eq_true, Bool.not_eq_true', beq_eq_false_iff_ne, ne_eq]
            rcases Classical.em ((rd_T38 ds (i : Int)).f0 = 0) with a | a
            · rcases Classical.em ((rd_T38 ds (i : Int)).f1 = 0) with b | b
              · cases e2 : (rd_T38 ds (i : Int)).f2 <;> cases e3 : (rd_T38 ds (i : Int)).f3 <;> simp_all
              · simp [b]
            · simp [a]
          · have : descOk (l.count (i : Int)) (rd_T38 ds (i : Int)) = false := by
              have c2' : l.count (i : Int) = 0 := by omega
              simp [descOk, c3, c2']
            rw [this, Bool.false_and]
            exact Ev.now _
      · refine Ev.neg c2 ?_
        have : descOk (l.count (i : Int)) (rd_T38 ds (i : Int)) = true := by
          have c2' : ¬ l.count (i : Int) = 0 := by omega
          simp [descOk, c1', c2']
        rw [this, Bool.true_and]
        exact h
    · refine Ev.neg c1 ?_
      have c1' : ¬ (rd_T38 ds (i : Int)).f4 = (l.count (i : Int) : Int) := c1
      have : descOk (l.count (i : Int)) (rd_T38 ds (i : Int)) = false := by simp [descOk, c1']
      rw [this, Bool.false_and]
      exact Ev.now _

set_option maxHeartbeats 2000000 in
theorem l2_ev (ds : List S38) (fs : List (List Int)) (p : Nat) (hp : p < fs.length) (row : List Int) (hrow : rd_L1 fs (p : Int) = row) (h8 : row.length = 8) (hn : ds.length < 1000000) (r : Bool) : ∀ d j : Nat, j ≤ 8 → 8 - j = d → ∀ l : List Int, l.length ≤ p * 8 + j →
    (rowOk ds.length (row.drop j) = true → Ev (fun k => flagstoneref10_Right.l1 k (refs (l ++ row.drop j) ds.length) ((p : Int) + 1) (ds.map conv) fs) r) → (rowOk ds.length (row.drop j) = false → r = false) → p < 1000000 →
    Ev (fun k => flagstoneref10_Right.l2 k (refs l ds.length) (p : Int) (j : Int) (ds.map conv) fs) r := by
  intro d
  induction d with
  | zero =>
    intro j hj hd l hl h1 h2 hp2
    have e : row.drop j = [] := List.drop_eq_nil_of_le (by omega)
    rw [e] at h1
    refine Ev.step (fun k => by rw [flagstoneref10_Right.l2]) ?_
    refine Ev.neg (by omega) ?_
    rw [wrap_one (by omega) (by omega)]
    simpa using h1 rfl
  | succ d ih =>
    intro j hj hd l hl h1 h2 hp2
    have hjl : j < row.length := by omega
    have e : row.drop j = rd row (j : Int) :: row.drop (j + 1) := by
      rw [List.drop_eq_getElem_cons hjl]
      simp [rd, hjl]
    refine Ev.step (fun k => by rw [flagstoneref10_Right.l2]) ?_
    refine Ev.pos (by omega) (Ev.pos (by omega) (Ev.pos (by omega) (Ev.pos (by omega) ?_)))
    rw [hrow]
    refine Ev.pos (by omega) ?_
    rw [e] at h1 h2
    simp only [rowOk, List.all_cons] at h1 h2
    have next : ∀ m : List Int, m.length = l.length + 1 → m = l ++ [rd row (j : Int)] → decide (-1 ≤ rd row (j : Int)) = true → decide (rd row (j : Int) < (ds.length : Int)) = true → Ev (fun k => flagstoneref10_Right.l2 k (refs m ds.length) (p : Int) ((j + 1 : Nat) : Int) (ds.map conv) fs) r := by
      intro m hm em a b
      refine ih (j + 1) (by omega) (by omega) m (by omega) (fun hr => ?_) (fun hr => ?_) hp2
      · have := h1 (by rw [a, b]; simpa [rowOk] using hr)
        rw [em, List.append_assoc]
        exact this
      · refine h2 ?_
        have : (row.drop (j + 1)).all (fun i => decide (-1 ≤ i) && decide (i < (ds.length : Int))) = false := hr
        rw [this, Bool.and_false]
    by_cases c1 : rd row (j : Int) < -1
    · refine Ev.pos c1 ?_
      have : decide (-1 ≤ rd row (j : Int)) = false := decide_eq_false (by omega)
      have hr := h2 (by rw [this]; simp)
      rw [hr]
      refine Ev.step (fun k => by rw [flagstoneref10_Right.j3]) ?_
      refine Ev.pos rfl (Ev.now _)
    · refine Ev.neg c1 ?_
      have a : decide (-1 ≤ rd row (j : Int)) = true := decide_eq_true (by omega)
      by_cases c2 : rd row (j : Int) ≥ ((ds.map conv).length : Int)
      · rw [decide_eq_true c2]
        have : decide (rd row (j : Int) < (ds.length : Int)) = false := decide_eq_false (by simpa using c2)
        have hr := h2 (by rw [this]; simp)
        rw [hr]
        refine Ev.step (fun k => by rw [flagstoneref10_Right.j3]) ?_
        refine Ev.pos rfl (Ev.now _)
      · rw [decide_eq_false c2]
        have c2' : rd row (j : Int) < (ds.length : Int) := by simpa using c2
        have b : decide (rd row (j : Int) < (ds.length : Int)) = true := decide_eq_true c2'
        refine Ev.step (fun k => by rw [flagstoneref10_Right.j3]) ?_
        refine Ev.neg (by decide) ?_
        have w1 : wrap64 ((j : Int) + 1) = ((j + 1 : Nat) : Int) := by rw [wrap_one (by omega) (by omega)]; omega
        by_cases c3 : rd row (j : Int) ≥ 0
        · have c4 : rd row (j : Int) < ((refs l ds.length).length : Int) := by rw [refs_length]; exact c2'
          have hll : l.length < 4611686018427387904 := Nat.lt_of_lt_of_le (show l.length < 8000100 by clear h1 h2 ih next w1 c1 c2 a b c2' c3 c4 hrow e hn; omega) (by decide)
          have e9 := refs_inc l _ _ c3 c2' hll
          have nx := next (l ++ [rd row (j : Int)]) (by simp) rfl a b
          clear h1 h2 ih next
          refine Ev.pos c3 (Ev.pos c3 (Ev.pos c4 ?_))
          rw [e9, w1]
          exact nx
        · refine Ev.neg c3 ?_
          rw [w1, ← refs_skip l ds.length (rd row (j : Int)) (by omega)]
          exact next _ (by simp) rfl a b

set_option maxHeartbeats 2000000 in
theorem l1_ev (ds : List S38) (fs : List (List Int)) (hn : ds.length < 1000000) (hf : fs.length < 1000000) : ∀ d p : Nat, p ≤ fs.length → fs.length - p = d → ∀ l : List Int, l.length ≤ p * 8 →
    Ev (fun k => flagstoneref10_Right.l1 k (refs l ds.length) (p : Int) (ds.map conv) fs) (rowsOk ds.length (fs.drop p) && descsOk (l ++ (fs.drop p).flatten) ds) := by
  intro d
  induction d with
  | zero =>
    intro p hp hd l hl
    have e : fs.drop p = [] := List.drop_eq_nil_of_le (by omega)
    rw [e]
    refine Ev.step (fun k => by rw [flagstoneref10_Right.l1]) ?_
    refine Ev.neg (by omega) ?_
    have h := l3_ev ds fs l hn ds.length 0 (by omega) (by omega)
    simpa [rowsOk, descsOk, List.range_eq_range'] using h
  | succ d ih =>
    intro p hp hd l hl
    have hpl : p < fs.length := by omega
    have e : fs.drop p = rd_L1 fs (p : Int) :: fs.drop (p + 1) := by
      rw [List.drop_eq_getElem_cons hpl]
      simp [rd_L1, hpl]
    refine Ev.step (fun k => by rw [flagstoneref10_Right.l1]) ?_
    refine Ev.pos (by omega) (Ev.pos (by omega) ?_)
    generalize hrow : rd_L1 fs (p : Int) = row at e ⊢
    rw [e]
    simp only [rowsOk, List.all_cons, List.flatten_cons]
    by_cases c : (row.length : Int) = 8
    · have h8 : row.length = 8 := by omega
      refine Ev.pos c ?_
      refine l2_ev ds fs p hpl row hrow h8 hn _ 8 0 (by omega) (by omega) l (by omega) (fun hr => ?_) (fun hr => ?_) (by omega)
      · rw [List.drop_zero] at hr ⊢
        have h := ih (p + 1) (by omega) (by omega) (l ++ row) (by rw [List.length_append]; omega)
        rw [hr, decide_eq_true h8, Bool.and_self, Bool.true_and, ← List.append_assoc]
        exact h
      · rw [List.drop_zero] at hr
        rw [hr, Bool.and_false, Bool.false_and, Bool.false_and]
    · refine Ev.neg c ?_
      have h8 : ¬ row.length = 8 := by omega
      rw [decide_eq_false h8, Bool.false_and, Bool.false_and, Bool.false_and]
      exact Ev.now _

theorem right_ev (ds : List S38) (fs : List (List Int)) (hn : ds.length < 1000000) (hf : fs.length < 1000000) : Ev (fun k => flagstoneref10_Right.f k (ds.map conv) fs) (rightB ds fs) := by
  have key : ∀ d j : Nat, j ≤ ds.length → ds.length - j = d → Ev (fun k => flagstoneref10_Right.l0 k (List.replicate j 0) (j : Int) (ds.map conv) fs) (rightB ds fs) := by
    intro d
    induction d with
    | zero =>
      intro j hj hd
      obtain rfl : j = ds.length := by omega
      refine Ev.step (fun k => by rw [flagstoneref10_Right.l0]) ?_
      refine Ev.neg (by simp) ?_
      rw [← refs_nil]
      simpa [rightB] using l1_ev ds fs hn hf fs.length 0 (by omega) (by omega) [] (by simp)
    | succ d ih =>
      intro j hj hd
      refine Ev.step (fun k => by rw [flagstoneref10_Right.l0]) ?_
      refine Ev.pos (by simp; omega) (Ev.pos (by simp; omega) ?_)
      rw [wrap_one (by omega) (by omega)]
      have h := ih (j + 1) (by omega) (by omega)
      rw [List.replicate_succ'] at h
      exact h
  exact key _ 0 (by omega) rfl
theorem wrap_small {i : Int} (h0 : 0 ≤ i) (h1 : i < 1000000) : wrap64 (i + 1) = i + 1 := wrap_one h0 (Int.lt_trans h1 (by decide))
def fineB (ds : List S38) (fs : List (List Int)) : Bool := decide (ds.length ≤ 100) && decide (fs.length ≤ 20) && rightB ds fs
def smallB (ds : List S38) (fs : List (List Int)) : Bool := decide (ds.length ≤ 100) && decide (fs.length ≤ 20) && fs.all fun row => decide (row.length ≤ 20)
theorem small_ev (ds : List S38) (fs : List (List Int)) : Ev (fun k => flagstonelaw10_small.f k ds fs) (smallB ds fs) := by
  have last : ((∀ i : Nat, i < fs.length → i < 20 → (rd_L1 fs (i : Int)).length ≤ 20)) → Ev (fun _ : Nat => if (ds.length : Int) ≤ 100 then (some (decide ((fs.length : Int) ≤ 20))) else (some false)) (smallB ds fs) := by
    intro hrows
    by_cases c1 : ds.length ≤ 100
    · refine Ev.pos (by omega) ?_
      have e : smallB ds fs = decide ((fs.length : Int) ≤ 20) := by
        by_cases c2 : fs.length ≤ 20
        · have hall : (fs.all fun row => decide (row.length ≤ 20)) = true := by
            refine List.all_eq_true.2 fun row hm => ?_
            obtain ⟨i, hi, rfl⟩ := List.getElem_of_mem hm
            have h := hrows i hi (by omega)
            have e : rd_L1 fs (i : Int) = fs[i] := by simp [rd_L1, hi]
            rw [e] at h
            exact decide_eq_true h
          rw [decide_eq_true (by omega : (fs.length : Int) ≤ 20)]
          simp [smallB, c1, c2, hall]
        · rw [decide_eq_false (by omega : ¬ (fs.length : Int) ≤ 20)]
          simp [smallB, c2]
      rw [e]
      exact Ev.now _
    · refine Ev.neg (by omega) ?_
      have e : smallB ds fs = false := by simp [smallB, c1]
      rw [e]
      exact Ev.now _
  have key : ∀ d j : Nat, j ≤ 20 → 20 - j = d → (∀ i : Nat, i < j → i < fs.length → (rd_L1 fs (i : Int)).length ≤ 20) → Ev (fun k => flagstonelaw10_small.l0 k (j : Int) ds fs) (smallB ds fs) := by
    intro d
    induction d with
    | zero =>
      intro j hj hd hrows
      refine Ev.step (fun k => by rw [flagstonelaw10_small.l0]) ?_
      by_cases c : (j : Int) < (fs.length : Int)
      · refine Ev.pos c ?_
        rw [decide_eq_false (show ¬ (j : Int) < 20 by omega)]
        refine Ev.step (fun k => by rw [flagstonelaw10_small.j1]) ?_
        exact Ev.neg (by decide) (last fun i h1 h2 => hrows i (by omega) h1)
      · refine Ev.neg c ?_
        refine Ev.step (fun k => by rw [flagstonelaw10_small.j1]) ?_
        exact Ev.neg (by decide) (last fun i h1 h2 => hrows i (by omega) h1)
    | succ d ih =>
      intro j hj hd hrows
      refine Ev.step (fun k => by rw [flagstonelaw10_small.l0]) ?_
      by_cases c : (j : Int) < (fs.length : Int)
      · refine Ev.pos c ?_
        rw [decide_eq_true (show (j : Int) < 20 by omega)]
        refine Ev.step (fun k => by rw [flagstonelaw10_small.j1]) ?_
        refine Ev.pos rfl (Ev.pos (by omega) (Ev.pos c ?_))
        by_cases c2 : ((rd_L1 fs (j : Int)).length : Int) > 20
        · refine Ev.pos c2 ?_
          have hm : rd_L1 fs (j : Int) ∈ fs := by
            have h : j < fs.length := by omega
            have : rd_L1 fs (j : Int) = fs[j] := by simp [rd_L1, h]
            rw [this]
            exact List.getElem_mem h
          have e : (fs.all fun row => decide (row.length ≤ 20)) = false := by
            cases h : fs.all fun row => decide (row.length ≤ 20)
            · rfl
            · have h8 := of_decide_eq_true ((List.all_eq_true.1 h) _ hm)
              omega
          have e : smallB ds fs = false := by unfold smallB; rw [e, Bool.and_false]
          rw [e]
          exact Ev.now _
        · refine Ev.neg c2 ?_
          rw [wrap_small (by omega) (by omega)]
          refine ih (j + 1) (by omega) (by omega) fun i h1 h2 => ?_
          by_cases e : i = j
          · subst e
            omega
          · exact hrows i (by omega) h2
      · refine Ev.neg c ?_
        refine Ev.step (fun k => by rw [flagstonelaw10_small.j1]) ?_
        exact Ev.neg (by decide) (last fun i h1 h2 => hrows i (by omega) h1)
  exact key 20 0 (by omega) rfl (fun i h => absurd h (Nat.not_lt_zero i))
theorem fine_small (ds : List S38) (fs : List (List Int)) : fineB ds fs = (smallB ds fs && rightB ds fs) := by
  cases h : rightB ds fs
  · simp [fineB, h]
  · have hr : rowsOk ds.length fs = true := by
      unfold rightB at h
      exact ((Bool.and_eq_true _ _).mp h).1
    have hall : (fs.all fun row => decide (row.length ≤ 20)) = true := by
      refine List.all_eq_true.2 fun row hm => ?_
      have h8 := (List.all_eq_true.1 hr) _ hm
      simp only [Bool.and_eq_true, decide_eq_true_eq] at h8
      exact decide_eq_true (by omega)
    simp [fineB, smallB, h, hall]
theorem fine_ev (ds : List S38) (fs : List (List Int)) : Ev (fun k => flagstonelaw10_fine.f k ds fs) (fineB ds fs) := by
  refine Ev.congr (fun k => by rw [flagstonelaw10_fine.f]) ?_
  refine Ev.bind (small_ev ds fs) ?_
  rw [fine_small]
  cases hs : smallB ds fs
  · exact Ev.neg (by decide) (Ev.now _)
  · have h1 : ds.length ≤ 100 := by
      simp only [smallB, Bool.and_eq_true, decide_eq_true_eq] at hs
      exact hs.1.1
    have h2 : fs.length ≤ 20 := by
      simp only [smallB, Bool.and_eq_true, decide_eq_true_eq] at hs
      exact hs.1.2
    refine Ev.pos rfl ?_
    refine Ev.bind (its_ev ds fs (by omega)) ?_
    refine Ev.bind (right_ev ds fs (by omega) (by omega)) ?_
    exact Ev.now _
theorem same_ev (l0 : List S54) (l1 : List (List Int)) (h0 : l0.length < 1000000) (h1 : l1.length < 1000000) (h2 : ∀ i : Nat, i < l1.length → (rd_L1 l1 (i : Int)).length < 1000000) : Ev (fun k => flagstoneref10_Same.f k l0 l1 l0 l1) true := by
  have k2 : ∀ i : Nat, i < l1.length → Ev (fun k => flagstoneref10_Same.l1 k ((i + 1 : Nat) : Int) l0 l1 l0 l1) true → ∀ d j : Nat, j ≤ (rd_L1 l1 (i : Int)).length → (rd_L1 l1 (i : Int)).length - j = d → Ev (fun k => flagstoneref10_Same.l2 k (i : Int) (j : Int) l0 l1 l0 l1) true := by
    intro i hi hk d
    have hb := h2 i hi
    have w1 : wrap64 ((i : Int) + 1) = ((i + 1 : Nat) : Int) := by rw [wrap_small (by omega) (by omega)]; omega
    induction d with
    | zero =>
      intro j hj hd
      refine Ev.step (fun k => by rw [flagstoneref10_Same.l2]) ?_
      refine Ev.pos (by omega) (Ev.pos (by omega) (Ev.neg (by omega) ?_))
      rw [w1]
      exact hk
    | succ d ih =>
      intro j hj hd
      have w2 : wrap64 ((j : Int) + 1) = ((j + 1 : Nat) : Int) := by rw [wrap_small (by omega) (by omega)]; omega
      refine Ev.step (fun k => by rw [flagstoneref10_Same.l2]) ?_
      refine Ev.pos (by omega) (Ev.pos (by omega) (Ev.pos (by omega) (Ev.pos (by omega) (Ev.pos (by omega) (Ev.pos (by omega) (Ev.pos rfl ?_))))))
      rw [w2]
      exact ih (j + 1) (by omega) (by omega)
  have k1 : ∀ d i : Nat, i ≤ l1.length → l1.length - i = d → Ev (fun k => flagstoneref10_Same.l1 k (i : Int) l0 l1 l0 l1) true := by
    intro d
    induction d with
    | zero =>
      intro i hi hd
      refine Ev.step (fun k => by rw [flagstoneref10_Same.l1]) ?_
      exact Ev.neg (by omega) (Ev.now _)
    | succ d ih =>
      intro i hi hd
      refine Ev.step (fun k => by rw [flagstoneref10_Same.l1]) ?_
      refine Ev.pos (by omega) (Ev.pos (by omega) (Ev.pos (by omega) (Ev.pos rfl ?_)))
      exact k2 i (by omega) (ih (i + 1) (by omega) (by omega)) _ 0 (by omega) rfl
  have k0 : ∀ d i : Nat, i ≤ l0.length → l0.length - i = d → Ev (fun k => flagstoneref10_Same.l0 k (i : Int) l0 l1 l0 l1) true := by
    intro d
    induction d with
    | zero =>
      intro i hi hd
      refine Ev.step (fun k => by rw [flagstoneref10_Same.l0]) ?_
      exact Ev.neg (by omega) (k1 _ 0 (by omega) rfl)
    | succ d ih =>
      intro i hi hd
      have w1 : wrap64 ((i : Int) + 1) = ((i + 1 : Nat) : Int) := by rw [wrap_small (by omega) (by omega)]; omega
      refine Ev.step (fun k => by rw [flagstoneref10_Same.l0]) ?_
      refine Ev.pos (by omega) (Ev.pos (by omega) (Ev.pos (by omega) (Ev.neg (by simp) ?_)))
      rw [w1]
      exact ih (i + 1) (by omega) (by omega)
  refine Ev.congr (fun k => by rw [flagstoneref10_Same.f]) ?_
  refine Ev.pos rfl ?_
  refine Ev.step (fun k => by rw [flagstoneref10_Same.j0]) ?_
  exact Ev.neg (by simp) (k0 _ 0 (by omega) rfl)

end Go.Proofs.Ytkecfdljodiifaa.P
