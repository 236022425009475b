/- Plain laws of layer 10, over tables that are right: what is had, which descriptor is the first one that is free, what a copy is; no program in sight. -/
import Derived.Test.YtkecfdljodiifaaQa
import Derived.Test.YtkecfdljodiifaaPhandleGet
import Derived.Test.YtkecfdljodiifaaPhandleCount
import Derived.Test.YtkecfdljodiifaaPslicesIndexintint
namespace Go.Proofs.Ytkecfdljodiifaa.P
open Go.RowKit Go.Proofs.YtkecfdljodiifaaW.PrintWords Go.Proofs.YtkecfdljodiifaaW.PrintLast Go.Proofs.YtkecfdljodiifaaW.PrintMore

/-- a table that is right, and not too great -/
structure Rt (ds : List S38) (fs : List (List Int)) : Prop where
  hd : ds.length ≤ 1000
  hf : fs.length ≤ 1000
  hr : rightB ds fs = true
theorem fine_rt {ds : List S38} {fs : List (List Int)} (h : fineB ds fs = true) : Rt ds fs ∧ ds.length ≤ 100 ∧ fs.length ≤ 20 := by
  simp only [fineB, Bool.and_eq_true, decide_eq_true_eq] at h
  exact ⟨⟨by omega, by omega, h.2⟩, h.1.1, h.1.2⟩
theorem rd_row (fs : List (List Int)) (p : Nat) (hp : p < fs.length) : rd_L1 fs (p : Int) = fs[p] := by simp [rd_L1, hp]
theorem rd_desc (ds : List S38) (i : Nat) (hi : i < ds.length) : rd_T38 ds (i : Int) = ds[i] := by simp [rd_T38, hi]
theorem rd_int (l : List Int) (i : Nat) (hi : i < l.length) : rd l (i : Int) = l[i] := by simp [rd, hi]
theorem Rt.row {ds : List S38} {fs : List (List Int)} (R : Rt ds fs) (p : Nat) (hp : p < fs.length) : (rd_L1 fs (p : Int)).length = 8 ∧ ∀ v ∈ rd_L1 fs (p : Int), -1 ≤ v ∧ v < (ds.length : Int) := by
  have hr := R.hr
  simp only [rightB, Bool.and_eq_true] at hr
  have hm : rd_L1 fs (p : Int) ∈ fs := by
    rw [rd_row fs p hp]
    exact List.getElem_mem hp
  have h8 := (List.all_eq_true.1 hr.1) _ hm
  simp only [Bool.and_eq_true, decide_eq_true_eq, rowOk, List.all_eq_true] at h8
  exact h8
theorem Rt.ent {ds : List S38} {fs : List (List Int)} (R : Rt ds fs) (p d : Nat) (hp : p < fs.length) (hd : d < 8) : -1 ≤ rd (rd_L1 fs (p : Int)) (d : Int) ∧ rd (rd_L1 fs (p : Int)) (d : Int) < (ds.length : Int) := by
  have h := R.row p hp
  rw [rd_int _ d (by omega)]
  exact h.2 _ (List.getElem_mem _)
theorem Rt.desc {ds : List S38} {fs : List (List Int)} (R : Rt ds fs) (i : Nat) (hi : i < ds.length) : (rd_T38 ds (i : Int)).f4 = (fs.flatten.count (i : Int) : Int) ∧ (fs.flatten.count (i : Int) ≠ 0 ∨ isZero (rd_T38 ds (i : Int)) = true) := by
  have hr := R.hr
  simp only [rightB, Bool.and_eq_true, descsOk, List.all_eq_true, List.mem_range] at hr
  have h := hr.2 i hi
  simp only [descOk, Bool.and_eq_true, Bool.or_eq_true, decide_eq_true_eq] at h
  exact h
theorem Rt.hd' {ds : List S38} {fs : List (List Int)} (h : Rt ds fs) : ds.length < 1000000 := Nat.lt_of_le_of_lt h.hd (by decide)
theorem Rt.hf' {ds : List S38} {fs : List (List Int)} (h : Rt ds fs) : fs.length < 1000000 := Nat.lt_of_le_of_lt h.hf (by decide)
theorem Rt.hdi {ds : List S38} {fs : List (List Int)} (h : Rt ds fs) : ds.length < 3518437208883 := Nat.lt_of_le_of_lt h.hd (by decide)
theorem Rt.rows {ds : List S38} {fs : List (List Int)} (R : Rt ds fs) (i : Nat) (hi : i < fs.length) : (rd_L1 fs (i : Int)).length < 1000000 := by
  have := (R.row i hi).1
  omega

/-! what is had -/
def getI (fs : List (List Int)) (p d : Int) : Int := if 0 ≤ p ∧ p < (fs.length : Int) ∧ 0 ≤ d ∧ d < ((rd_L1 fs p).length : Int) then rd (rd_L1 fs p) d else -1
def getT (ds : List S38) (i : Int) : Int × Int × Int × Bool × Bool × Int × Int × Bool :=
  if i = -1 then (-1, 0, 0, false, false, 0, 0, false) else (i, (rd_T38 ds i).f0, (rd_T38 ds i).f1, (rd_T38 ds i).f2, (rd_T38 ds i).f3, (rd_T38 ds i).f4, (rd_T38 ds i).f5, true)
theorem getI_out {fs : List (List Int)} {p d : Int} (h : ¬ (0 ≤ p ∧ p < (fs.length : Int) ∧ 0 ≤ d ∧ d < ((rd_L1 fs p).length : Int))) : getI fs p d = -1 := if_neg h
theorem getI_in {fs : List (List Int)} {p d : Int} (h : 0 ≤ p ∧ p < (fs.length : Int) ∧ 0 ≤ d ∧ d < ((rd_L1 fs p).length : Int)) : getI fs p d = rd (rd_L1 fs p) d := if_pos h
theorem getT_none (ds : List S38) : getT ds (-1) = (-1, 0, 0, false, false, 0, 0, false) := rfl
theorem getT_some (ds : List S38) {i : Int} (h : i ≠ -1) : getT ds i = (i, (rd_T38 ds i).f0, (rd_T38 ds i).f1, (rd_T38 ds i).f2, (rd_T38 ds i).f3, (rd_T38 ds i).f4, (rd_T38 ds i).f5, true) := if_neg h
theorem Rt.getI {ds : List S38} {fs : List (List Int)} (R : Rt ds fs) (p d : Int) : -1 ≤ getI fs p d ∧ getI fs p d < (ds.length : Int) := by
  by_cases h : 0 ≤ p ∧ p < (fs.length : Int) ∧ 0 ≤ d ∧ d < ((rd_L1 fs p).length : Int)
  · rw [getI_in h]
    obtain ⟨p, rfl⟩ : ∃ k : Nat, p = (k : Int) := ⟨p.toNat, by omega⟩
    obtain ⟨d, rfl⟩ : ∃ k : Nat, d = (k : Int) := ⟨d.toNat, by omega⟩
    have h8 := (R.row p (by omega)).1
    exact R.ent p d (by omega) (by omega)
  · rw [getI_out h]
    omega
theorem get_eq {ds : List S38} {fs : List (List Int)} (R : Rt ds fs) (p d : Int) : handle_Get.f ds fs p d = some (getT ds (getI fs p d)) := by
  unfold handle_Get.f handle_Table_row.f
  have hI := R.getI p d
  by_cases h : 0 ≤ p ∧ p < (fs.length : Int) ∧ 0 ≤ d ∧ d < ((rd_L1 fs p).length : Int)
  · obtain ⟨h1, h2, h3, h4⟩ := h
    have e := getI_in ⟨h1, h2, h3, h4⟩
    rw [e] at hI ⊢
    rw [if_neg (by omega), if_neg (by omega), if_pos h1, if_pos h2, Option.bind_some, if_neg (by omega), if_neg (by omega), if_pos h3, if_pos h4]
    by_cases hn : rd (rd_L1 fs p) d = -1
    · rw [if_pos hn, hn, getT_none]
    · rw [if_neg hn, if_pos (by omega), if_pos hI.2, getT_some ds hn]
  · rw [getI_out h, getT_none]
    by_cases c1 : p < 0
    · rw [if_pos c1, Option.bind_some]
      by_cases c2 : d < 0
      · rw [if_pos c2]
      · rw [if_neg c2, if_pos (by simp; omega)]
    · rw [if_neg c1]
      by_cases c2 : p ≥ (fs.length : Int)
      · rw [if_pos c2, Option.bind_some]
        by_cases c3 : d < 0
        · rw [if_pos c3]
        · rw [if_neg c3, if_pos (by simp; omega)]
      · rw [if_neg c2, if_pos (by omega), if_pos (by omega), Option.bind_some]
        by_cases c3 : d < 0
        · rw [if_pos c3]
        · rw [if_neg c3, if_pos (by omega)]
/-! the first descriptor that is free -/
def firstN (row : List Int) : Nat := row.findIdx (· == -1)
def firstI (row : List Int) : Int := if firstN row < row.length then (firstN row : Int) else -1
theorem firstN_le (row : List Int) : firstN row ≤ row.length := List.findIdx_le_length
theorem firstI_cases (row : List Int) : (firstI row = -1 ∧ ∀ j : Nat, j < row.length → rd row (j : Int) ≠ -1) ∨ ∃ i : Nat, firstI row = (i : Int) ∧ i < row.length ∧ rd row (i : Int) = -1 ∧ ∀ j : Nat, j < i → rd row (j : Int) ≠ -1 := by
  unfold firstI
  by_cases h : firstN row < row.length
  · rw [if_pos h]
    refine .inr ⟨_, rfl, h, ?_, fun j hj => ?_⟩
    · rw [rd_int _ _ h]
      have := List.findIdx_getElem (w := h)
      exact beq_iff_eq.1 this
    · rw [rd_int _ _ (by omega)]
      have := List.not_of_lt_findIdx hj
      simpa using this
  · rw [if_neg h]
    refine .inl ⟨rfl, fun j hj => ?_⟩
    have hl : firstN row = row.length := Nat.le_antisymm (firstN_le row) (by omega)
    have := List.findIdx_eq_length.1 hl _ (List.getElem_mem hj)
    rw [rd_int _ _ hj]
    simpa using this
theorem firstI_hit {row : List Int} {i : Nat} (hi : i < row.length) (h : rd row (i : Int) = -1) (hn : ∀ j : Nat, j < i → rd row (j : Int) ≠ -1) : firstI row = (i : Int) := by
  rcases firstI_cases row with ⟨_, h2⟩ | ⟨k, e, hk, h2, h3⟩
  · exact absurd h (h2 i hi)
  · rw [e]
    rcases Nat.lt_trichotomy k i with g | g | g
    · exact absurd h2 (hn k g)
    · rw [g]
    · exact absurd h (h3 i g)
theorem firstI_miss {row : List Int} (hn : ∀ j : Nat, j < row.length → rd row (j : Int) ≠ -1) : firstI row = -1 := by
  rcases firstI_cases row with ⟨e, _⟩ | ⟨k, _, hk, h2, _⟩
  · exact e
  · exact absurd h2 (hn k hk)
theorem index_at (row : List Int) (hl : row.length ≤ 1000) : ∀ d j k : Nat, j ≤ row.length → row.length - j = d → d < k → (∀ i : Nat, i < j → rd row (i : Int) ≠ -1) → slices_Index_int_int.l0 k row (-1) (row.length : Int) (j : Int) = some (firstI row) := by
  intro d
  induction d with
  | zero =>
    intro j k hj hd hk hn
    obtain ⟨m, rfl⟩ : ∃ m, k = m + 1 := ⟨k - 1, by omega⟩
    obtain rfl : j = row.length := by omega
    rw [slices_Index_int_int.l0, if_neg (by omega), firstI_miss hn]
  | succ d ih =>
    intro j k hj hd hk hn
    obtain ⟨m, rfl⟩ : ∃ m, k = m + 1 := ⟨k - 1, by omega⟩
    rw [slices_Index_int_int.l0, if_pos (by omega), if_pos (by omega), if_pos (by omega)]
    by_cases e : rd row (j : Int) = -1
    · rw [if_pos e.symm, firstI_hit (by omega) e hn]
    · rw [if_neg (fun h => e h.symm), wrap_small (by omega) (by omega)]
      refine ih (j + 1) m (by omega) (by omega) (by omega) fun i hi => ?_
      by_cases c : i = j
      · subst c
        exact e
      · exact hn i (by omega)
theorem index_eq (row : List Int) (h8 : row.length = 8) : slices_Index_int_int.f 9 row (-1) = some (firstI row) := index_at row (by omega) 8 0 9 (by omega) (by omega) (by omega) (fun i hi => absurd hi (Nat.not_lt_zero i))
/-! how many are open -/
def countR (fs : List (List Int)) (p : Int) : Int := if 0 ≤ p ∧ p < (fs.length : Int) then ((rd_L1 fs p).countP (fun v => !(v == -1)) : Int) else 0
theorem count_step (row : List Int) (j : Nat) (hj : j < row.length) : ((row.take (j + 1)).countP (fun v => !(v == -1)) : Int) = ((row.take j).countP (fun v => !(v == -1)) : Int) + if rd row (j : Int) = -1 then 0 else 1 := by
  rw [List.take_succ_eq_append_getElem hj, List.countP_append, rd_int _ _ hj]
  by_cases h : row[j] = -1
  · simp [h]
  · simp [h]
theorem count_le (row : List Int) (j : Nat) : (row.take j).countP (fun v => !(v == -1)) ≤ j := Nat.le_trans List.countP_le_length (List.length_take_le _ _)
theorem count_at (row : List Int) (hl : row.length ≤ 1000) : ∀ d j : Nat, j ≤ row.length → row.length - j = d → Ev (fun k => handle_Count.l0 k ((row.take j).countP (fun v => !(v == -1)) : Int) row (row.length : Int) (j : Int)) (row.countP (fun v => !(v == -1)) : Int) := by
  intro d
  induction d with
  | zero =>
    intro j hj hd
    obtain rfl : j = row.length := by omega
    refine Ev.step (fun k => by rw [handle_Count.l0]) ?_
    refine Ev.neg (by omega) ?_
    rw [List.take_length]
    exact Ev.now _
  | succ d ih =>
    intro j hj hd
    have hs := count_step row j (by omega)
    have hle := count_le row j
    have h := ih (j + 1) (by omega) (by omega)
    refine Ev.step (fun k => by rw [handle_Count.l0]) ?_
    refine Ev.pos (by omega) (Ev.pos (by omega) (Ev.pos (by omega) ?_))
    rw [hs] at h
    by_cases e : rd row (j : Int) = -1
    · refine Ev.pos e ?_
      rw [if_pos e, Int.add_zero] at h
      rw [wrap_small (by omega) (by omega)]
      exact h
    · refine Ev.neg e ?_
      rw [if_neg e] at h
      rw [wrap_small (by omega) (by omega), wrap_small (by omega) (by omega)]
      exact h
theorem count_ev {ds : List S38} {fs : List (List Int)} (R : Rt ds fs) (p : Int) : Ev (fun k => handle_Count.f k ds fs p) (countR fs p) := by
  refine Ev.congr (fun k => by rw [handle_Count.f, handle_Table_row.f]) ?_
  by_cases c1 : p < 0
  · rw [if_pos c1]
    have e : countR fs p = 0 := if_neg (by omega)
    rw [e]
    exact Ev.bind (Ev.now _) (count_at [] (by simp) 0 0 (by simp) (by simp))
  · rw [if_neg c1]
    by_cases c2 : p ≥ (fs.length : Int)
    · rw [if_pos c2]
      have e : countR fs p = 0 := if_neg (by omega)
      rw [e]
      exact Ev.bind (Ev.now _) (count_at [] (by simp) 0 0 (by simp) (by simp))
    · rw [if_neg c2, if_pos (by omega), if_pos (by omega)]
      have e : countR fs p = ((rd_L1 fs p).countP (fun v => !(v == -1)) : Int) := if_pos (by omega)
      rw [e]
      obtain ⟨p, rfl⟩ : ∃ k : Nat, p = (k : Int) := ⟨p.toNat, by omega⟩
      have h8 := (R.row p (by omega)).1
      exact Ev.bind (Ev.now _) (count_at _ (by omega) 8 0 (by omega) (by omega))
end Go.Proofs.Ytkecfdljodiifaa.P
