/- Plain laws of layer 10: a table that is right stays so, whatever is opened, doubled, closed, set; no program in sight. -/
import Derived.Test.YtkecfdljodiifaaQc
namespace Go.Proofs.Ytkecfdljodiifaa.P
open Go.RowKit Go.Proofs.YtkecfdljodiifaaW.PrintWords Go.Proofs.YtkecfdljodiifaaW.PrintLast Go.Proofs.YtkecfdljodiifaaW.PrintMore

theorem row_count (v a : Int) : ∀ (row : List Int) (d : Nat) (h : d < row.length), (row.set d v).count a + (if row[d] = a then 1 else 0) = row.count a + (if v = a then 1 else 0) := by
  intro row
  induction row with
  | nil => intro d h; simp at h
  | cons b row ih =>
    intro d h
    cases d with
    | zero =>
      simp only [List.set_cons_zero, List.count_cons, List.getElem_cons_zero, beq_iff_eq]
      omega
    | succ d =>
      have := ih d (by simpa using h)
      simp only [List.set_cons_succ, List.count_cons, List.getElem_cons_succ, beq_iff_eq]
      omega
theorem table_count (d : Nat) (v a : Int) : ∀ (fs : List (List Int)) (p : Nat) (hp : p < fs.length) (hd : d < fs[p].length), (fs.set p (fs[p].set d v)).flatten.count a + (if fs[p][d] = a then 1 else 0) = fs.flatten.count a + (if v = a then 1 else 0) := by
  intro fs
  induction fs with
  | nil => intro p hp; simp at hp
  | cons row fs ih =>
    intro p hp hd
    cases p with
    | zero =>
      have := row_count v a row d hd
      simp only [List.set_cons_zero, List.flatten_cons, List.count_append, List.getElem_cons_zero] at this ⊢
      omega
    | succ p =>
      have := ih p (by simpa using hp) (by simpa using hd)
      simp only [List.set_cons_succ, List.flatten_cons, List.count_append, List.getElem_cons_succ]
      omega
theorem Rt.count {ds : List S38} {fs : List (List Int)} (R : Rt ds fs) (p d : Nat) (hp : p < fs.length) (hd : d < 8) (v a : Int) :
    (fs.set p ((rd_L1 fs (p : Int)).set d v)).flatten.count a + (if rd (rd_L1 fs (p : Int)) (d : Int) = a then 1 else 0) = fs.flatten.count a + (if v = a then 1 else 0) := by
  have h8 := (R.row p hp).1
  rw [rd_int _ d (by omega)]
  have hd2 : d < fs[p].length := by rw [← rd_row fs p hp]; omega
  have h := table_count d v a fs p hp hd2
  simp only [rd_row fs p hp]
  exact h
theorem flat_length (n : Nat) : ∀ fs : List (List Int), rowsOk n fs = true → fs.flatten.length = 8 * fs.length := by
  intro fs
  induction fs with
  | nil => intro _; rfl
  | cons row fs ih =>
    intro h
    simp only [rowsOk, List.all_cons, Bool.and_eq_true, decide_eq_true_eq] at h
    have := ih h.2
    rw [List.flatten_cons, List.length_append, this, h.1.1, List.length_cons]
    omega
theorem Rt.count_le {ds : List S38} {fs : List (List Int)} (R : Rt ds fs) (a : Int) : fs.flatten.count a ≤ 8000 := by
  have hr := R.hr
  simp only [rightB, Bool.and_eq_true] at hr
  have h1 := flat_length _ _ hr.1
  have h2 : fs.flatten.count a ≤ fs.flatten.length := List.count_le_length
  have := R.hf
  omega
theorem Rt.none_out {ds : List S38} {fs : List (List Int)} (R : Rt ds fs) (a : Int) (ha : (ds.length : Int) ≤ a) : fs.flatten.count a = 0 := by
  refine List.count_eq_zero.2 fun hm => ?_
  obtain ⟨row, hrow, hin⟩ := List.mem_flatten.1 hm
  obtain ⟨p, hp, rfl⟩ := List.getElem_of_mem hrow
  have := (R.row p hp).2 a (by rw [rd_row fs p hp]; exact hin)
  omega
theorem rd_set_self (ds : List S38) (i : Nat) (x : S38) (hi : i < ds.length) : rd_T38 (ds.set i x) (i : Int) = x := by simp [rd_T38, hi]
theorem rd_set_other (ds : List S38) (i k : Nat) (x : S38) (h : k ≠ i) : rd_T38 (ds.set i x) (k : Int) = rd_T38 ds (k : Int) := by
  simp only [rd_T38, Int.toNat_natCast, List.getD_eq_getElem?_getD]
  rw [List.getElem?_set_ne (fun e => h e.symm)]
theorem rd_placed_other (ds : List S38) (i k : Nat) (x : S38) (hi : i ≤ ds.length) (h : k ≠ i) : rd_T38 (placed ds i x) (k : Int) = rd_T38 ds (k : Int) := by
  unfold placed
  split
  · exact rd_set_other ds i k x h
  · have e : i = ds.length := by omega
    subst e
    simp only [rd_T38, Int.toNat_natCast, List.getD_eq_getElem?_getD]
    by_cases c : k < ds.length
    · rw [List.getElem?_append_left c]
    · rw [List.getElem?_append_right (by omega), List.getElem?_eq_none (by simp; omega), List.getElem?_eq_none (by omega)]
theorem row_put {ds : List S38} {fs : List (List Int)} (R : Rt ds fs) (p : Nat) (hp : p < fs.length) (row : List Int) (k : Nat) : rd_L1 (fs.set p row) (k : Int) = if k = p then row else rd_L1 fs (k : Int) := by
  by_cases e : k = p
  · subst e
    rw [if_pos rfl]
    simp [rd_L1, hp]
  · rw [if_neg e]
    simp only [rd_L1, Int.toNat_natCast, List.getD_eq_getElem?_getD]
    rw [List.getElem?_set_ne (fun h => e h.symm)]

/-- one descriptor is turned, and the descriptions are as they must be then -/
theorem Rt.turn {ds ds' : List S38} {fs : List (List Int)} (R : Rt ds fs) (p d : Nat) (v : Int) (hp : p < fs.length) (hd : d < 8) (hlen : ds.length ≤ ds'.length) (hmax : ds'.length ≤ 1000) (hv : -1 ≤ v ∧ v < (ds'.length : Int))
    (hds : ∀ k : Nat, k < ds'.length → descOk ((fs.set p ((rd_L1 fs (p : Int)).set d v)).flatten.count (k : Int)) (rd_T38 ds' (k : Int)) = true) : Rt ds' (fs.set p ((rd_L1 fs (p : Int)).set d v)) := by
  refine ⟨hmax, by rw [List.length_set]; exact R.hf, ?_⟩
  simp only [rightB, Bool.and_eq_true, descsOk, List.all_eq_true, List.mem_range, rowsOk]
  refine ⟨fun row hrow => ?_, hds⟩
  obtain ⟨k, hk, rfl⟩ := List.getElem_of_mem hrow
  rw [List.length_set] at hk
  have e : (fs.set p ((rd_L1 fs (p : Int)).set d v))[k]'(by rw [List.length_set]; exact hk) = if k = p then (rd_L1 fs (p : Int)).set d v else rd_L1 fs (k : Int) := by
    rw [← row_put R p hp]
    exact (rd_row _ k (by rw [List.length_set]; exact hk)).symm
  rw [e]
  have h1 := R.row k hk
  have h2 := R.row p hp
  by_cases c : k = p
  · rw [if_pos c]
    simp only [rowOk, List.all_eq_true, Bool.and_eq_true, decide_eq_true_eq, List.length_set]
    refine ⟨h2.1, fun u hu => ?_⟩
    rcases List.mem_or_eq_of_mem_set hu with hu | hu
    · have := h2.2 u hu
      omega
    · omega
  · rw [if_neg c]
    simp only [rowOk, List.all_eq_true, Bool.and_eq_true, decide_eq_true_eq]
    refine ⟨h1.1, fun u hu => ?_⟩
    have := h1.2 u hu
    omega
theorem Rt.same_desc {ds : List S38} {fs : List (List Int)} (R : Rt ds fs) (k : Nat) (hk : k < ds.length) : descOk (fs.flatten.count (k : Int)) (rd_T38 ds (k : Int)) = true := by
  have h := R.desc k hk
  simp only [descOk, Bool.and_eq_true, Bool.or_eq_true, decide_eq_true_eq]
  exact h
theorem first_free {row : List Int} {n : Nat} (h : firstI row = (n : Int)) : n < row.length ∧ rd row (n : Int) = -1 := by
  rcases firstI_cases row with ⟨e, _⟩ | ⟨k, e, hk, h1, _⟩
  · omega
  · obtain rfl : k = n := by omega
    exact ⟨hk, h1⟩
theorem openR_out (ds : List S38) (fs : List (List Int)) (p : Int) (x : S38) (h : p < 0 ∨ (fs.length : Int) ≤ p) : openR ds fs p x = (ds, fs, 0, 1) := if_pos h
theorem openR_full (ds : List S38) (fs : List (List Int)) (p : Nat) (x : S38) (hp : p < fs.length) (h : firstI (rd_L1 fs (p : Int)) < 0) : openR ds fs (p : Int) x = (ds, fs, 0, 13) := by rw [openR, if_neg (by omega), if_pos h]
theorem openR_ok (ds : List S38) (fs : List (List Int)) (p n : Nat) (x : S38) (hp : p < fs.length) (h : firstI (rd_L1 fs (p : Int)) = (n : Int)) : openR ds fs (p : Int) x = (placed ds (placeOf ds) { x with f4 := 1 }, fs.set p ((rd_L1 fs (p : Int)).set n (placeOf ds : Int)), (n : Int), 0) := by
  rw [openR, if_neg (by omega), if_neg (by omega), h]
  rfl
theorem openR_cases (ds : List S38) (fs : List (List Int)) (p : Int) (x : S38) : (openR ds fs p x = (ds, fs, 0, 1) ∧ (p < 0 ∨ (fs.length : Int) ≤ p)) ∨ (openR ds fs p x = (ds, fs, 0, 13) ∧ 0 ≤ p ∧ p < (fs.length : Int) ∧ firstI (rd_L1 fs p) = -1) ∨
    ∃ q n : Nat, p = (q : Int) ∧ q < fs.length ∧ n < (rd_L1 fs (q : Int)).length ∧ firstI (rd_L1 fs (q : Int)) = (n : Int) ∧ openR ds fs (q : Int) x = (placed ds (placeOf ds) { x with f4 := 1 }, fs.set q ((rd_L1 fs (q : Int)).set n (placeOf ds : Int)), (n : Int), 0) := by
  by_cases c1 : p < 0 ∨ (fs.length : Int) ≤ p
  · exact .inl ⟨openR_out _ _ _ _ c1, c1⟩
  · obtain ⟨q, rfl⟩ : ∃ k : Nat, p = (k : Int) := ⟨p.toNat, by omega⟩
    rcases firstI_cases (rd_L1 fs (q : Int)) with ⟨e, _⟩ | ⟨n, e, hn, _⟩
    · exact .inr (.inl ⟨openR_full _ _ _ _ (by omega) (by omega), by omega, by omega, e⟩)
    · exact .inr (.inr ⟨q, n, rfl, by omega, hn, e, openR_ok _ _ _ _ _ (by omega) e⟩)
theorem Rt.opened {ds : List S38} {fs : List (List Int)} (R : Rt ds fs) (h : ds.length < 1000) (p : Int) (x : S38) : Rt (openR ds fs p x).1 (openR ds fs p x).2.1 := by
  rcases openR_cases ds fs p x with ⟨e, _⟩ | ⟨e, _⟩ | ⟨q, n, rfl, hq, hn, e, eo⟩
  · rw [e]; exact R
  · rw [e]; exact R
  · rw [eo]
    dsimp only
    have h8 := (R.row q hq).1
    obtain ⟨_, hfree⟩ := first_free e
    have hle := placed_le ds (placeOf ds) { x with f4 := 1 }
    have hpl : placeOf ds ≤ ds.length := List.findIdx_le_length
    have hlt := placed_lt ds (placeOf ds) { x with f4 := 1 } hpl
    have hge : ds.length ≤ (placed ds (placeOf ds) { x with f4 := 1 }).length := by
      unfold placed
      split <;> simp
    refine R.turn q n _ hq (by omega) hge (by omega) (by omega) fun k hk => ?_
    have hc := R.count q n hq (by omega) (placeOf ds : Int) (k : Int)
    rw [hfree, if_neg (by omega)] at hc
    by_cases c : k = placeOf ds
    · subst c
      rw [if_pos rfl] at hc
      rw [placed_at ds _ _ hpl]
      have h0 : fs.flatten.count (placeOf ds : Int) = 0 := by
        rcases place_cases ds with ⟨g1, _⟩ | ⟨g1, g2, _⟩
        · exact R.none_out _ (by omega)
        · have := (R.desc _ g1).1
          omega
      simp only [descOk, Bool.and_eq_true, Bool.or_eq_true, decide_eq_true_eq]
      exact ⟨by omega, .inl (by omega)⟩
    · rw [if_neg (by omega)] at hc
      rw [rd_placed_other ds _ k _ hpl c]
      have hk2 : k < ds.length := by
        rcases place_cases ds with ⟨g1, _⟩ | ⟨g1, g2, _⟩
        · omega
        · have e3 : (placed ds (placeOf ds) { x with f4 := 1 }).length = ds.length := by simp [placed, g1]
          omega
      have e4 : (fs.set q ((rd_L1 fs (q : Int)).set n (placeOf ds : Int))).flatten.count (k : Int) = fs.flatten.count (k : Int) := by omega
      rw [e4]
      exact R.same_desc k hk2
theorem wrap_inc {c : Nat} (h : c ≤ 8000) : wrap64 ((c : Int) + 1) = (c : Int) + 1 := wrap_small (by omega) (by omega)
theorem wrap_dec {c : Nat} (h : c ≤ 8000) (h0 : c ≠ 0) : wrap64 ((c : Int) - 1) = (c : Int) - 1 := by unfold wrap64; omega
theorem dupR_cases {ds : List S38} {fs : List (List Int)} (R : Rt ds fs) (p d : Int) : (dupR ds fs p d = (ds, fs, 0, 12) ∧ getI fs p d = -1) ∨ (dupR ds fs p d = (ds, fs, 0, 13) ∧ getI fs p d ≠ -1) ∨
    ∃ q n i : Nat, p = (q : Int) ∧ q < fs.length ∧ n < 8 ∧ i < ds.length ∧ firstI (rd_L1 fs (q : Int)) = (n : Int) ∧ getI fs (q : Int) d = (i : Int) ∧ fs.flatten.count (i : Int) ≠ 0 ∧
      dupR ds fs (q : Int) d = (ds.set i { rd_T38 ds (i : Int) with f4 := (fs.flatten.count (i : Int) : Int) + 1 }, fs.set q ((rd_L1 fs (q : Int)).set n (i : Int)), (n : Int), 0) := by
  by_cases c1 : getI fs p d = -1
  · exact .inl ⟨if_pos c1, c1⟩
  · obtain ⟨h1, h2, h3, h4, h5⟩ := getI_some c1
    have hI := R.getI p d
    obtain ⟨q, rfl⟩ : ∃ k : Nat, p = (k : Int) := ⟨p.toNat, by omega⟩
    obtain ⟨i, hi⟩ : ∃ k : Nat, getI fs (q : Int) d = (k : Int) := ⟨(getI fs (q : Int) d).toNat, by omega⟩
    have h8 := (R.row q (by omega)).1
    rcases firstI_cases (rd_L1 fs (q : Int)) with ⟨e, _⟩ | ⟨n, e, hn, _⟩
    · refine .inr (.inl ⟨?_, c1⟩)
      rw [dupR, if_neg c1, if_pos (by omega)]
    · have hc : fs.flatten.count (i : Int) ≠ 0 := by
        have hm : (i : Int) ∈ fs.flatten := by
          refine List.mem_flatten.2 ⟨rd_L1 fs (q : Int), ?_, ?_⟩
          · rw [rd_row fs q (by omega)]
            exact List.getElem_mem _
          · obtain ⟨d, rfl⟩ : ∃ k : Nat, d = (k : Int) := ⟨d.toNat, by omega⟩
            rw [← hi, h5, rd_int _ d (by omega)]
            exact List.getElem_mem _
        exact Nat.ne_of_gt (List.count_pos_iff.2 hm)
      refine .inr (.inr ⟨q, n, i, rfl, by omega, by omega, by omega, e, hi, hc, ?_⟩)
      rw [dupR, if_neg c1, if_neg (by omega), hi, e, (R.desc i (by omega)).1, wrap_inc (R.count_le _)]
      rfl
theorem Rt.doubled {ds : List S38} {fs : List (List Int)} (R : Rt ds fs) (p d : Int) : Rt (dupR ds fs p d).1 (dupR ds fs p d).2.1 := by
  rcases dupR_cases R p d with ⟨e, _⟩ | ⟨e, _⟩ | ⟨q, n, i, rfl, hq, hn, hi, e, hI, hne, ed⟩
  · rw [e]; exact R
  · rw [e]; exact R
  · rw [ed]
    dsimp only
    obtain ⟨_, hfree⟩ := first_free e
    have hd := R.hd
    refine R.turn q n _ hq hn (by simp) (by simpa using hd) (by rw [List.length_set]; omega) fun k hk => ?_
    rw [List.length_set] at hk
    have hc := R.count q n hq hn (i : Int) (k : Int)
    rw [hfree, if_neg (by omega)] at hc
    by_cases c : k = i
    · subst c
      rw [if_pos rfl] at hc
      rw [rd_set_self ds _ _ hk]
      simp only [descOk, Bool.and_eq_true, Bool.or_eq_true, decide_eq_true_eq]
      exact ⟨by omega, .inl (by omega)⟩
    · rw [if_neg (by omega)] at hc
      rw [rd_set_other ds i k _ c]
      have e4 : (fs.set q ((rd_L1 fs (q : Int)).set n (i : Int))).flatten.count (k : Int) = fs.flatten.count (k : Int) := by omega
      rw [e4]
      exact R.same_desc k hk
/-- what is left of a description that so many refer to -/
def leftR (x : S38) (c : Nat) : S38 := if c = 1 then ⟨0, 0, false, false, 0, 0⟩ else { x with f4 := (c : Int) - 1 }
theorem closeR_cases {ds : List S38} {fs : List (List Int)} (R : Rt ds fs) (p d : Int) : (closeR ds fs p d = (ds, fs, 0, 0, false, false, 0, 0, 12) ∧ getI fs p d = -1) ∨
    ∃ q n i : Nat, p = (q : Int) ∧ d = (n : Int) ∧ q < fs.length ∧ n < 8 ∧ i < ds.length ∧ getI fs (q : Int) (n : Int) = (i : Int) ∧ rd (rd_L1 fs (q : Int)) (n : Int) = (i : Int) ∧ fs.flatten.count (i : Int) ≠ 0 ∧
      closeR ds fs (q : Int) (n : Int) = (ds.set i (leftR (rd_T38 ds (i : Int)) (fs.flatten.count (i : Int))), fs.set q ((rd_L1 fs (q : Int)).set n (-1)), (rd_T38 ds (i : Int)).f0, (rd_T38 ds (i : Int)).f1, (rd_T38 ds (i : Int)).f2, (rd_T38 ds (i : Int)).f3, (fs.flatten.count (i : Int) : Int) - 1, (rd_T38 ds (i : Int)).f5, 0) := by
  by_cases c1 : getI fs p d = -1
  · exact .inl ⟨if_pos c1, c1⟩
  · obtain ⟨h1, h2, h3, h4, h5⟩ := getI_some c1
    have hI := R.getI p d
    obtain ⟨q, rfl⟩ : ∃ k : Nat, p = (k : Int) := ⟨p.toNat, by omega⟩
    obtain ⟨n, rfl⟩ : ∃ k : Nat, d = (k : Int) := ⟨d.toNat, by omega⟩
    obtain ⟨i, hi⟩ : ∃ k : Nat, getI fs (q : Int) (n : Int) = (k : Int) := ⟨(getI fs (q : Int) (n : Int)).toNat, by omega⟩
    have h8 := (R.row q (by omega)).1
    have hc : fs.flatten.count (i : Int) ≠ 0 := by
      have hm : (i : Int) ∈ fs.flatten := by
        refine List.mem_flatten.2 ⟨rd_L1 fs (q : Int), ?_, ?_⟩
        · rw [rd_row fs q (by omega)]
          exact List.getElem_mem _
        · rw [← hi, h5, rd_int _ n (by omega)]
          exact List.getElem_mem _
      exact Nat.ne_of_gt (List.count_pos_iff.2 hm)
    refine .inr ⟨q, n, i, rfl, rfl, by omega, by omega, by omega, hi, by omega, hc, ?_⟩
    have h4 := (R.desc i (by omega)).1
    have hw := wrap_dec (R.count_le (i : Int)) hc
    rw [closeR, if_neg c1, hi, h4, hw]
    have el : left38 (rd_T38 ds (i : Int)) = leftR (rd_T38 ds (i : Int)) (fs.flatten.count (i : Int)) := by
      unfold left38 leftR
      rw [h4, hw]
      by_cases c : fs.flatten.count (i : Int) = 1
      · rw [if_pos c, if_pos (by omega)]
      · rw [if_neg c, if_neg (by omega)]
    rw [el]
    rfl
theorem Rt.closed {ds : List S38} {fs : List (List Int)} (R : Rt ds fs) (p d : Int) : Rt (closeR ds fs p d).1 (closeR ds fs p d).2.1 := by
  rcases closeR_cases R p d with ⟨e, _⟩ | ⟨q, n, i, rfl, rfl, hq, hn, hi, hI, hrd, hne, ec⟩
  · rw [e]; exact R
  · rw [ec]
    dsimp only
    have hd := R.hd
    refine R.turn q n _ hq hn (by simp) (by simpa using hd) (by rw [List.length_set]; omega) fun k hk => ?_
    rw [List.length_set] at hk
    have hc := R.count q n hq hn (-1) (k : Int)
    rw [hrd, if_neg (by omega : ¬ (-1 : Int) = (k : Int))] at hc
    by_cases c : k = i
    · subst c
      rw [if_pos rfl] at hc
      rw [rd_set_self ds _ _ hk]
      unfold leftR
      by_cases c1 : fs.flatten.count (k : Int) = 1
      · rw [if_pos c1]
        have e0 : (fs.set q ((rd_L1 fs (q : Int)).set n (-1))).flatten.count (k : Int) = 0 := by omega
        rw [e0]
        rfl
      · rw [if_neg c1]
        simp only [descOk, Bool.and_eq_true, Bool.or_eq_true, decide_eq_true_eq]
        exact ⟨by omega, .inl (by omega)⟩
    · rw [if_neg (by omega)] at hc
      rw [rd_set_other ds i k _ c]
      have e4 : (fs.set q ((rd_L1 fs (q : Int)).set n (-1))).flatten.count (k : Int) = fs.flatten.count (k : Int) := by omega
      rw [e4]
      exact R.same_desc k hk
theorem Rt.sets {ds : List S38} {fs : List (List Int)} (R : Rt ds fs) (i : Int) (x : S38) : Rt (setR ds fs i x).1 (setR ds fs i x).2 := by
  unfold setR
  by_cases c : i < 0 ∨ (ds.length : Int) ≤ i ∨ (rd_T38 ds i).f4 = 0
  · rw [if_pos c]; exact R
  · rw [if_neg c]
    obtain ⟨i, rfl⟩ : ∃ k : Nat, i = (k : Int) := ⟨i.toNat, by omega⟩
    have hr := R.hr
    have hd := R.hd
    refine ⟨by rw [List.length_set]; exact hd, R.hf, ?_⟩
    simp only [rightB, Bool.and_eq_true, descsOk, List.all_eq_true, List.mem_range, List.length_set] at hr ⊢
    refine ⟨hr.1, fun k hk => ?_⟩
    have h := R.desc k hk
    by_cases e : k = i
    · subst e
      rw [Int.toNat_natCast, rd_set_self ds _ _ hk]
      simp only [descOk, Bool.and_eq_true, Bool.or_eq_true, decide_eq_true_eq]
      exact ⟨h.1, .inl (by omega)⟩
    · rw [Int.toNat_natCast, rd_set_other ds i k _ e]
      exact R.same_desc k hk
end Go.Proofs.Ytkecfdljodiifaa.P
