/- The plain law of HandleBack: it answers true; no program in sight. -/
import Derived.Test.YtkecfdljodiifaaQs
import Derived.Test.YtkecfdljodiifaaQd
import Derived.Test.YtkecfdljodiifaaPlaw10HandleBack
namespace Go.Proofs.Ytkecfdljodiifaa.P
open Go.RowKit Go.Proofs.YtkecfdljodiifaaW.PrintWords Go.Proofs.YtkecfdljodiifaaW.PrintLast Go.Proofs.YtkecfdljodiifaaW.PrintMore

theorem Rt.same {ds : List S38} {fs : List (List Int)} (R : Rt ds fs) : Ev (fun k => flagstoneref10_Same.f k (ds.map conv) fs (ds.map conv) fs) true :=
  same_ev (ds.map conv) fs (by rw [List.length_map]; exact R.hd') R.hf' R.rows
theorem Rt.its {ds : List S38} {fs : List (List Int)} (R : Rt ds fs) : Ev (fun k => flagstonelaw10_its.f k ds fs) (ds.map conv, fs) := its_ev ds fs R.hdi
theorem zero_of {x : S38} (h : isZero x = true) : x = ⟨0, 0, false, false, 0, 0⟩ := by
  obtain ⟨a, b, c, d, e, f⟩ := x
  simp only [isZero, Bool.and_eq_true, beq_iff_eq, Bool.not_eq_true'] at h
  obtain ⟨⟨⟨⟨⟨h0, h1⟩, h2⟩, h3⟩, h4⟩, h5⟩ := h
  rw [h0, h1, h2, h3, h4, h5]
/-- a table with a place more, if the place asked is behind all -/
def paddedR (ds : List S38) (k : Int) : List S38 := if k = (ds.length : Int) then ds ++ [⟨0, 0, false, false, 0, 0⟩] else ds
theorem padded_ev {ds : List S38} {fs : List (List Int)} (R : Rt ds fs) (k : Int) : Ev (fun n => flagstonelaw10_padded.f n ds fs k) ((paddedR ds k).map conv, fs) := by
  have hd := R.hd
  refine Ev.congr (fun n => by rw [flagstonelaw10_padded.f]) (Ev.bind R.its ?_)
  dsimp only
  unfold paddedR
  by_cases c : k = (ds.length : Int)
  · rw [if_pos c]
    refine Ev.pos (by rw [List.length_map]; exact c) (Ev.bind (Ev.now _) (Ev.pos (by rw [List.length_map]; simp; omega) (Ev.bind (Ev.now _) (Ev.pos (by simp; omega) ?_))))
    rw [List.nil_append, List.map_append]
    exact Ev.now _
  · rw [if_neg c]
    refine Ev.neg (by rw [List.length_map]; exact c) ?_
    exact Ev.now _
theorem rd_put (fs : List (List Int)) (q : Nat) (row : List Int) (hq : q < fs.length) : rd_L1 (fs.set q row) (q : Int) = row := by
  rw [rd_row _ q (by rw [List.length_set]; exact hq), List.getElem_set_self]
theorem put_back (fs : List (List Int)) (q n : Nat) (v u : Int) (hq : q < fs.length) (hn : n < (rd_L1 fs (q : Int)).length) (hu : rd (rd_L1 fs (q : Int)) (n : Int) = u) :
    (fs.set q ((rd_L1 fs (q : Int)).set n v)).set q ((rd_L1 (fs.set q ((rd_L1 fs (q : Int)).set n v)) (q : Int)).set n u) = fs := by
  rw [rd_put fs q _ hq, List.set_set, List.set_set, ← hu, rd_int _ n hn, List.set_getElem_self, rd_row fs q hq, List.set_getElem_self]
theorem getI_put (fs : List (List Int)) (q n : Nat) (v : Int) (hq : q < fs.length) (hn : n < (rd_L1 fs (q : Int)).length) : getI (fs.set q ((rd_L1 fs (q : Int)).set n v)) (q : Int) (n : Int) = v := by
  rw [getI_in ⟨by omega, by rw [List.length_set]; omega, by omega, by rw [rd_put fs q _ hq, List.length_set]; omega⟩, rd_put fs q _ hq, rd_int _ n (by rw [List.length_set]; exact hn), List.getElem_set_self]
theorem count_put (row : List Int) (n : Nat) (v : Int) (hn : n < row.length) (h : rd row (n : Int) = -1) (hv : v ≠ -1) : (row.set n v).countP (fun v => !(v == -1)) = row.countP (fun v => !(v == -1)) + 1 := by
  have h1 := row_count v (-1) row n hn
  rw [rd_int row n hn] at h
  rw [if_pos h, if_neg hv] at h1
  have split : ∀ r : List Int, r.length = r.count (-1) + r.countP (fun v => !(v == -1)) := fun r => by
    have h := List.length_eq_countP_add_countP (l := r) (fun v => v == -1)
    have e : r.countP (fun a => decide ¬(a == -1) = true) = r.countP (fun v => !(v == -1)) := List.countP_congr (fun a _ => by cases a == -1 <;> simp)
    rw [e] at h
    exact h
  have h2 := split row
  have h3 := split (row.set n v)
  rw [List.length_set] at h3
  omega
theorem countR_put (fs : List (List Int)) (q n : Nat) (v : Int) (hq : q < fs.length) (hn : n < (rd_L1 fs (q : Int)).length) (h : rd (rd_L1 fs (q : Int)) (n : Int) = -1) (hv : v ≠ -1) :
    countR (fs.set q ((rd_L1 fs (q : Int)).set n v)) (q : Int) = countR fs (q : Int) + 1 := by
  unfold countR
  rw [List.length_set, if_pos ⟨by omega, by omega⟩, if_pos ⟨by omega, by omega⟩, rd_put fs q _ hq, count_put _ n v hn h hv]
  omega
theorem countR_le {ds : List S38} {fs : List (List Int)} (R : Rt ds fs) (p : Int) : 0 ≤ countR fs p ∧ countR fs p ≤ 8 := by
  unfold countR
  by_cases c : 0 ≤ p ∧ p < (fs.length : Int)
  · rw [if_pos c]
    obtain ⟨q, rfl⟩ : ∃ k : Nat, p = (k : Int) := ⟨p.toNat, by omega⟩
    have h8 := (R.row q (by omega)).1
    have := List.countP_le_length (l := rd_L1 fs (q : Int)) (p := fun v => !(v == -1))
    omega
  · rw [if_neg c]
    omega
/-- what was opened and is closed again leaves what was there, but perhaps for a place more -/
theorem placed_left {ds : List S38} {fs : List (List Int)} (R : Rt ds fs) (y : S38) : (placed ds (placeOf ds) y).set (placeOf ds) ⟨0, 0, false, false, 0, 0⟩ = paddedR ds (placeOf ds : Int) := by
  unfold placed paddedR
  rcases place_cases ds with ⟨g1, _⟩ | ⟨g1, g2, _⟩
  · rw [if_neg (by omega), if_pos (by omega), g1, List.set_append_right _ _ (Nat.le_refl _), Nat.sub_self]
    rfl
  · rw [if_pos g1, if_neg (by omega), List.set_set]
    have hz : isZero (rd_T38 ds (placeOf ds : Int)) = true := by
      have h := R.desc _ g1
      rcases h.2 with h2 | h2
      · rw [g2] at h
        exact absurd (by have := h.1; omega) h2
      · exact h2
    rw [← zero_of hz, rd_desc ds _ g1, List.set_getElem_self]
theorem Rt.padded {ds : List S38} {fs : List (List Int)} (R : Rt ds fs) (k : Int) : Ev (fun n => flagstoneref10_Same.f n ((paddedR ds k).map conv) fs ((paddedR ds k).map conv) fs) true := by
  have hd := R.hd
  refine same_ev _ fs ?_ R.hf' R.rows
  rw [List.length_map]
  unfold paddedR
  split
  · rw [List.length_append]
    show ds.length + 1 < 1000000
    omega
  · omega
theorem padded_its {ds : List S38} {fs : List (List Int)} (R : Rt ds fs) (k : Int) : Ev (fun n => flagstonelaw10_its.f n (paddedR ds k) fs) ((paddedR ds k).map conv, fs) := by
  have hd := R.hd
  refine its_ev _ fs ?_
  unfold paddedR
  split
  · rw [List.length_append]
    show ds.length + 1 < 3518437208883
    omega
  · omega
/-- the second half: what is doubled, and closed again -/
theorem back_dup {ds : List S38} {fs : List (List Int)} (R : Rt ds fs) (p d : Int) : Ev (fun k => flagstonelaw10_HandleBack.j1 k p d ds fs) true := by
  refine Ev.step (fun k => by rw [flagstonelaw10_HandleBack.j1]) ?_
  rw [dup_eq R]
  refine Ev.bind (Ev.now _) ?_
  have Rd := R.doubled p d
  rcases dupR_cases R p d with ⟨e, _⟩ | ⟨e, _⟩ | ⟨q, n, i, rfl, hq, hn, hi, e, hI, hne, ed⟩
  · rw [e]
    exact Ev.neg (fun h => by cases h) (Ev.now _)
  · rw [e]
    exact Ev.neg (fun h => by cases h) (Ev.now _)
  · rw [ed] at Rd ⊢
    dsimp only at Rd ⊢
    have h8 := (R.row q hq).1
    obtain ⟨_, hfree⟩ := first_free e
    have hg := getI_put fs q n (i : Int) hq (by omega)
    have hdesc := R.desc i hi
    have hle := R.count_le (i : Int)
    have hrd := rd_set_self ds i { rd_T38 ds (i : Int) with f4 := (fs.flatten.count (i : Int) : Int) + 1 } hi
    have hc : closeR (ds.set i { rd_T38 ds (i : Int) with f4 := (fs.flatten.count (i : Int) : Int) + 1 }) (fs.set q ((rd_L1 fs (q : Int)).set n (i : Int))) (q : Int) (n : Int) = (ds, fs, (rd_T38 ds (i : Int)).f0, (rd_T38 ds (i : Int)).f1, (rd_T38 ds (i : Int)).f2, (rd_T38 ds (i : Int)).f3, (fs.flatten.count (i : Int) : Int), (rd_T38 ds (i : Int)).f5, 0) := by
      have hw : wrap64 ((fs.flatten.count (i : Int) : Int) + 1 - 1) = (fs.flatten.count (i : Int) : Int) := by unfold wrap64; omega
      have hl : left38 { rd_T38 ds (i : Int) with f4 := (fs.flatten.count (i : Int) : Int) + 1 } = ds[i] := by
        unfold left38
        rw [hw, if_neg (by omega), ← hdesc.1, rd_desc ds i hi]
      unfold closeR
      rw [hg, if_neg (by omega), Int.toNat_natCast, Int.toNat_natCast, Int.toNat_natCast, hrd, hl, List.set_set, List.set_getElem_self, put_back fs q n (i : Int) (-1) hq (by omega) hfree, hw]
    rw [get_eq Rd, get_eq R, close_eq Rd, hg, hI, hc, getT_some _ (by omega), getT_some _ (by omega), hrd]
    refine Ev.pos rfl (Ev.bind (Ev.now _) (Ev.bind (Ev.now _) (Ev.bind (Ev.now _) (Ev.pos rfl (Ev.pos rfl (Ev.pos rfl (Ev.pos ?_ (Ev.pos rfl ?_))))))))
    · show (fs.flatten.count (i : Int) : Int) + 1 = wrap64 ((rd_T38 ds (i : Int)).f4 + 1)
      rw [hdesc.1]
      unfold wrap64
      omega
    · exact Ev.bind R.its (Ev.bind R.its (Ev.bind R.same (Ev.pos rfl (Ev.now _))))
theorem back_law (ds : List S38) (fs : List (List Int)) (a1 a2 b0 b1 : Int) (b2 b3 : Bool) (b4 b5 : Int) : Ev (fun k => flagstonelaw10_HandleBack.f k ds fs a1 a2 b0 b1 b2 b3 b4 b5) true := by
  refine Ev.congr (fun k => by rw [flagstonelaw10_HandleBack.f]) ?_
  refine Ev.bind (fine_ev ds fs) ?_
  cases hF : fineB ds fs
  · refine Ev.neg (by decide) (Ev.step (fun k => by rw [flagstonelaw10_HandleBack.j0]) ?_)
    exact Ev.pos rfl (Ev.bind shown_ev (Ev.now _))
  · refine Ev.pos rfl (Ev.bind shown_ev (Ev.step (fun k => by rw [flagstonelaw10_HandleBack.j0]) (Ev.neg (by decide) ?_)))
    obtain ⟨R, h1, h2⟩ := fine_rt hF
    rw [open_eq R]
    refine Ev.bind (Ev.now _) ?_
    have Ro := R.opened (by omega) a1 ⟨b0, b1, b2, b3, b4, b5⟩
    rcases openR_cases ds fs a1 ⟨b0, b1, b2, b3, b4, b5⟩ with ⟨e, _⟩ | ⟨e, _⟩ | ⟨q, n, rfl, hq, hn, e, eo⟩
    · rw [e]
      exact Ev.neg (fun h => by cases h) (back_dup R a1 a2)
    · rw [e]
      exact Ev.neg (fun h => by cases h) (back_dup R a1 a2)
    · rw [eo] at Ro ⊢
      dsimp only at Ro ⊢
      have h8 := (R.row q hq).1
      obtain ⟨_, hfree⟩ := first_free e
      have hpl : placeOf ds ≤ ds.length := List.findIdx_le_length
      have hg := getI_put fs q n (placeOf ds : Int) hq hn
      have hrd := placed_at ds (placeOf ds) ⟨b0, b1, b2, b3, 1, b5⟩ hpl
      have hcp := countR_put fs q n (placeOf ds : Int) hq hn hfree (by omega)
      have hcl := countR_le R (q : Int)
      have hc : closeR (placed ds (placeOf ds) ⟨b0, b1, b2, b3, 1, b5⟩) (fs.set q ((rd_L1 fs (q : Int)).set n (placeOf ds : Int))) (q : Int) (n : Int) = (paddedR ds (placeOf ds : Int), fs, b0, b1, b2, b3, 0, b5, 0) := by
        have hw : wrap64 (1 - 1) = 0 := by unfold wrap64; omega
        have hl : left38 ⟨b0, b1, b2, b3, 1, b5⟩ = ⟨0, 0, false, false, 0, 0⟩ := by
          unfold left38
          rw [if_pos hw]
        unfold closeR
        rw [hg, if_neg (by omega), Int.toNat_natCast, Int.toNat_natCast, Int.toNat_natCast, hrd, hl, placed_left R, put_back fs q n (placeOf ds : Int) (-1) hq hn hfree, hw]
      rw [get_eq Ro, close_eq Ro, hg, hc, getT_some _ (by omega), hrd]
      refine Ev.pos rfl (Ev.bind (Ev.now _) (Ev.bind (Ev.now _) (Ev.pos rfl (Ev.neg (by simp) (Ev.pos rfl (Ev.pos rfl (Ev.pos rfl ?_)))))))
      refine Ev.bind (count_ev Ro (q : Int)) (Ev.bind (count_ev R (q : Int)) (Ev.pos ?_ ?_))
      · rw [hcp]
        unfold wrap64
        omega
      · exact Ev.bind (padded_its R _) (Ev.bind (padded_ev R _) (Ev.bind (R.padded _) (Ev.pos rfl (back_dup R (q : Int) a2))))
end Go.Proofs.Ytkecfdljodiifaa.P
