/- The plain law of HandleOther: it answers true; no program in sight. -/
import Derived.Test.YtkecfdljodiifaaQs
import Derived.Test.YtkecfdljodiifaaQd
import Derived.Test.YtkecfdljodiifaaPlaw10HandleOther
namespace Go.Proofs.Ytkecfdljodiifaa.P
open Go.RowKit Go.Proofs.YtkecfdljodiifaaW.PrintWords Go.Proofs.YtkecfdljodiifaaW.PrintLast Go.Proofs.YtkecfdljodiifaaW.PrintMore

theorem rd_other (fs : List (List Int)) (p : Nat) (q : Int) (row : List Int) (h0 : 0 ≤ q) (h : q ≠ (p : Int)) : rd_L1 (fs.set p row) q = rd_L1 fs q := by
  simp only [rd_L1, List.getD_eq_getElem?_getD]
  rw [List.getElem?_set_ne (by omega)]
theorem getI_other (fs : List (List Int)) (p : Nat) (q k : Int) (row : List Int) (h : q ≠ (p : Int)) : getI (fs.set p row) q k = getI fs q k := by
  unfold getI
  by_cases c : 0 ≤ q
  · rw [rd_other fs p q row c h, List.length_set]
  · rw [if_neg (by omega), if_neg (by omega)]
theorem getI_count {ds : List S38} {fs : List (List Int)} (R : Rt ds fs) {q k : Int} {i : Nat} (h : getI fs q k = (i : Int)) : fs.flatten.count (i : Int) ≠ 0 := by
  obtain ⟨h1, h2, h3, h4, h5⟩ := getI_some (fs := fs) (p := q) (d := k) (by omega)
  obtain ⟨q, rfl⟩ : ∃ k : Nat, q = (k : Int) := ⟨q.toNat, by omega⟩
  obtain ⟨k, rfl⟩ : ∃ m : Nat, k = (m : Int) := ⟨k.toNat, by omega⟩
  have hm : (i : Int) ∈ fs.flatten := by
    refine List.mem_flatten.2 ⟨rd_L1 fs (q : Int), ?_, ?_⟩
    · rw [rd_row fs q (by omega)]
      exact List.getElem_mem _
    · rw [← h, h5, rd_int _ k (by omega)]
      exact List.getElem_mem _
  exact Nat.ne_of_gt (List.count_pos_iff.2 hm)
theorem open_other {ds : List S38} {fs : List (List Int)} (R : Rt ds fs) (p q k : Int) (x : S38) (h : p ≠ q) : getT (openR ds fs p x).1 (getI (openR ds fs p x).2.1 q k) = getT ds (getI fs q k) := by
  rcases openR_cases ds fs p x with ⟨e, _⟩ | ⟨e, _⟩ | ⟨p, n, rfl, hq, hn, e, eo⟩
  · rw [e]
  · rw [e]
  · rw [eo]
    dsimp only
    rw [getI_other fs p q k _ (fun h2 => h h2.symm)]
    have hI := R.getI q k
    by_cases c : getI fs q k = -1
    · rw [c]
      rfl
    · obtain ⟨i, hi⟩ : ∃ m : Nat, getI fs q k = (m : Int) := ⟨(getI fs q k).toNat, by omega⟩
      have hc := getI_count R hi
      have hne : i ≠ placeOf ds := by
        intro ei
        subst ei
        rcases place_cases ds with ⟨g1, _⟩ | ⟨g1, g2, _⟩
        · omega
        · have := (R.desc _ g1).1
          omega
      rw [hi]
      have e2 := rd_placed_other ds (placeOf ds) i { x with f4 := 1 } List.findIdx_le_length hne
      rw [getT_some _ (by omega), getT_some _ (by omega), e2]
theorem close_other {ds : List S38} {fs : List (List Int)} (R : Rt ds fs) (p d q k : Int) (h : p ≠ q) :
    getI (closeR ds fs p d).2.1 q k = getI fs q k ∧ ∀ i : Nat, getI fs q k = (i : Int) → (rd_T38 (closeR ds fs p d).1 (i : Int)).f0 = (rd_T38 ds (i : Int)).f0 ∧ (rd_T38 (closeR ds fs p d).1 (i : Int)).f1 = (rd_T38 ds (i : Int)).f1 := by
  have Rc := R.closed p d
  rcases closeR_cases R p d with ⟨e, _⟩ | ⟨p, n, j, rfl, rfl, hq, hn, hi, hI, hrd, hne, ec⟩
  · rw [e]
    exact ⟨rfl, fun i _ => ⟨rfl, rfl⟩⟩
  · rw [ec] at Rc ⊢
    dsimp only at Rc ⊢
    have hg := getI_other fs p q k ((rd_L1 fs (p : Int)).set n (-1)) (fun h2 => h h2.symm)
    refine ⟨hg, fun i hgi => ?_⟩
    by_cases c : i = j
    · subst c
      have hc2 := getI_count Rc (hg.trans hgi)
      have hc := R.count p n hq hn (-1) (i : Int)
      rw [hrd, if_pos rfl, if_neg (by omega)] at hc
      rw [rd_set_self ds _ _ hi]
      unfold leftR
      rw [if_neg (by omega)]
      exact ⟨rfl, rfl⟩
    · rw [rd_set_other ds j i _ c]
      exact ⟨rfl, rfl⟩
theorem getT_is (ds : List S38) (i : Int) : (getT ds i).2.2.2.2.2.2.2 = !(i == -1) := by
  by_cases c : i = -1
  · rw [c]
    rfl
  · rw [getT_some ds c]
    simp [c]
theorem getT_fst (ds : List S38) (i : Int) : (getT ds i).1 = i := by
  by_cases c : i = -1
  · rw [c]
    rfl
  · rw [getT_some ds c]
theorem other_loop {ds : List S38} {fs : List (List Int)} (R : Rt ds fs) (hd : ds.length < 1000) (p q d : Int) (x : S38) (h : p ≠ q) : ∀ m k : Nat, k ≤ 8 → 8 - k = m →
    Ev (fun n => flagstonelaw10_HandleOther.l0 n q (k : Int) ds fs (openR ds fs p x).1 (openR ds fs p x).2.1 (closeR ds fs p d).1 (closeR ds fs p d).2.1) true := by
  intro m
  induction m with
  | zero =>
    intro k hk hm
    refine Ev.step (fun n => by rw [flagstonelaw10_HandleOther.l0]) ?_
    exact Ev.neg (by omega) (Ev.now _)
  | succ m ih =>
    intro k hk hm
    refine Ev.step (fun n => by rw [flagstonelaw10_HandleOther.l0]) ?_
    rw [get_eq R, get_eq (R.opened hd p x), get_eq (R.closed p d), open_other R p q _ x h]
    obtain ⟨hg, hgf⟩ := close_other R p d q (k : Int) h
    rw [hg]
    refine Ev.pos (by omega) (Ev.bind (Ev.now _) (Ev.bind (Ev.now _) (Ev.bind (Ev.now _) ?_)))
    refine Ev.pos rfl (Ev.neg (by simp) (Ev.neg (by simp) (Ev.pos ?_ (Ev.neg ?_ (Ev.pos ?_ (Ev.pos ?_ ?_))))))
    · rw [getT_fst, getT_fst]
    · rw [getT_is, getT_is]
      simp
    · by_cases c : getI fs q (k : Int) = -1
      · rw [c]
        rfl
      · have hI := R.getI q (k : Int)
        obtain ⟨i, hi⟩ : ∃ m : Nat, getI fs q (k : Int) = (m : Int) := ⟨(getI fs q (k : Int)).toNat, by omega⟩
        have := (hgf i hi).1
        rw [hi, getT_some _ (by omega), getT_some _ (by omega)]
        exact this.symm
    · by_cases c : getI fs q (k : Int) = -1
      · rw [c]
        rfl
      · have hI := R.getI q (k : Int)
        obtain ⟨i, hi⟩ : ∃ m : Nat, getI fs q (k : Int) = (m : Int) := ⟨(getI fs q (k : Int)).toNat, by omega⟩
        have := (hgf i hi).2
        rw [hi, getT_some _ (by omega), getT_some _ (by omega)]
        exact this.symm
    · rw [wrap_small (by omega) (by omega)]
      exact ih (k + 1) (by omega) (by omega)
theorem other_law (ds : List S38) (fs : List (List Int)) (a1 a2 a3 b0 b1 : Int) (b2 b3 : Bool) (b4 b5 : Int) : Ev (fun k => flagstonelaw10_HandleOther.f k ds fs a1 a2 a3 b0 b1 b2 b3 b4 b5) true := by
  have out : Ev (fun k => flagstonelaw10_HandleOther.j0 k a1 a2 a3 true ds fs b0 b1 b2 b3 b4 b5) true := by
    refine Ev.step (fun k => by rw [flagstonelaw10_HandleOther.j0]) ?_
    exact Ev.pos rfl (Ev.bind shown_ev (Ev.now _))
  refine Ev.congr (fun k => by rw [flagstonelaw10_HandleOther.f]) ?_
  refine Ev.bind (fine_ev ds fs) ?_
  cases hF : fineB ds fs
  · exact Ev.neg (by decide) out
  · refine Ev.pos rfl ?_
    by_cases c : a1 = a2
    · exact Ev.pos c out
    · refine Ev.neg c (Ev.bind shown_ev (Ev.step (fun k => by rw [flagstonelaw10_HandleOther.j0]) (Ev.neg (by decide) ?_)))
      obtain ⟨R, h1, h2⟩ := fine_rt hF
      rw [open_eq R, close_eq R]
      refine Ev.bind (Ev.now _) (Ev.bind (Ev.now _) ?_)
      exact other_loop R (by omega) a1 a2 a3 _ c 8 0 (by omega) rfl
end Go.Proofs.Ytkecfdljodiifaa.P
