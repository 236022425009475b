/- The plain law of HandleSets: it answers true; no program in sight. -/
import Derived.Test.YtkecfdljodiifaaQs
import Derived.Test.YtkecfdljodiifaaQd
import Derived.Test.YtkecfdljodiifaaPlaw10HandleSets
namespace Go.Proofs.Ytkecfdljodiifaa.P
open Go.RowKit Go.Proofs.YtkecfdljodiifaaW.PrintWords Go.Proofs.YtkecfdljodiifaaW.PrintLast Go.Proofs.YtkecfdljodiifaaW.PrintMore

theorem getI_count3 {ds : List S38} {fs : List (List Int)} (R : Rt ds fs) {q k : Int} {i : Nat} (h : getI fs q k = (i : Int)) : fs.flatten.count (i : Int) ≠ 0 := by
  obtain ⟨h1, h2, h3, h4, h5⟩ := getI_some (fs := fs) (p := q) (d := k) (by omega)
  obtain ⟨q, rfl⟩ : ∃ k : Nat, q = (k : Int) := ⟨q.toNat, by omega⟩
  obtain ⟨k, rfl⟩ : ∃ m : Nat, k = (m : Int) := ⟨k.toNat, by omega⟩
  have hm : (i : Int) ∈ fs.flatten := by
    refine List.mem_flatten.2 ⟨rd_L1 fs (q : Int), ?_, ?_⟩
    · rw [rd_row fs q (by omega)]
      exact List.getElem_mem _
    · rw [← h, h5, rd_int _ k (by omega)]
      exact List.getElem_mem _
  exact Nat.ne_of_gt (List.count_pos_iff.2 hm)
theorem setR_rows (ds : List S38) (fs : List (List Int)) (i : Int) (x : S38) : (setR ds fs i x).2 = fs := by
  unfold setR
  split <;> rfl
theorem setR_length (ds : List S38) (fs : List (List Int)) (i : Int) (x : S38) : (setR ds fs i x).1.length = ds.length := by
  unfold setR
  split
  · rfl
  · exact List.length_set
theorem setR_other (ds : List S38) (fs : List (List Int)) (i : Int) (k : Nat) (x : S38) (h : i ≠ (k : Int)) : rd_T38 (setR ds fs i x).1 (k : Int) = rd_T38 ds (k : Int) := by
  unfold setR
  split
  · rfl
  · exact rd_set_other ds _ k _ (by omega)
theorem setR_self {ds : List S38} {fs : List (List Int)} (k : Nat) (x : S38) (hk : k < ds.length) (h : (rd_T38 ds (k : Int)).f4 ≠ 0) : rd_T38 (setR ds fs (k : Int) x).1 (k : Int) = { x with f4 := (rd_T38 ds (k : Int)).f4 } := by
  unfold setR
  rw [if_neg (by omega), Int.toNat_natCast]
  exact rd_set_self ds k _ hk
theorem sets_inner {ds : List S38} {fs : List (List Int)} (R : Rt ds fs) (i b0 b1 : Int) (b2 b3 : Bool) (b4 b5 : Int) (p : Int)
    (h : Ev (fun n => flagstonelaw10_HandleSets.l0 n i (wrap64 (p + 1)) ds fs b0 b1 b2 b3 b4 b5 (setR ds fs i ⟨b0, b1, b2, b3, b4, b5⟩).1 fs) true) : ∀ m k : Nat, k ≤ 8 → 8 - k = m →
    Ev (fun n => flagstonelaw10_HandleSets.l1 n i p (k : Int) ds fs b0 b1 b2 b3 b4 b5 (setR ds fs i ⟨b0, b1, b2, b3, b4, b5⟩).1 fs) true := by
  have Rs := R.sets i ⟨b0, b1, b2, b3, b4, b5⟩
  rw [setR_rows] at Rs
  intro m
  induction m with
  | zero =>
    intro k hk hm
    refine Ev.step (fun n => by rw [flagstonelaw10_HandleSets.l1]) ?_
    exact Ev.neg (by omega) h
  | succ m ih =>
    intro k hk hm
    have nx := ih (k + 1) (by omega) (by omega)
    have hw : wrap64 ((k : Int) + 1) = ((k + 1 : Nat) : Int) := by rw [wrap_small (by omega) (by omega)]; omega
    refine Ev.step (fun n => by rw [flagstonelaw10_HandleSets.l1]) ?_
    rw [get_eq R, get_eq Rs]
    refine Ev.pos (by omega) (Ev.bind (Ev.now _) (Ev.bind (Ev.now _) ?_))
    have hI := R.getI p (k : Int)
    by_cases c : getI fs p (k : Int) = -1
    · rw [c, getT_none, getT_none]
      refine Ev.neg (by decide) (Ev.step (fun n => by rw [flagstonelaw10_HandleSets.j3]) ?_)
      refine Ev.neg (by decide) (Ev.pos rfl (Ev.neg (by decide) (Ev.neg (by decide) ?_)))
      rw [hw]
      exact nx
    · obtain ⟨j, hj⟩ : ∃ m : Nat, getI fs p (k : Int) = (m : Int) := ⟨(getI fs p (k : Int)).toNat, by omega⟩
      have hc := getI_count3 R hj
      have h4 := (R.desc j (by omega)).1
      rw [hj, getT_some _ (by omega), getT_some _ (by omega)]
      refine Ev.pos rfl (Ev.step (fun n => by rw [flagstonelaw10_HandleSets.j3]) ?_)
      by_cases e : (j : Int) = i
      · subst e
        rw [setR_self j _ (by omega) (by omega)]
        refine Ev.pos (by simp) (Ev.pos rfl (Ev.neg (by simp) (Ev.neg (by simp) ?_)))
        rw [hw]
        exact nx
      · rw [setR_other ds fs i j _ (fun h => e h.symm)]
        refine Ev.neg (by simpa using e) (Ev.pos rfl (Ev.neg (by simp) (Ev.neg (by simp) ?_)))
        rw [hw]
        exact nx
theorem sets_law (ds : List S38) (fs : List (List Int)) (i b0 b1 : Int) (b2 b3 : Bool) (b4 b5 : Int) : Ev (fun k => flagstonelaw10_HandleSets.f k ds fs i b0 b1 b2 b3 b4 b5) true := by
  refine Ev.congr (fun k => by rw [flagstonelaw10_HandleSets.f]) ?_
  refine Ev.bind (fine_ev ds fs) ?_
  cases hF : fineB ds fs
  · refine Ev.neg (by decide) (Ev.step (fun k => by rw [flagstonelaw10_HandleSets.j0]) ?_)
    exact Ev.pos rfl (Ev.bind shown_ev (Ev.now _))
  · refine Ev.pos rfl (Ev.bind shown_ev (Ev.step (fun k => by rw [flagstonelaw10_HandleSets.j0]) (Ev.neg (by decide) ?_)))
    obtain ⟨R, h1, h2⟩ := fine_rt hF
    rw [set_eq R]
    refine Ev.bind (Ev.now _) ?_
    rw [setR_rows]
    have key : ∀ m p : Nat, p ≤ fs.length → fs.length - p = m → Ev (fun n => flagstonelaw10_HandleSets.l0 n i (p : Int) ds fs b0 b1 b2 b3 b4 b5 (setR ds fs i ⟨b0, b1, b2, b3, b4, b5⟩).1 fs) true := by
      intro m
      induction m with
      | zero =>
        intro p hp hm
        refine Ev.step (fun n => by rw [flagstonelaw10_HandleSets.l0]) ?_
        refine Ev.neg (by omega) ?_
        rw [setR_length, beq_self_eq_true]
        exact Ev.now _
      | succ m ih =>
        intro p hp hm
        refine Ev.step (fun n => by rw [flagstonelaw10_HandleSets.l0]) ?_
        refine Ev.pos (by omega) (sets_inner R i b0 b1 b2 b3 b4 b5 (p : Int) ?_ 8 0 (by omega) rfl)
        rw [wrap_small (by omega) (by omega)]
        exact ih (p + 1) (by omega) (by omega)
    exact key _ 0 (by omega) rfl
end Go.Proofs.Ytkecfdljodiifaa.P
