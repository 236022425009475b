/- The plain law of FlockKeeps: it answers true; no program in sight. -/
import Derived.Test.YtbfjakhloabhmaaQs
import Derived.Test.YtbfjakhloabhmaaPlaw11FlockKeeps
namespace Go.Proofs.Ytbfjakhloabhmaa.P
open Go.RowKit Go.Proofs.YtbfjakhloabhmaaW.PrintWords Go.Proofs.YtbfjakhloabhmaaW.PrintLast Go.Proofs.YtbfjakhloabhmaaW.PrintMore

theorem keeps_ev (ds : List S44) (fs : List (List Int)) (a1 a2 : Int) : Ev (fun k => flagstonelaw11_FlockKeeps.f k ds fs a1 a2) true := by
  refine Ev.congr (fun k => by rw [flagstonelaw11_FlockKeeps.f]) ?_
  refine Ev.bind (fine_ev ds fs) ?_
  cases hF : fineB ds fs
  · refine Ev.neg (by decide) ?_
    refine Ev.step (fun k => by rw [flagstonelaw11_FlockKeeps.j0]) ?_
    exact Ev.pos rfl (Ev.bind shown_ev (Ev.now _))
  · have F := fine_iff.1 hF
    have hd1 := F.hd'
    refine Ev.pos rfl (Ev.bind shown_ev ?_)
    refine Ev.step (fun k => by rw [flagstonelaw11_FlockKeeps.j0]) ?_
    refine Ev.neg (by decide) ?_
    rw [lock_eq ds fs a1 a2 F.hd' F.hf']
    have hl := lockR_length ds fs a1 a2
    refine Ev.bind (Ev.now _) (Ev.pos (by rw [hl]) ?_)
    have hoth : ∀ k : Nat, (k : Int) ≠ a1 → rd_T44 (lockR ds fs a1 a2).1 (k : Int) = rd_T44 ds (k : Int) := by
      intro k hk
      rcases lockR_cases ds fs a1 a2 with ⟨e, _, _, d1, _⟩ | ⟨er, e, _⟩
      · rw [e]
        exact rd_put_other ds a1 a2 k d1 (by omega) hk
      · rw [e]
    have hself : ∀ k : Nat, (k : Int) = a1 → ({ rd_T44 (lockR ds fs a1 a2).1 (k : Int) with f5 := (rd_T44 ds (k : Int)).f5 } : S44) = rd_T44 ds (k : Int) := by
      intro k hk
      rcases lockR_cases ds fs a1 a2 with ⟨e, _, _, d1, d2, _⟩ | ⟨er, e, _⟩
      · rw [e, hk]
        show ({ rd_T44 (put ds a1 a2) a1 with f5 := _ } : S44) = _
        rw [rd_put_self ds a1 a2 d1 d2]
      · rw [e]
    generalize lockR ds fs a1 a2 = R at hl hoth hself ⊢
    have key : ∀ d j : Nat, j ≤ ds.length → ds.length - j = d → Ev (fun k => flagstonelaw11_FlockKeeps.l0 k a1 (j : Int) ds fs R.1 R.2.1) true := by
      intro d
      induction d with
      | zero =>
        intro j hj hd
        refine Ev.step (fun k => by rw [flagstonelaw11_FlockKeeps.l0]) ?_
        exact Ev.neg (by omega) (Ev.now _)
      | succ d ih =>
        intro j hj hd
        have w1 : wrap64 ((j : Int) + 1) = ((j + 1 : Nat) : Int) := by rw [wrap_small (by omega) (by omega)]; omega
        have go : ∀ x : S44, x = rd_T44 ds (j : Int) → Ev (fun k => flagstonelaw11_FlockKeeps.j2 k a1 (j : Int) ds fs R.1 R.2.1 x.f0 x.f1 x.f2 x.f3 x.f4 x.f5) true := by
          intro x hx
          rw [hx]
          refine Ev.step (fun k => by rw [flagstonelaw11_FlockKeeps.j2]) ?_
          refine Ev.pos (by omega) (Ev.pos (by omega) (Ev.neg (by simp) ?_))
          rw [w1]
          exact ih (j + 1) (by omega) (by omega)
        refine Ev.step (fun k => by rw [flagstonelaw11_FlockKeeps.l0]) ?_
        refine Ev.pos (by omega) (Ev.pos (by omega) (Ev.pos (by omega) ?_))
        by_cases e : (j : Int) = a1
        · exact Ev.pos e (go _ (hself j e))
        · exact Ev.neg e (go _ (hoth j e))
    exact key _ 0 (by omega) rfl
end Go.Proofs.Ytbfjakhloabhmaa.P
