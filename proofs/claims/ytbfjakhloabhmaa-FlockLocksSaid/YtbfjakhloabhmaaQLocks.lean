/- The plain law of FlockLocks: it answers true; no program in sight. -/
import Derived.Test.YtbfjakhloabhmaaQs
import Derived.Test.YtbfjakhloabhmaaPlaw11FlockLocks
namespace Go.Proofs.Ytbfjakhloabhmaa.P
open Go.RowKit Go.Proofs.YtbfjakhloabhmaaW.PrintWords Go.Proofs.YtbfjakhloabhmaaW.PrintLast Go.Proofs.YtbfjakhloabhmaaW.PrintMore

theorem locks_ev (ds : List S44) (fs : List (List Int)) (a1 a2 a3 : Int) : Ev (fun k => flagstonelaw11_FlockLocks.f k ds fs a1 a2 a3) true := by
  refine Ev.congr (fun k => by rw [flagstonelaw11_FlockLocks.f]) ?_
  refine Ev.bind (fine_ev ds fs) ?_
  cases hF : fineB ds fs
  · refine Ev.neg (by decide) ?_
    refine Ev.step (fun k => by rw [flagstonelaw11_FlockLocks.j0]) ?_
    exact Ev.pos rfl (Ev.bind shown_ev (Ev.now _))
  · have F := fine_iff.1 hF
    have FL := F.lock a1 a2
    refine Ev.pos rfl (Ev.bind shown_ev ?_)
    refine Ev.step (fun k => by rw [flagstonelaw11_FlockLocks.j0]) ?_
    refine Ev.neg (by decide) ?_
    rw [lock_eq ds fs a1 a2 F.hd' F.hf']
    refine Ev.bind (Ev.now _) (Ev.bind (its_ev ds fs F.hdi) (Ev.bind (lock_ev ds fs a1 a2 F.hd' F.hf' F.rows) ?_))
    refine Ev.bind (Ev.now ((holdersOf ds a3 1 : Int), (holdersOf ds a3 2 : Int))) (Ev.bind (its_ev ds fs F.hdi) (Ev.bind (holders_ev ds fs a3 F.hd') ?_))
    refine Ev.bind (its_ev _ _ FL.hdi) ?_
    rw [lockR_fds]
    refine Ev.bind (same_ev _ fs (by rw [List.length_map]; exact FL.hd') F.hf' F.rows) (Ev.pos rfl (Ev.pos rfl (Ev.pos rfl (Ev.pos rfl ?_))))
    refine Ev.bind (flockFair_ev ds fs F.hd') (Ev.bind (its_ev ds fs F.hdi) (Ev.bind (fair_ev ds fs F.hd') ?_))
    rw [beq_self_eq_true]
    exact Ev.now _
end Go.Proofs.Ytbfjakhloabhmaa.P
