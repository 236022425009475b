/- The plain law of FlockFair: it answers true; no program in sight. -/
import Derived.Test.YtbfjakhloabhmaaQs
import Derived.Test.YtbfjakhloabhmaaPlaw11FlockFair
namespace Go.Proofs.Ytbfjakhloabhmaa.P
open Go.RowKit Go.Proofs.YtbfjakhloabhmaaW.PrintWords Go.Proofs.YtbfjakhloabhmaaW.PrintLast Go.Proofs.YtbfjakhloabhmaaW.PrintMore

theorem fairlaw_ev (ds : List S44) (fs : List (List Int)) (a1 a2 : Int) : Ev (fun k => flagstonelaw11_FlockFair.f k ds fs a1 a2) true := by
  have out : Ev (fun k => flagstonelaw11_FlockFair.j0 k a1 a2 true ds fs) true := by
    refine Ev.step (fun k => by rw [flagstonelaw11_FlockFair.j0]) ?_
    exact Ev.pos rfl (Ev.bind shown_ev (Ev.now _))
  refine Ev.congr (fun k => by rw [flagstonelaw11_FlockFair.f]) ?_
  refine Ev.bind (fine_ev ds fs) ?_
  cases hF : fineB ds fs
  · exact Ev.neg (by decide) out
  · have F := fine_iff.1 hF
    refine Ev.pos rfl (Ev.bind (its_ev ds fs F.hdi) (Ev.bind (fair_ev ds fs F.hd') ?_))
    cases hR : fairB ds
    · exact Ev.neg (by decide) out
    · refine Ev.pos rfl (Ev.bind shown_ev ?_)
      refine Ev.step (fun k => by rw [flagstonelaw11_FlockFair.j0]) ?_
      refine Ev.neg (by decide) ?_
      rw [lock_eq ds fs a1 a2 F.hd' F.hf']
      refine Ev.bind (Ev.now _) ?_
      rcases lockR_cases ds fs a1 a2 with ⟨e, h0, h2, d1, d2, d3, hb⟩ | ⟨er, e, hne, _⟩
      · rw [e]
        have FP := F.put a1 a2 d1 d2 d3
        have g1 := fine_ev (put ds a1 a2) fs
        have g2 := flockFair_ev (put ds a1 a2) fs FP.hd'
        rw [fine_iff.2 FP] at g1
        rw [fair_put hR h0 h2 d1 d2 hb] at g2
        refine Ev.bind g1 (Ev.pos rfl (Ev.bind g2 ?_))
        refine Ev.step (fun k => by rw [flagstonelaw11_FlockFair.j1]) ?_
        refine Ev.neg (by decide) (Ev.pos rfl (Ev.pos d1 (Ev.pos (by rw [put_length]; exact d2) (Ev.pos d1 ?_))))
        rw [rd_put_self ds a1 a2 d1 d2, beq_self_eq_true]
        exact Ev.now _
      · rw [e]
        have g1 := fine_ev ds fs
        have g2 := flockFair_ev ds fs F.hd'
        rw [hF] at g1
        rw [hR] at g2
        refine Ev.bind g1 (Ev.pos rfl (Ev.bind g2 ?_))
        refine Ev.step (fun k => by rw [flagstonelaw11_FlockFair.j1]) ?_
        refine Ev.neg (by decide) (Ev.neg hne (Ev.bind (its_ev ds fs F.hdi) (Ev.bind (its_ev ds fs F.hdi) ?_)))
        exact Ev.bind (same_ev _ fs (by rw [List.length_map]; exact F.hd') F.hf' F.rows) (Ev.now _)
end Go.Proofs.Ytbfjakhloabhmaa.P
