/- The plain law of FlockLets: it answers true; no program in sight. -/
import Derived.Test.YtbfjakhloabhmaaQs
import Derived.Test.YtbfjakhloabhmaaPlaw11FlockLets
namespace Go.Proofs.Ytbfjakhloabhmaa.P
open Go.RowKit Go.Proofs.YtbfjakhloabhmaaW.PrintWords Go.Proofs.YtbfjakhloabhmaaW.PrintLast Go.Proofs.YtbfjakhloabhmaaW.PrintMore

theorem lets_ev (ds : List S44) (fs : List (List Int)) (a1 a2 : Int) : Ev (fun k => flagstonelaw11_FlockLets.f k ds fs a1 a2) true := by
  refine Ev.congr (fun k => by rw [flagstonelaw11_FlockLets.f]) ?_
  refine Ev.bind (fine_ev ds fs) ?_
  cases hF : fineB ds fs
  · refine Ev.neg (by decide) ?_
    refine Ev.step (fun k => by rw [flagstonelaw11_FlockLets.j0]) ?_
    exact Ev.pos rfl (Ev.bind shown_ev (Ev.now _))
  · have F := fine_iff.1 hF
    have hd1 := F.hd'
    refine Ev.pos rfl (Ev.bind shown_ev ?_)
    refine Ev.step (fun k => by rw [flagstonelaw11_FlockLets.j0]) ?_
    refine Ev.neg (by decide) ?_
    rw [lock_eq ds fs a1 a2 F.hd' F.hf']
    refine Ev.bind (Ev.now _) ?_
    by_cases c : (lockR ds fs a1 a2).2.2 = 14
    · refine Ev.pos c ?_
      have hin : 0 ≤ a2 ∧ a2 ≤ 2 ∧ 0 ≤ a1 ∧ a1 < (ds.length : Int) ∧ ¬ (rd_T44 ds a1).f4 < 1 := by
        rcases lockR_cases ds fs a1 a2 with ⟨e, _⟩ | ⟨er, e, _, h⟩
        · rw [e] at c
          exact absurd (show (0 : Int) = 14 from c) (by decide)
        · rw [e] at c
          exact h c
      obtain ⟨h0, h2, d1, d2, d3⟩ := hin
      have key : ∀ d j : Nat, j ≤ ds.length → ds.length - j = d → ∀ cs : List S44, Like ds cs → (∀ k : Nat, k < j → (k : Int) ≠ a1 → ¬ (rd_T44 ds (k : Int)).f4 < 1 → (rd_T44 cs (k : Int)).f5 = 0) → Ev (fun k => flagstonelaw11_FlockLets.l0 k a1 a2 (j : Int) cs fs) true := by
        intro d
        induction d with
        | zero =>
          intro j hj hd cs L hz
          have hl := L.1
          refine Ev.step (fun k => by rw [flagstonelaw11_FlockLets.l0]) ?_
          refine Ev.neg (by omega) ?_
          rw [lock_eq cs fs a1 a2 (by rw [hl]; exact F.hd') F.hf']
          have hL := L.2 a1.toNat
          rw [Int.toNat_of_nonneg d1] at hL
          have hb : blockedTo cs a1 (rd_T44 cs a1).f0 a2 cs.length = false := by
            refine blockedTo_false.2 fun k hk => ?_
            cases hq : blockedAt cs a1 (rd_T44 cs a1).f0 a2 k
            · rfl
            · unfold blockedAt inWay at hq
              simp only [Bool.and_eq_true, Bool.or_eq_true, decide_eq_true_eq] at hq
              have h4 := (L.2 k).2
              have h5 := hz k (by omega) hq.2.1 (by omega)
              rcases hq.2.2 with g | g
              · exact absurd h5 g.2
              · rw [g.2] at h5
                exact absurd h5 (by decide)
          rw [lockR_ok h0 h2 d1 (by omega) (by rw [hL.2]; exact d3) hb]
          refine Ev.bind (Ev.now _) (Ev.pos rfl (Ev.pos d1 (Ev.pos (by rw [put_length]; omega) (Ev.pos d1 ?_))))
          rw [rd_put_self cs a1 a2 d1 (by omega), beq_self_eq_true]
          exact Ev.now _
        | succ d ih =>
          intro j hj hd cs L hz
          have hl := L.1
          have w1 : wrap64 ((j : Int) + 1) = ((j + 1 : Nat) : Int) := by rw [wrap_small (by omega) (by omega)]; omega
          have skip : ((j : Int) = a1 ∨ (rd_T44 ds (j : Int)).f4 < 1) → Ev (fun k => flagstonelaw11_FlockLets.j2 k a1 a2 (j : Int) true cs fs) true := by
            intro hs
            refine Ev.step (fun k => by rw [flagstonelaw11_FlockLets.j2]) ?_
            refine Ev.pos rfl ?_
            rw [w1]
            refine ih (j + 1) (by omega) (by omega) cs L fun k hk h1 h4 => ?_
            rcases Nat.lt_or_eq_of_le (Nat.lt_succ_iff.1 hk) with g | g
            · exact hz k g h1 h4
            · rw [g] at h1 h4
              rcases hs with s | s
              · exact absurd s h1
              · exact absurd s h4
          refine Ev.step (fun k => by rw [flagstonelaw11_FlockLets.l0]) ?_
          refine Ev.pos (by omega) ?_
          by_cases g1 : (j : Int) = a1
          · exact Ev.pos g1 (skip (.inl g1))
          · refine Ev.neg g1 (Ev.pos (by omega) ?_)
            have h4 := (L.2 j).2
            rw [h4]
            by_cases g2 : (rd_T44 ds (j : Int)).f4 < 1
            · rw [decide_eq_true g2]
              exact skip (.inr g2)
            · rw [decide_eq_false g2]
              refine Ev.step (fun k => by rw [flagstonelaw11_FlockLets.j2]) ?_
              refine Ev.neg (by decide) ?_
              rw [lock_eq cs fs (j : Int) 0 (by rw [hl]; exact F.hd') F.hf', lockR_none (by omega) (by omega) (by rw [h4]; exact g2)]
              refine Ev.bind (Ev.now _) (Ev.pos rfl (Ev.pos (by rw [put_length]) ?_))
              rw [w1]
              refine ih (j + 1) (by omega) (by omega) _ (L.put _ _ (by omega) (by omega)) fun k hk h1 h4 => ?_
              by_cases e : (k : Int) = (j : Int)
              · rw [e, rd_put_self cs _ _ (by omega) (by omega)]
              · rw [rd_put_other cs _ _ _ (by omega) (by omega) e]
                exact hz k (by omega) h1 h4
      exact key _ 0 (by omega) rfl ds (Like.refl ds) fun k hk => absurd hk (by omega)
    · exact Ev.neg c (Ev.now _)
end Go.Proofs.Ytbfjakhloabhmaa.P
