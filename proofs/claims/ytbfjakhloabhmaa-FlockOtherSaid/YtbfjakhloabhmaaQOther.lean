/- The plain law of FlockOther, told in three parts: one of them answers true; no program in sight. -/
import Derived.Test.YtbfjakhloabhmaaQs
import Derived.Test.YtbfjakhloabhmaaPlaw11FlockOtherA
import Derived.Test.YtbfjakhloabhmaaPlaw11FlockOtherB
import Derived.Test.YtbfjakhloabhmaaPlaw11FlockOtherC
namespace Go.Proofs.Ytbfjakhloabhmaa.P
open Go.RowKit Go.Proofs.YtbfjakhloabhmaaW.PrintWords Go.Proofs.YtbfjakhloabhmaaW.PrintLast Go.Proofs.YtbfjakhloabhmaaW.PrintMore

theorem lock_other (ds : List S44) (fs : List (List Int)) (a1 a2 a3 v : Int) (h1 : 0 ≤ a1) (h2 : 0 ≤ a2) (g2 : a2 < (ds.length : Int)) (hne : ¬ (rd_T44 ds a1).f0 = (rd_T44 ds a2).f0) : (lockR (put ds a2 v) fs a1 a3).2.2 = (lockR ds fs a1 a3).2.2 := by
  have hna : a1 ≠ a2 := fun e => hne (by rw [e])
  have e : rd_T44 (put ds a2 v) a1 = rd_T44 ds a1 := rd_put_other ds a2 v a1 h2 h1 hna
  have eb : blockedTo (put ds a2 v) a1 (rd_T44 ds a1).f0 a3 ds.length = blockedTo ds a1 (rd_T44 ds a1).f0 a3 ds.length := by
    unfold blockedTo
    rw [Bool.eq_iff_iff, List.any_eq_true, List.any_eq_true]
    have h : ∀ k : Nat, blockedAt (put ds a2 v) a1 (rd_T44 ds a1).f0 a3 k = blockedAt ds a1 (rd_T44 ds a1).f0 a3 k := by
      intro k
      by_cases c : (k : Int) = a2
      · unfold blockedAt
        rw [c, rd_put_self ds a2 v h2 g2]
        have hn : ¬ (rd_T44 ds a2).f0 = (rd_T44 ds a1).f0 := fun h => hne h.symm
        simp [hn]
      · unfold blockedAt
        rw [rd_put_other ds a2 v k h2 (by omega) c]
    simp only [h]
  unfold lockR
  rw [put_length, e, eb]
  split
  · rfl
  · split
    · rfl
    · split <;> rfl
theorem relock (ds : List S44) (fs : List (List Int)) (a : Int) (hF : fairB ds = true) (h0 : 0 ≤ a) (h1 : a < (ds.length : Int)) (h4 : ¬ (rd_T44 ds a).f4 < 1) (v0 : 0 ≤ (rd_T44 ds a).f5) (v2 : (rd_T44 ds a).f5 ≤ 2) : lockR (put ds a 0) fs a (rd_T44 ds a).f5 = (ds, fs, 0) := by
  have e : rd_T44 (put ds a 0) a = { rd_T44 ds a with f5 := 0 } := rd_put_self ds a 0 h0 h1
  have hi : a.toNat < ds.length := by omega
  have hxi : ((a.toNat : Nat) : Int) = a := Int.toNat_of_nonneg h0
  have hb : blockedTo (put ds a 0) a (rd_T44 (put ds a 0) a).f0 (rd_T44 ds a).f5 (put ds a 0).length = false := by
    refine blockedTo_false.2 fun k hk => ?_
    rw [put_length] at hk
    cases hq : blockedAt (put ds a 0) a (rd_T44 (put ds a 0) a).f0 (rd_T44 ds a).f5 k
    · rfl
    · rw [e] at hq
      unfold blockedAt inWay at hq
      simp only [Bool.and_eq_true, Bool.or_eq_true, decide_eq_true_eq] at hq
      obtain ⟨⟨q4, q0⟩, qn, q⟩ := hq
      rw [rd_put_other ds a 0 k h0 (by omega) qn] at q4 q0 q
      have f := fairB_iff.1 hF a.toNat hi
      have fk := fairB_iff.1 hF k hk
      rw [hxi] at f
      have hne : k ≠ a.toNat := by omega
      have ta : ∀ l : Int, (rd_T44 ds a).f5 = l → tells (rd_T44 ds a).f0 l (rd_T44 ds ((a.toNat : Nat) : Int)) = true := by
        intro l hl
        rw [hxi, tells_iff]
        exact ⟨by omega, rfl, hl⟩
      have tk : ∀ l : Int, (rd_T44 ds (k : Int)).f5 = l → tells (rd_T44 ds a).f0 l (rd_T44 ds (k : Int)) = true := by
        intro l hl
        rw [tells_iff]
        exact ⟨q4, q0, hl⟩
      rcases q with ⟨qa, qk⟩ | ⟨qa, qk⟩
      · have o := holders_one hi (ta 2 qa)
        rcases (by omega : (rd_T44 ds (k : Int)).f5 = 1 ∨ (rd_T44 ds (k : Int)).f5 = 2) with g | g
        · have o2 := holders_one hk (tk 1 g)
          have := f.2.2.2 (by omega)
          omega
        · have o2 := holders_two hne hk hi (tk 2 g) (ta 2 qa)
          omega
      · have o := holders_one hk (tk 2 qk)
        have o2 := holders_one hi (ta 1 qa)
        have := f.2.2.2 (by omega)
        omega
  have hput : put (put ds a 0) a (rd_T44 ds a).f5 = ds := by
    have e2 : ds[a.toNat] = rd_T44 ds a := by simp [rd_T44, hi]
    show (put ds a 0).set a.toNat { rd_T44 (put ds a 0) a with f5 := (rd_T44 ds a).f5 } = ds
    rw [e]
    show (put ds a 0).set a.toNat (rd_T44 ds a) = ds
    unfold put
    rw [List.set_set, ← e2]
    exact List.set_getElem_self hi
  rw [lockR_ok v0 v2 h0 (by rw [put_length]; exact h1) (by rw [e]; exact h4) hb, hput]

theorem other_ev (ds : List S44) (fs : List (List Int)) (a1 a2 a3 a4 : Int) : Ev (fun k => flagstonelaw11_FlockOtherA.f k ds fs a1 a2 a3 a4) true ∨ Ev (fun k => flagstonelaw11_FlockOtherB.f k ds fs a1 a2 a3 a4) true ∨ Ev (fun k => flagstonelaw11_FlockOtherC.f k ds fs a1 a2 a3 a4) true := by
  by_cases hG : fineB ds fs = true ∧ 0 ≤ a1 ∧ 0 ≤ a2 ∧ a1 < (ds.length : Int) ∧ a2 < (ds.length : Int) ∧ ¬ (rd_T44 ds a1).f0 = (rd_T44 ds a2).f0
  · obtain ⟨hF, h1, h2, g1, g2, hne⟩ := hG
    have F := fine_iff.1 hF
    have gf := fine_ev ds fs
    rw [hF] at gf
    have F2 := F.lock a2 a4
    have same : (lockR ds fs a1 a3).2.2 = (lockR (lockR ds fs a2 a4).1 fs a1 a3).2.2 := by
      rcases lockR_cases ds fs a2 a4 with ⟨e, _⟩ | ⟨er, e, _⟩
      · rw [e]
        exact (lock_other ds fs a1 a2 a3 a4 h1 h2 g2 hne).symm
      · rw [e]
    by_cases hM : ¬ (rd_T44 ds a1).f4 < 1 ∧ 0 ≤ (rd_T44 ds a1).f5 ∧ (rd_T44 ds a1).f5 ≤ 2 ∧ fairB ds = true
    · refine .inr (.inr ?_)
      obtain ⟨h4, v0, v2, hR⟩ := hM
      refine Ev.congr (fun k => by rw [flagstonelaw11_FlockOtherC.f]) ?_
      refine Ev.bind gf (Ev.pos rfl (Ev.neg (by omega) (Ev.neg (by omega) (Ev.neg (by omega) (Ev.neg (by omega) (Ev.pos h1 (Ev.pos g1 (Ev.pos h2 (Ev.pos g2 (Ev.neg hne ?_))))))))))
      refine Ev.bind shown_ev (Ev.pos rfl ?_)
      rw [lock_eq ds fs a1 a3 F.hd' F.hf', lock_eq ds fs a2 a4 F.hd' F.hf']
      refine Ev.bind (Ev.now _) (Ev.bind (Ev.now _) ?_)
      rw [lockR_fds, lock_eq _ fs a1 a3 F2.hd' F.hf']
      refine Ev.bind (Ev.now _) (Ev.pos same (Ev.neg h4 (Ev.neg (by omega) (Ev.neg (by omega) ?_))))
      have fe := fair_ev ds fs F.hd'
      rw [hR] at fe
      refine Ev.bind (its_ev ds fs F.hdi) (Ev.bind fe (Ev.pos rfl ?_))
      rw [lock_eq ds fs a1 0 F.hd' F.hf', lockR_none h1 g1 h4]
      refine Ev.bind (Ev.now _) ?_
      show Ev (fun n => (flock_Lock.f (put ds a1 0) fs a1 (rd_T44 ds a1).f5).bind _) true
      rw [lock_eq (put ds a1 0) fs a1 _ (F.put a1 0 h1 g1 h4).hd' F.hf', relock ds fs a1 hR h1 g1 h4 v0 v2]
      refine Ev.bind (Ev.now _) (Ev.pos rfl (Ev.pos rfl ?_))
      refine Ev.bind (its_ev ds fs F.hdi) (Ev.bind (its_ev ds fs F.hdi) ?_)
      exact Ev.bind (same_ev _ fs (by rw [List.length_map]; exact F.hd') F.hf' F.rows) (Ev.now _)
    · refine .inl ?_
      refine Ev.congr (fun k => by rw [flagstonelaw11_FlockOtherA.f]) ?_
      refine Ev.bind gf (Ev.pos rfl (Ev.neg (by omega) (Ev.neg (by omega) (Ev.neg (by omega) (Ev.neg (by omega) (Ev.pos h1 (Ev.pos g1 (Ev.pos h2 (Ev.pos g2 (Ev.neg hne ?_))))))))))
      refine Ev.bind shown_ev ?_
      refine Ev.step (fun k => by rw [flagstonelaw11_FlockOtherA.j0]) ?_
      refine Ev.neg (by decide) ?_
      rw [lock_eq ds fs a1 a3 F.hd' F.hf', lock_eq ds fs a2 a4 F.hd' F.hf']
      refine Ev.bind (Ev.now _) (Ev.bind (Ev.now _) ?_)
      rw [lockR_fds, lock_eq _ fs a1 a3 F2.hd' F.hf']
      refine Ev.bind (Ev.now _) (Ev.pos same (Ev.pos h1 (Ev.pos g1 ?_)))
      have out : Ev (fun k => flagstonelaw11_FlockOtherA.j1 k true) true := by
        refine Ev.step (fun k => by rw [flagstonelaw11_FlockOtherA.j1]) ?_
        exact Ev.pos rfl (Ev.now _)
      by_cases c1 : (rd_T44 ds a1).f4 < 1
      · exact Ev.pos c1 out
      · refine Ev.neg c1 ?_
        by_cases c2 : (rd_T44 ds a1).f5 < 0
        · exact Ev.pos c2 out
        · refine Ev.neg c2 ?_
          by_cases c3 : (rd_T44 ds a1).f5 > 2
          · exact Ev.pos c3 out
          · refine Ev.neg c3 ?_
            have fe := fair_ev ds fs F.hd'
            have hR : fairB ds = false := by
              cases h : fairB ds
              · rfl
              · exact absurd ⟨c1, by omega, by omega, h⟩ hM
            rw [hR] at fe
            exact Ev.bind (its_ev ds fs F.hdi) (Ev.bind fe out)
  · refine .inr (.inl ?_)
    have out : Ev (fun k => flagstonelaw11_FlockOtherB.j0 k true) true := by
      refine Ev.step (fun k => by rw [flagstonelaw11_FlockOtherB.j0]) ?_
      exact Ev.pos rfl (Ev.bind shown_ev (Ev.now _))
    refine Ev.congr (fun k => by rw [flagstonelaw11_FlockOtherB.f]) ?_
    refine Ev.bind (fine_ev ds fs) ?_
    cases hF : fineB ds fs
    · exact Ev.neg (by decide) out
    · refine Ev.pos rfl ?_
      by_cases c1 : a1 < 0
      · exact Ev.pos c1 out
      · refine Ev.neg c1 ?_
        by_cases c2 : a2 < 0
        · exact Ev.pos c2 out
        · refine Ev.neg c2 ?_
          by_cases c3 : a1 ≥ (ds.length : Int)
          · exact Ev.pos c3 out
          · refine Ev.neg c3 ?_
            by_cases c4 : a2 ≥ (ds.length : Int)
            · exact Ev.pos c4 out
            · refine Ev.neg c4 (Ev.pos (by omega) (Ev.pos (by omega) (Ev.pos (by omega) (Ev.pos (by omega) ?_))))
              by_cases c5 : (rd_T44 ds a1).f0 = (rd_T44 ds a2).f0
              · exact Ev.pos c5 out
              · exact absurd ⟨hF, by omega, by omega, by omega, by omega, c5⟩ hG
end Go.Proofs.Ytbfjakhloabhmaa.P
