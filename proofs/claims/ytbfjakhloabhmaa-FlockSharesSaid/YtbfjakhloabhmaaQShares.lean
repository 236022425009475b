/- The plain law of FlockShares: it answers true; no program in sight. -/
import Derived.Test.YtbfjakhloabhmaaQs
import Derived.Test.YtbfjakhloabhmaaPlaw11FlockShares
namespace Go.Proofs.Ytbfjakhloabhmaa.P
open Go.RowKit Go.Proofs.YtbfjakhloabhmaaW.PrintWords Go.Proofs.YtbfjakhloabhmaaW.PrintLast Go.Proofs.YtbfjakhloabhmaaW.PrintMore

/-- an open description of the file -/
def ofFile (ino : Int) (x : S44) : Bool := decide (x.f4 > 0) && decide (x.f0 = ino)
theorem ofFile_iff {ino : Int} {x : S44} : ofFile ino x = true ↔ x.f4 > 0 ∧ x.f0 = ino := by simp [ofFile]
theorem shares_ev (ds : List S44) (fs : List (List Int)) (ino : Int) : Ev (fun k => flagstonelaw11_FlockShares.f k ds fs ino) true := by
  refine Ev.congr (fun k => by rw [flagstonelaw11_FlockShares.f]) ?_
  refine Ev.bind (fine_ev ds fs) ?_
  cases hF : fineB ds fs
  · refine Ev.neg (by decide) ?_
    refine Ev.step (fun k => by rw [flagstonelaw11_FlockShares.j0]) ?_
    exact Ev.pos rfl (Ev.bind shown_ev (Ev.now _))
  · have F := fine_iff.1 hF
    have hd1 := F.hd'
    refine Ev.pos rfl (Ev.bind shown_ev ?_)
    refine Ev.step (fun k => by rw [flagstonelaw11_FlockShares.j0]) ?_
    refine Ev.neg (by decide) ?_
    -- the last step: all of the file hold Shared
    have last : ∀ cs : List S44, ∀ x6 : Int, Like ds cs → (∀ k : Nat, k < ds.length → ofFile ino (rd_T44 ds (k : Int)) = true → (rd_T44 cs (k : Int)).f5 = 1) →
        ((List.range ds.length).countP (fun (k : Nat) => ofFile ino (rd_T44 ds (k : Int))) ≠ 0 → 0 ≤ x6 ∧ x6 < (ds.length : Int) ∧ ofFile ino (rd_T44 ds x6) = true) →
        Ev (fun k => (flock_Holders.f cs fs ino).bind fun bt513 => (if bt513.1 = ((List.range ds.length).countP (fun (k : Nat) => ofFile ino (rd_T44 ds (k : Int))) : Int) then (flagstonelaw11_FlockShares.j5 k ((List.range ds.length).countP (fun (k : Nat) => ofFile ino (rd_T44 ds (k : Int))) : Int) x6 (bt513.2 != 0) cs fs) else (flagstonelaw11_FlockShares.j5 k ((List.range ds.length).countP (fun (k : Nat) => ofFile ino (rd_T44 ds (k : Int))) : Int) x6 true cs fs))) true := by
      intro cs x6 L h1 h6
      have hl := L.1
      have e1 : holdersOf cs ino 1 = (List.range ds.length).countP (fun (k : Nat) => ofFile ino (rd_T44 ds (k : Int))) := by
        rw [holders_range, hl]
        refine List.countP_congr fun k hk => ?_
        rw [tells_iff, ofFile_iff, (L.2 k).1, (L.2 k).2]
        exact ⟨fun h => ⟨h.1, h.2.1⟩, fun h => ⟨h.1, h.2, h1 k (List.mem_range.1 hk) (ofFile_iff.2 h)⟩⟩
      have e2 : holdersOf cs ino 2 = 0 := by
        refine holders_zero fun k hk => ?_
        cases ht : tells ino 2 (rd_T44 cs (k : Int))
        · rfl
        · rw [tells_iff, (L.2 k).1, (L.2 k).2] at ht
          have := h1 k (by omega) (ofFile_iff.2 ⟨ht.1, ht.2.1⟩)
          rw [ht.2.2] at this
          exact absurd this (by decide)
      generalize hN : (List.range ds.length).countP (fun (k : Nat) => ofFile ino (rd_T44 ds (k : Int))) = N at e1 h6 ⊢
      refine Ev.bind (Ev.now ((holdersOf cs ino 1 : Int), (holdersOf cs ino 2 : Int))) ?_
      rw [e1, e2]
      refine Ev.pos rfl ?_
      have hz : (((0 : Nat) : Int) != 0) = false := rfl
      rw [hz]
      refine Ev.step (fun k => by rw [flagstonelaw11_FlockShares.j5]) ?_
      refine Ev.neg (by decide) ?_
      by_cases c : N = 0
      · rw [c]
        exact Ev.pos rfl (Ev.now _)
      · refine Ev.neg (by omega) ?_
        obtain ⟨d1, d2, ho⟩ := h6 c
        have ho2 := ofFile_iff.1 ho
        have hL := L.2 x6.toNat
        rw [Int.toNat_of_nonneg d1] at hL
        rw [lock_eq cs fs x6 2 (by rw [hl]; exact F.hd') F.hf']
        have d3 : ¬ (rd_T44 cs x6).f4 < 1 := by rw [hL.2]; omega
        have hi : x6.toNat < ds.length := by omega
        have hxi : ((x6.toNat : Nat) : Int) = x6 := Int.toNat_of_nonneg d1
        cases hb : blockedTo cs x6 (rd_T44 cs x6).f0 2 cs.length
        · rw [lockR_ok (by decide) (by decide) d1 (by omega) d3 hb]
          have hN1 : N = 1 := by
            have hle : (List.range ds.length).countP (fun (k : Nat) => ofFile ino (rd_T44 ds (k : Int))) ≤ if ds.length ≤ x6.toNat then 0 else 1 := by
              refine count_le_one _ x6.toNat _ fun k hk hp => ?_
              have hp : ofFile ino (rd_T44 ds (k : Int)) = true := hp
              have hp2 := ofFile_iff.1 hp
              rcases Classical.em ((k : Int) = x6) with e | e
              · omega
              · have := (free_of hb k (by omega) e (by rw [(L.2 k).2]; exact hp2.1) (by rw [(L.2 k).1, hL.1, hp2.2, ho2.2])).1 rfl
                rw [h1 k hk hp] at this
                exact absurd this (by decide)
            rw [hN, if_neg (by omega)] at hle
            omega
          rw [hN1]
          exact Ev.bind (Ev.now _) (Ev.pos rfl (Ev.pos rfl (Ev.now _)))
        · rw [lockR_shut (by decide) (by decide) d1 (by omega) d3 hb]
          have hN2 : 2 ≤ N := by
            rw [← hN]
            have hq : ∃ k : Nat, k < cs.length ∧ blockedAt cs x6 (rd_T44 cs x6).f0 2 k = true := by
              simpa [blockedTo] using hb
            obtain ⟨k, hk, hq⟩ := hq
            unfold blockedAt inWay at hq
            simp only [Bool.and_eq_true, decide_eq_true_eq] at hq
            have hp : ofFile ino (rd_T44 ds (k : Int)) = true := ofFile_iff.2 ⟨by rw [← (L.2 k).2]; exact hq.1.1, by rw [← (L.2 k).1, hq.1.2, hL.1]; exact ho2.2⟩
            have hne : k ≠ x6.toNat := by
              intro e
              exact hq.2.1 (by omega)
            have hpx : ofFile ino (rd_T44 ds ((x6.toNat : Nat) : Int)) = true := by rw [hxi]; exact ho
            rcases Nat.lt_or_gt_of_ne hne with g | g
            · exact two_le_count _ _ k x6.toNat g hi hp hpx
            · exact two_le_count _ _ x6.toNat k g (by omega) hpx hp
          have e : ((N : Int) == 1) = false := by
            rw [beq_eq_false_iff_ne]
            omega
          rw [e]
          exact Ev.bind (Ev.now _) (Ev.pos rfl (Ev.neg (show ¬ (14 : Int) = 0 by decide) (Ev.now _)))
    -- all of the file take Shared
    have key1 : ∀ d j : Nat, j ≤ ds.length → ds.length - j = d → ∀ (cs : List S44) (x6 : Int), Like ds cs →
        (∀ k : Nat, k < ds.length → ofFile ino (rd_T44 ds (k : Int)) = true → (rd_T44 cs (k : Int)).f5 = if k < j then 1 else 0) →
        ((List.range j).countP (fun (k : Nat) => ofFile ino (rd_T44 ds (k : Int))) ≠ 0 → 0 ≤ x6 ∧ x6 < (ds.length : Int) ∧ ofFile ino (rd_T44 ds x6) = true) →
        Ev (fun k => flagstonelaw11_FlockShares.l1 k ino ((List.range j).countP (fun (k : Nat) => ofFile ino (rd_T44 ds (k : Int))) : Int) x6 (j : Int) cs fs) true := by
      intro d
      induction d with
      | zero =>
        intro j hj hd cs x6 L h1 h6
        obtain rfl : j = ds.length := by omega
        have hl := L.1
        refine Ev.step (fun k => by rw [flagstonelaw11_FlockShares.l1]) ?_
        refine Ev.neg (by omega) ?_
        exact last cs x6 L (fun k hk hp => by rw [h1 k hk hp, if_pos hk]) h6
      | succ d ih =>
        intro j hj hd cs x6 L h1 h6
        have hl := L.1
        have hjn : j < ds.length := by omega
        have hj0 : (0 : Int) ≤ (j : Int) := by omega
        have hjc : (j : Int) < (cs.length : Int) := by omega
        have hjd : (j : Int) < (ds.length : Int) := by omega
        have w1 : wrap64 ((j : Int) + 1) = ((j + 1 : Nat) : Int) := by rw [wrap_small (by omega) (by omega)]; omega
        have hNle : (List.range j).countP (fun (k : Nat) => ofFile ino (rd_T44 ds (k : Int))) ≤ (List.range j).length := List.countP_le_length
        rw [List.length_range] at hNle
        have hstep : (List.range (j + 1)).countP (fun (k : Nat) => ofFile ino (rd_T44 ds (k : Int))) = (List.range j).countP (fun (k : Nat) => ofFile ino (rd_T44 ds (k : Int))) + (if ofFile ino (rd_T44 ds (j : Int)) = true then 1 else 0) := by
          rw [List.range_succ, List.countP_append, List.countP_singleton]
        have I := ih (j + 1) (by omega) (by omega)
        rw [hstep] at I
        generalize (List.range j).countP (fun (k : Nat) => ofFile ino (rd_T44 ds (k : Int))) = N at hNle I h6 ⊢
        have w2 : wrap64 ((N : Int) + 1) = ((N + 1 : Nat) : Int) := by rw [wrap_small (by omega) (by omega)]; omega
        refine Ev.step (fun k => by rw [flagstonelaw11_FlockShares.l1]) ?_
        refine Ev.pos hjc (Ev.pos hj0 ?_)
        have rest : ∀ b : Bool, b = ofFile ino (rd_T44 ds (j : Int)) → Ev (fun k => flagstonelaw11_FlockShares.j4 k ino (N : Int) x6 (j : Int) b cs fs) true := by
          intro b hb
          refine Ev.step (fun k => by rw [flagstonelaw11_FlockShares.j4]) ?_
          rw [w1, w2]
          rw [← hb] at I
          cases b
          · refine Ev.neg (by decide) ?_
            refine I cs x6 L (fun k hk hp => ?_) (fun h => h6 h)
            rw [h1 k hk hp]
            by_cases g : k < j
            · rw [if_pos g, if_pos (by omega)]
            · have : k ≠ j := by
                intro e
                rw [e, ← hb] at hp
                exact absurd hp (by decide)
              rw [if_neg g, if_neg (by omega)]
          · refine Ev.pos rfl ?_
            have hp := ofFile_iff.1 hb.symm
            have d3 : ¬ (rd_T44 cs (j : Int)).f4 < 1 := by rw [(L.2 j).2]; omega
            have hfree : blockedTo cs (j : Int) (rd_T44 cs (j : Int)).f0 1 cs.length = false := by
              refine blockedTo_false.2 fun k hk => ?_
              cases hq : blockedAt cs (j : Int) (rd_T44 cs (j : Int)).f0 1 k
              · rfl
              · unfold blockedAt inWay at hq
                simp only [Bool.and_eq_true, Bool.or_eq_true, decide_eq_true_eq] at hq
                have hpk : ofFile ino (rd_T44 ds (k : Int)) = true := ofFile_iff.2 ⟨by rw [← (L.2 k).2]; exact hq.1.1, by rw [← (L.2 k).1, hq.1.2, (L.2 j).1]; exact hp.2⟩
                have h5 := h1 k (by omega) hpk
                rcases hq.2.2 with g | g
                · exact absurd g.1 (by decide)
                · rw [g.2] at h5
                  split at h5
                  · exact absurd h5 (by decide)
                  · exact absurd h5 (by decide)
            rw [lock_eq cs fs (j : Int) 1 (by rw [hl]; exact F.hd') F.hf', lockR_ok (by decide) (by decide) hj0 hjc d3 hfree]
            refine Ev.bind (Ev.now _) (Ev.pos rfl (Ev.pos (by rw [put_length]) ?_))
            refine I _ (j : Int) (L.put _ _ hj0 hjd) (fun k hk hpk => ?_) (fun _ => ⟨hj0, hjd, hb.symm⟩)
            by_cases e : (k : Int) = (j : Int)
            · rw [e, rd_put_self cs _ _ hj0 hjc, if_pos (by omega)]
            · rw [rd_put_other cs _ _ _ hj0 (by omega) e, h1 k hk hpk]
              by_cases g : k < j
              · rw [if_pos g, if_pos (by omega)]
              · rw [if_neg g, if_neg (by omega)]
        rw [(L.2 j).1, (L.2 j).2]
        by_cases c1 : (rd_T44 ds (j : Int)).f4 > 0
        · refine Ev.pos c1 (rest _ ?_)
          simp only [ofFile, decide_eq_true c1, Bool.true_and]
          rfl
        · exact Ev.neg c1 (rest _ (by simp [ofFile, c1]))
    -- all of the file let go
    have key0 : ∀ d j : Nat, j ≤ ds.length → ds.length - j = d → ∀ cs : List S44, Like ds cs → (∀ k : Nat, k < j → ofFile ino (rd_T44 ds (k : Int)) = true → (rd_T44 cs (k : Int)).f5 = 0) →
        Ev (fun k => flagstonelaw11_FlockShares.l0 k ino 0 (-1) (j : Int) cs fs) true := by
      intro d
      induction d with
      | zero =>
        intro j hj hd cs L h1
        have hl := L.1
        refine Ev.step (fun k => by rw [flagstonelaw11_FlockShares.l0]) ?_
        refine Ev.neg (by omega) ?_
        exact key1 ds.length 0 (by omega) (by omega) cs (-1) L (fun k hk hp => h1 k (by omega) hp) (fun h => absurd rfl h)
      | succ d ih =>
        intro j hj hd cs L h1
        have hl := L.1
        have hj0 : (0 : Int) ≤ (j : Int) := by omega
        have hjc : (j : Int) < (cs.length : Int) := by omega
        have hjd : (j : Int) < (ds.length : Int) := by omega
        have w1 : wrap64 ((j : Int) + 1) = ((j + 1 : Nat) : Int) := by rw [wrap_small (by omega) (by omega)]; omega
        have rest : ∀ b : Bool, b = ofFile ino (rd_T44 ds (j : Int)) → Ev (fun k => flagstonelaw11_FlockShares.j2 k ino 0 (-1) (j : Int) b cs fs) true := by
          intro b hb
          refine Ev.step (fun k => by rw [flagstonelaw11_FlockShares.j2]) ?_
          rw [w1]
          cases b
          · refine Ev.neg (by decide) (ih (j + 1) (by omega) (by omega) cs L fun k hk hp => ?_)
            refine h1 k ?_ hp
            have : k ≠ j := by
              intro e
              rw [e, ← hb] at hp
              exact absurd hp (by decide)
            omega
          · have hp := ofFile_iff.1 hb.symm
            have d3 : ¬ (rd_T44 cs (j : Int)).f4 < 1 := by rw [(L.2 j).2]; omega
            rw [lock_eq cs fs (j : Int) 0 (by rw [hl]; exact F.hd') F.hf', lockR_none hj0 hjc d3]
            refine Ev.pos rfl (Ev.bind (Ev.now _) (Ev.pos rfl (Ev.pos (by rw [put_length]) ?_)))
            refine ih (j + 1) (by omega) (by omega) _ (L.put _ _ hj0 hjd) fun k hk hpk => ?_
            by_cases e : (k : Int) = (j : Int)
            · rw [e, rd_put_self cs _ _ hj0 hjc]
            · rw [rd_put_other cs _ _ _ hj0 (by omega) e]
              exact h1 k (by omega) hpk
        refine Ev.step (fun k => by rw [flagstonelaw11_FlockShares.l0]) ?_
        refine Ev.pos hjc (Ev.pos hj0 ?_)
        rw [(L.2 j).1, (L.2 j).2]
        by_cases c1 : (rd_T44 ds (j : Int)).f4 > 0
        · refine Ev.pos c1 (rest _ ?_)
          simp only [ofFile, decide_eq_true c1, Bool.true_and]
          rfl
        · exact Ev.neg c1 (rest _ (by simp [ofFile, c1]))
    exact key0 _ 0 (by omega) rfl ds (Like.refl ds) fun k hk => absurd hk (by omega)
end Go.Proofs.Ytbfjakhloabhmaa.P
