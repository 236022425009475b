/- Plain laws, third part: Same, copied, Set, Lock of the reference as plain functions of lists; no program in sight. -/
import Derived.Test.YtbfjakhloabhmaaQb
import Derived.Test.YtbfjakhloabhmaaPflockLock
namespace Go.Proofs.Ytbfjakhloabhmaa.P
open Go.RowKit Go.Proofs.YtbfjakhloabhmaaW.PrintWords Go.Proofs.YtbfjakhloabhmaaW.PrintLast Go.Proofs.YtbfjakhloabhmaaW.PrintMore

theorem same_ev (l0 : List S52) (l1 : List (List Int)) (h0 : l0.length < 1000000) (h1 : l1.length < 1000000) (h2 : ∀ i : Nat, i < l1.length → (rd_L4 l1 (i : Int)).length < 1000000) : Ev (fun k => flagstoneref10_Same.f k l0 l1 l0 l1) true := by
  have k2 : ∀ i : Nat, i < l1.length → Ev (fun k => flagstoneref10_Same.l1 k ((i + 1 : Nat) : Int) l0 l1 l0 l1) true → ∀ d j : Nat, j ≤ (rd_L4 l1 (i : Int)).length → (rd_L4 l1 (i : Int)).length - j = d → Ev (fun k => flagstoneref10_Same.l2 k (i : Int) (j : Int) l0 l1 l0 l1) true := by
    intro i hi hk d
    have hb := h2 i hi
    have w1 : wrap64 ((i : Int) + 1) = ((i + 1 : Nat) : Int) := by rw [wrap_small (by omega) (by omega)]; omega
    induction d with
    | zero =>
      intro j hj hd
      refine Ev.step (fun k => by rw [flagstoneref10_Same.l2]) ?_
      refine Ev.pos (by omega) (Ev.pos (by omega) (Ev.neg (by omega) ?_))
      rw [w1]
      exact hk
    | succ d ih =>
      intro j hj hd
      have w2 : wrap64 ((j : Int) + 1) = ((j + 1 : Nat) : Int) := by rw [wrap_small (by omega) (by omega)]; omega
      refine Ev.step (fun k => by rw [flagstoneref10_Same.l2]) ?_
      refine Ev.pos (by omega) (Ev.pos (by omega) (Ev.pos (by omega) (Ev.pos (by omega) (Ev.pos (by omega) (Ev.pos (by omega) (Ev.pos rfl ?_))))))
      rw [w2]
      exact ih (j + 1) (by omega) (by omega)
  have k1 : ∀ d i : Nat, i ≤ l1.length → l1.length - i = d → Ev (fun k => flagstoneref10_Same.l1 k (i : Int) l0 l1 l0 l1) true := by
    intro d
    induction d with
    | zero =>
      intro i hi hd
      refine Ev.step (fun k => by rw [flagstoneref10_Same.l1]) ?_
      exact Ev.neg (by omega) (Ev.now _)
    | succ d ih =>
      intro i hi hd
      refine Ev.step (fun k => by rw [flagstoneref10_Same.l1]) ?_
      refine Ev.pos (by omega) (Ev.pos (by omega) (Ev.pos (by omega) (Ev.pos rfl ?_)))
      exact k2 i (by omega) (ih (i + 1) (by omega) (by omega)) _ 0 (by omega) rfl
  have k0 : ∀ d i : Nat, i ≤ l0.length → l0.length - i = d → Ev (fun k => flagstoneref10_Same.l0 k (i : Int) l0 l1 l0 l1) true := by
    intro d
    induction d with
    | zero =>
      intro i hi hd
      refine Ev.step (fun k => by rw [flagstoneref10_Same.l0]) ?_
      exact Ev.neg (by omega) (k1 _ 0 (by omega) rfl)
    | succ d ih =>
      intro i hi hd
      have w1 : wrap64 ((i : Int) + 1) = ((i + 1 : Nat) : Int) := by rw [wrap_small (by omega) (by omega)]; omega
      refine Ev.step (fun k => by rw [flagstoneref10_Same.l0]) ?_
      refine Ev.pos (by omega) (Ev.pos (by omega) (Ev.pos (by omega) (Ev.neg (by simp) ?_)))
      rw [w1]
      exact ih (i + 1) (by omega) (by omega)
  refine Ev.congr (fun k => by rw [flagstoneref10_Same.f]) ?_
  refine Ev.pos rfl ?_
  refine Ev.step (fun k => by rw [flagstoneref10_Same.j0]) ?_
  exact Ev.neg (by simp) (k0 _ 0 (by omega) rfl)

theorem copied_ev (l0 : List S52) (l1 : List (List Int)) (h0 : l0.length < 1000000) (h1 : l1.length < 1000000) (h2 : ∀ i : Nat, i < l1.length → (rd_L4 l1 (i : Int)).length < 1000000) : Ev (fun k => flagstoneref10_copied.f k l0 l1) (l0, l1) := by
  have key : ∀ d i : Nat, i ≤ l1.length → l1.length - i = d → Ev (fun k => flagstoneref10_copied.l0 k (i : Int) l0 l1 l0 (l1.take i)) (l0, l1) := by
    intro d
    induction d with
    | zero =>
      intro i hi hd
      rw [List.take_of_length_le (by omega)]
      refine Ev.step (fun k => by rw [flagstoneref10_copied.l0]) ?_
      exact Ev.neg (by omega) (Ev.now _)
    | succ d ih =>
      intro i hi hd
      have hb := h2 i (by omega)
      have w1 : wrap64 ((i : Int) + 1) = ((i + 1 : Nat) : Int) := by rw [wrap_small (by omega) (by omega)]; omega
      refine Ev.step (fun k => by rw [flagstoneref10_copied.l0]) ?_
      refine Ev.pos (by omega) (Ev.bind (Ev.now _) ?_)
      have e1 : ([] : List Int).length + (rd_L4 l1 (i : Int)).length < 17592186044416 := by
        rw [List.length_nil, Nat.zero_add]
        exact Nat.lt_trans hb (by decide)
      have e2 : (l1.take i).length < 5864062014805 := by
        have := List.length_take_le i l1
        exact Nat.lt_of_le_of_lt this (Nat.lt_of_le_of_lt hi (Nat.lt_trans h1 (by decide)))
      refine Ev.pos (by omega) (Ev.pos e1 (Ev.pos e2 ?_))
      have h := ih (i + 1) (by omega) (by omega)
      rw [List.take_succ_eq_append_getElem (by omega)] at h
      have e : l1[i]'(by omega) = rd_L4 l1 (i : Int) := by simp [rd_L4, show i < l1.length by omega]
      rw [e] at h
      rw [w1, List.nil_append]
      exact h
  refine Ev.congr (fun k => by rw [flagstoneref10_copied.f]) ?_
  refine Ev.bind (Ev.now _) ?_
  have e1 : ([] : List S52).length + l0.length < 3518437208883 := by
    rw [List.length_nil, Nat.zero_add]
    exact Nat.lt_trans h0 (by decide)
  refine Ev.pos e1 ?_
  rw [List.nil_append]
  exact key _ 0 (by omega) rfl

/-- Lock as a plain function -/
def lockR (ds : List S44) (fs : List (List Int)) (a1 a2 : Int) : List S44 × List (List Int) × Int :=
  if a2 < 0 ∨ 2 < a2 then (ds, fs, 1)
  else if a1 < 0 ∨ (ds.length : Int) ≤ a1 ∨ (rd_T44 ds a1).f4 < 1 then (ds, fs, 12)
  else if blockedTo ds a1 (rd_T44 ds a1).f0 a2 ds.length = true then (ds, fs, 14)
  else (ds.set a1.toNat { rd_T44 ds a1 with f5 := a2 }, fs, 0)
theorem lock_eq (ds : List S44) (fs : List (List Int)) (a1 a2 : Int) (h0 : ds.length < 1000000) (h1 : fs.length < 1000000) : flock_Lock.f ds fs a1 a2 = some (lockR ds fs a1 a2) := by
  have h : ¬ (7036874417766 < ds.length ∨ 11728124029610 < fs.length) := by
    rintro (h | h)
    · exact absurd (Nat.lt_trans h h0) (by decide)
    · exact absurd (Nat.lt_trans h h1) (by decide)
  unfold flock_Lock.f lockR
  split
  · rfl
  · split
    · rfl
    · split
      · rfl
      · rfl

theorem set_ev (ds : List S44) (fs : List (List Int)) (a : Int) (x : S44) (h0 : ds.length < 1000000) (h1 : fs.length < 1000000) (h2 : ∀ i : Nat, i < fs.length → (rd_L4 fs (i : Int)).length < 1000000) (ha : 0 ≤ a) (hl : a < (ds.length : Int)) (h4 : ¬ (rd_T44 ds a).f4 < 1) (hx : x.f4 = (rd_T44 ds a).f4) :
    Ev (fun k => flagstoneref10_Set.f k (ds.map conv) fs a x.f0 x.f1 x.f2 x.f3 x.f4 x.f5) ((ds.set a.toNat x).map conv, fs) := by
  refine Ev.congr (fun k => by rw [flagstoneref10_Set.f]) ?_
  have hl2 : a < ((ds.map conv).length : Int) := by rw [List.length_map]; exact hl
  rw [rd_conv]
  refine Ev.neg (by omega) (Ev.neg (by omega) (Ev.pos ha (Ev.pos hl2 (Ev.neg h4 ?_))))
  refine Ev.bind (copied_ev _ _ (by rw [List.length_map]; exact h0) h1 h2) ?_
  refine Ev.pos hl2 ?_
  have e : (⟨x.f0, x.f1, x.f2, x.f3, (conv (rd_T44 ds a)).f4, x.f5⟩ : S52) = conv x := by
    show (⟨x.f0, x.f1, x.f2, x.f3, (rd_T44 ds a).f4, x.f5⟩ : S52) = _
    rw [← hx]
    rfl
  show Ev (fun _ => some ((ds.map conv).set a.toNat (⟨x.f0, x.f1, x.f2, x.f3, (conv (rd_T44 ds a)).f4, x.f5⟩ : S52), fs)) _
  rw [e, List.map_set]
  exact Ev.now _

theorem blockedTo_false {ds : List S44} {i ino kind : Int} {n : Nat} : blockedTo ds i ino kind n = false ↔ ∀ k : Nat, k < n → blockedAt ds i ino kind k = false := by
  simp [blockedTo]
theorem lock_ev (ds : List S44) (fs : List (List Int)) (a1 a2 : Int) (h0 : ds.length < 1000000) (h1 : fs.length < 1000000) (h2 : ∀ i : Nat, i < fs.length → (rd_L4 fs (i : Int)).length < 1000000) :
    Ev (fun k => flagstoneref11_Lock.f k (ds.map conv) fs a1 a2) ((lockR ds fs a1 a2).1.map conv, (lockR ds fs a1 a2).2.1, (lockR ds fs a1 a2).2.2) := by
  by_cases c1 : a2 < 0 ∨ 2 < a2
  · have e : lockR ds fs a1 a2 = (ds, fs, 1) := if_pos c1
    rw [e]
    refine Ev.congr (fun k => by rw [flagstoneref11_Lock.f]) ?_
    have last : Ev (fun k => flagstoneref11_Lock.j0 k a1 a2 true (ds.map conv) fs) (ds.map conv, fs, 1) := by
      refine Ev.step (fun k => by rw [flagstoneref11_Lock.j0]) ?_
      exact Ev.pos rfl (Ev.now _)
    by_cases c : a2 < 0
    · exact Ev.pos c last
    · refine Ev.neg c ?_
      rw [decide_eq_true (show a2 > 2 by omega)]
      exact last
  · refine Ev.congr (fun k => by rw [flagstoneref11_Lock.f]) ?_
    refine Ev.neg (by omega) ?_
    rw [decide_eq_false (show ¬ a2 > 2 by omega)]
    refine Ev.step (fun k => by rw [flagstoneref11_Lock.j0]) ?_
    refine Ev.neg (by decide) ?_
    by_cases c2 : a1 < 0 ∨ (ds.length : Int) ≤ a1 ∨ (rd_T44 ds a1).f4 < 1
    · have e : lockR ds fs a1 a2 = (ds, fs, 12) := by unfold lockR; rw [if_neg c1, if_pos c2]
      rw [e]
      have last : Ev (fun k => flagstoneref11_Lock.j1 k a1 a2 true (ds.map conv) fs) (ds.map conv, fs, 12) := by
        refine Ev.step (fun k => by rw [flagstoneref11_Lock.j1]) ?_
        exact Ev.pos rfl (Ev.now _)
      by_cases d1 : a1 < 0
      · exact Ev.pos d1 last
      · refine Ev.neg d1 ?_
        by_cases d2 : (ds.length : Int) ≤ a1
        · exact Ev.pos (by rw [List.length_map]; exact d2) last
        · refine Ev.neg (by rw [List.length_map]; exact d2) (Ev.pos (by omega) (Ev.pos (by rw [List.length_map]; omega) ?_))
          have d3 : (rd_T44 ds a1).f4 < 1 := by
            rcases c2 with c | c | c
            · exact absurd c d1
            · exact absurd c d2
            · exact c
          rw [rd_conv]
          have e : decide ((conv (rd_T44 ds a1)).f4 < 1) = true := decide_eq_true d3
          rw [e]
          exact last
    · have d1 : 0 ≤ a1 := by omega
      have d2 : a1 < (ds.length : Int) := by omega
      have d3 : ¬ (rd_T44 ds a1).f4 < 1 := fun c => c2 (.inr (.inr c))
      have hl2 : a1 < ((ds.map conv).length : Int) := by rw [List.length_map]; exact d2
      refine Ev.neg (by omega) (Ev.neg (by omega) (Ev.pos d1 (Ev.pos hl2 ?_)))
      have e : decide ((conv (rd_T44 ds a1)).f4 < 1) = false := decide_eq_false d3
      rw [rd_conv, e]
      refine Ev.step (fun k => by rw [flagstoneref11_Lock.j1]) ?_
      refine Ev.neg (by decide) (Ev.pos d1 (Ev.pos hl2 ?_))
      rw [rd_conv]
      show Ev (fun k => flagstoneref11_Lock.l0 k a1 a2 0 (ds.map conv) fs (rd_T44 ds a1).f0 (rd_T44 ds a1).f1 (rd_T44 ds a1).f2 (rd_T44 ds a1).f3 (rd_T44 ds a1).f4 (rd_T44 ds a1).f5) _
      have key : ∀ d j : Nat, j ≤ ds.length → ds.length - j = d → (∀ k : Nat, k < j → blockedAt ds a1 (rd_T44 ds a1).f0 a2 k = false) →
          Ev (fun k => flagstoneref11_Lock.l0 k a1 a2 (j : Int) (ds.map conv) fs (rd_T44 ds a1).f0 (rd_T44 ds a1).f1 (rd_T44 ds a1).f2 (rd_T44 ds a1).f3 (rd_T44 ds a1).f4 (rd_T44 ds a1).f5) ((lockR ds fs a1 a2).1.map conv, (lockR ds fs a1 a2).2.1, (lockR ds fs a1 a2).2.2) := by
        intro d
        induction d with
        | zero =>
          intro j hj hd hk
          obtain rfl : j = ds.length := by omega
          have e : lockR ds fs a1 a2 = (ds.set a1.toNat { rd_T44 ds a1 with f5 := a2 }, fs, 0) := by
            unfold lockR
            rw [if_neg c1, if_neg c2, blockedTo_false.2 hk]
            rfl
          rw [e]
          refine Ev.step (fun k => by rw [flagstoneref11_Lock.l0]) ?_
          refine Ev.neg (by rw [List.length_map]; omega) ?_
          refine Ev.bind (set_ev ds fs a1 { rd_T44 ds a1 with f5 := a2 } h0 h1 h2 d1 d2 d3 rfl) ?_
          exact Ev.now _
        | succ d ih =>
          intro j hj hd hk
          have w1 : wrap64 ((j : Int) + 1) = ((j + 1 : Nat) : Int) := by rw [wrap_small (by omega) (by omega)]; omega
          have hjl : (j : Int) < ((ds.map conv).length : Int) := by rw [List.length_map]; omega
          have hj0 : (0 : Int) ≤ (j : Int) := by omega
          have hjn : j < ds.length := by omega
          have next : blockedAt ds a1 (rd_T44 ds a1).f0 a2 j = false → Ev (fun k => flagstoneref11_Lock.l0 k a1 a2 (wrap64 ((j : Int) + 1)) (ds.map conv) fs (rd_T44 ds a1).f0 (rd_T44 ds a1).f1 (rd_T44 ds a1).f2 (rd_T44 ds a1).f3 (rd_T44 ds a1).f4 (rd_T44 ds a1).f5) ((lockR ds fs a1 a2).1.map conv, (lockR ds fs a1 a2).2.1, (lockR ds fs a1 a2).2.2) := by
            intro hf
            rw [w1]
            refine ih (j + 1) (by omega) (by omega) (fun k hk2 => ?_)
            rcases Nat.lt_or_eq_of_le (Nat.lt_succ_iff.1 hk2) with g | g
            · exact hk k g
            · rw [g]; exact hf
          have full : blockedAt ds a1 (rd_T44 ds a1).f0 a2 j = true → Ev (fun (_ : Nat) => some (ds.map conv, fs, (14 : Int))) ((lockR ds fs a1 a2).1.map conv, (lockR ds fs a1 a2).2.1, (lockR ds fs a1 a2).2.2) := by
            intro ht
            have e : lockR ds fs a1 a2 = (ds, fs, 14) := by
              unfold lockR
              rw [if_neg c1, if_neg c2]
              cases hb : blockedTo ds a1 (rd_T44 ds a1).f0 a2 ds.length
              · have := blockedTo_false.1 hb j hjn
                rw [this] at ht
                exact absurd ht (by decide)
              · rfl
            rw [e]
            exact Ev.now _
          refine Ev.step (fun k => by rw [flagstoneref11_Lock.l0]) ?_
          refine Ev.pos hjl (Ev.pos hj0 ?_)
          rw [rd_conv]
          unfold blockedAt inWay at next full
          generalize hz : rd_T44 ds (j : Int) = z at next full ⊢
          have skip : (∀ b : Bool, b = true → blockedAt ds a1 (rd_T44 ds a1).f0 a2 j = false → Ev (fun k => flagstoneref11_Lock.j3 k a1 a2 (j : Int) b (ds.map conv) fs (rd_T44 ds a1).f0 (rd_T44 ds a1).f1 (rd_T44 ds a1).f2 (rd_T44 ds a1).f3 (rd_T44 ds a1).f4 (rd_T44 ds a1).f5 z.f0 z.f1 z.f2 z.f3 z.f4 z.f5) ((lockR ds fs a1 a2).1.map conv, (lockR ds fs a1 a2).2.1, (lockR ds fs a1 a2).2.2)) := by
            intro b hb hn
            rw [hb]
            unfold blockedAt inWay at hn
            rw [hz] at hn
            refine Ev.step (fun k => by rw [flagstoneref11_Lock.j3]) ?_
            exact Ev.pos rfl (next hn)
          unfold blockedAt inWay at skip
          rw [hz] at skip
          show Ev (fun k => if (j : Int) = a1 then flagstoneref11_Lock.j3 k a1 a2 (j : Int) true (ds.map conv) fs (rd_T44 ds a1).f0 (rd_T44 ds a1).f1 (rd_T44 ds a1).f2 (rd_T44 ds a1).f3 (rd_T44 ds a1).f4 (rd_T44 ds a1).f5 z.f0 z.f1 z.f2 z.f3 z.f4 z.f5 else if z.f4 < 1 then flagstoneref11_Lock.j3 k a1 a2 (j : Int) true (ds.map conv) fs (rd_T44 ds a1).f0 (rd_T44 ds a1).f1 (rd_T44 ds a1).f2 (rd_T44 ds a1).f3 (rd_T44 ds a1).f4 (rd_T44 ds a1).f5 z.f0 z.f1 z.f2 z.f3 z.f4 z.f5 else flagstoneref11_Lock.j3 k a1 a2 (j : Int) (z.f0 != (rd_T44 ds a1).f0) (ds.map conv) fs (rd_T44 ds a1).f0 (rd_T44 ds a1).f1 (rd_T44 ds a1).f2 (rd_T44 ds a1).f3 (rd_T44 ds a1).f4 (rd_T44 ds a1).f5 z.f0 z.f1 z.f2 z.f3 z.f4 z.f5) _
          by_cases g1 : (j : Int) = a1
          · exact Ev.pos g1 (skip true rfl (by simp [g1]))
          · refine Ev.neg g1 ?_
            by_cases g2 : z.f4 < 1
            · exact Ev.pos g2 (skip true rfl (by rw [decide_eq_false (show ¬ z.f4 > 0 by omega)]; simp))
            · refine Ev.neg g2 ?_
              by_cases g3 : z.f0 = (rd_T44 ds a1).f0
              · have e3 : (z.f0 != (rd_T44 ds a1).f0) = false := by simp [g3]
                rw [e3]
                have g2' : z.f4 > 0 := by omega
                rw [decide_eq_true g2', decide_eq_true g3, decide_eq_true (show (j : Int) ≠ a1 from g1)] at next full
                simp only [Bool.true_and] at next full
                refine Ev.step (fun k => by rw [flagstoneref11_Lock.j3]) ?_
                refine Ev.neg (by decide) ?_
                by_cases q1 : a2 = 2
                · have q2 : ¬ a2 = 1 := by omega
                  refine Ev.pos q1 ?_
                  by_cases q3 : z.f5 = 0
                  · exact Ev.pos q3 (Ev.neg q2 (next (by simp [q2, q3])))
                  · exact Ev.neg q3 (full (by simp [q1, q3]))
                · refine Ev.neg q1 ?_
                  by_cases q2 : a2 = 1
                  · refine Ev.pos q2 ?_
                    by_cases q3 : z.f5 = 2
                    · exact Ev.pos q3 (full (by simp [q2, q3]))
                    · exact Ev.neg q3 (next (by simp [q1, q3]))
                  · exact Ev.neg q2 (next (by simp [q1, q2]))
              · have e3 : (z.f0 != (rd_T44 ds a1).f0) = true := by simp [g3]
                exact skip _ e3 (by rw [decide_eq_false g3]; simp)
      exact key _ 0 (by omega) rfl (fun k hk => absurd hk (by omega))
end Go.Proofs.Ytbfjakhloabhmaa.P
