/- The plain law of HandleRight: it answers true; no program in sight. -/
import Derived.Test.YtkecfdljodiifaaQs
import Derived.Test.YtkecfdljodiifaaPlaw10HandleRight
namespace Go.Proofs.Ytkecfdljodiifaa.P
open Go.RowKit Go.Proofs.YtkecfdljodiifaaW.PrintWords Go.Proofs.YtkecfdljodiifaaW.PrintLast Go.Proofs.YtkecfdljodiifaaW.PrintMore

theorem newR_lengths (n : Int) : (newR n).length < 1000000 ∧ ∀ i : Nat, i < (newR n).length → (rd_L1 (newR n) (i : Int)).length < 1000000 := by
  unfold newR
  split
  · exact ⟨by decide, fun i hi => absurd hi (Nat.not_lt_zero i)⟩
  · refine ⟨by rw [List.length_replicate]; omega, fun i hi => ?_⟩
    rw [List.length_replicate] at hi
    have e : rd_L1 (List.replicate n.toNat (List.replicate 8 (-1 : Int))) (i : Int) = List.replicate 8 (-1) := by simp [rd_L1, hi]
    rw [e]
    decide
theorem right_law (ds : List S38) (fs : List (List Int)) (a1 : Int) : Ev (fun k => flagstonelaw10_HandleRight.f k ds fs a1) true := by
  refine Ev.congr (fun k => by rw [flagstonelaw10_HandleRight.f]) ?_
  refine Ev.bind (small_ev ds fs) ?_
  cases hs : smallB ds fs
  · refine Ev.neg (by decide) (Ev.step (fun k => by rw [flagstonelaw10_HandleRight.j0]) ?_)
    exact Ev.pos rfl (Ev.bind shown_ev (Ev.now _))
  · refine Ev.pos rfl (Ev.bind shown_ev (Ev.step (fun k => by rw [flagstonelaw10_HandleRight.j0]) (Ev.neg (by decide) ?_)))
    simp only [smallB, Bool.and_eq_true, decide_eq_true_eq] at hs
    have h1 := hs.1.1
    have h2 := hs.1.2
    obtain ⟨n1, n2⟩ := newR_lengths a1
    refine Ev.bind (hright_ev ds fs (by omega) (by omega)) (Ev.bind (its_ev ds fs (by omega)) (Ev.bind (right_ev ds fs (by omega) (by omega)) (Ev.pos (by simp) ?_)))
    refine Ev.bind (new_ev a1) (Ev.bind (its_ev [] (newR a1) (by decide)) (Ev.bind (newref_ev a1) (Ev.bind (same_ev [] (newR a1) (by decide) n1 n2) ?_)))
    exact Ev.now _
end Go.Proofs.Ytkecfdljodiifaa.P
