/- The plain law of HandleStays: it answers true; no program in sight. -/
import Derived.Test.YtkecfdljodiifaaQs
import Derived.Test.YtkecfdljodiifaaQd
import Derived.Test.YtkecfdljodiifaaPlaw10HandleStays
namespace Go.Proofs.Ytkecfdljodiifaa.P
open Go.RowKit Go.Proofs.YtkecfdljodiifaaW.PrintWords Go.Proofs.YtkecfdljodiifaaW.PrintLast Go.Proofs.YtkecfdljodiifaaW.PrintMore

theorem Rt.stays {ds : List S38} {fs : List (List Int)} (R : Rt ds fs) : Ev (fun k => flagstonelaw10_stays.f k ds fs) true := by
  have h := stays_ev ds fs R.hf' R.hd
  rw [R.hr] at h
  exact h
theorem stays_law (ds : List S38) (fs : List (List Int)) (a1 a2 b0 b1 : Int) (b2 b3 : Bool) (b4 b5 : Int) : Ev (fun k => flagstonelaw10_HandleStays.f k ds fs a1 a2 b0 b1 b2 b3 b4 b5) true := by
  refine Ev.congr (fun k => by rw [flagstonelaw10_HandleStays.f]) ?_
  refine Ev.bind (fine_ev ds fs) ?_
  cases hF : fineB ds fs
  · refine Ev.neg (by decide) (Ev.step (fun k => by rw [flagstonelaw10_HandleStays.j0]) ?_)
    exact Ev.pos rfl (Ev.bind shown_ev (Ev.now _))
  · refine Ev.pos rfl (Ev.bind shown_ev (Ev.step (fun k => by rw [flagstonelaw10_HandleStays.j0]) (Ev.neg (by decide) ?_)))
    obtain ⟨R, h1, h2⟩ := fine_rt hF
    rw [open_eq R, dup_eq R, close_eq R, set_eq R]
    refine Ev.bind (Ev.now _) (Ev.bind (Ev.now _) (Ev.bind (Ev.now _) ?_))
    refine Ev.bind (R.opened (by omega) a1 _).stays (Ev.pos rfl (Ev.bind (R.doubled a1 a2).stays (Ev.pos rfl (Ev.bind (R.closed a1 a2).stays (Ev.pos rfl (Ev.bind (Ev.now _) ?_))))))
    exact Ev.bind (R.sets a2 _).stays (Ev.now _)
end Go.Proofs.Ytkecfdljodiifaa.P
