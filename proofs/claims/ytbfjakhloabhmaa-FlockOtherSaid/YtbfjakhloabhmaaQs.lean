/- The plain law of shown: the small example answers true; no program in sight. -/
import Derived.Test.YtbfjakhloabhmaaQd
import Derived.Test.YtbfjakhloabhmaaPlaw11shown
namespace Go.Proofs.Ytbfjakhloabhmaa.P
open Go.RowKit Go.Proofs.YtbfjakhloabhmaaW.PrintWords Go.Proofs.YtbfjakhloabhmaaW.PrintLast Go.Proofs.YtbfjakhloabhmaaW.PrintMore

def exD : List S44 := [⟨5, 0, false, false, 1, 1⟩, ⟨5, 0, false, false, 1, 0⟩]
def exF : List (List Int) := [[0, 1, -1, -1, -1, -1, -1, -1]]
def exA : List S44 := [⟨5, 0, false, false, 1, 1⟩, ⟨5, 0, false, false, 1, 1⟩]
def exB : List S44 := [⟨5, 0, false, false, 1, 0⟩, ⟨5, 0, false, false, 1, 0⟩]
def exC : List S44 := [⟨5, 0, false, false, 1, 0⟩, ⟨5, 0, false, false, 1, 2⟩]
theorem ex1 : flock_Lock.f exD exF 1 2 = some (exD, exF, 14) := by rw [lock_eq exD exF 1 2 (by decide) (by decide)]; rfl
theorem ex2 : flock_Lock.f exD exF 1 1 = some (exA, exF, 0) := by rw [lock_eq exD exF 1 1 (by decide) (by decide)]; rfl
theorem ex3 : flock_Lock.f exD exF 0 0 = some (exB, exF, 0) := by rw [lock_eq exD exF 0 0 (by decide) (by decide)]; rfl
theorem ex4 : flock_Lock.f exB exF 1 2 = some (exC, exF, 0) := by rw [lock_eq exB exF 1 2 (by decide) (by decide)]; rfl
theorem shown_ev : Ev (fun k => flagstonelaw11_shown.f k) true := by
  refine Ev.congr (fun k => by rw [flagstonelaw11_shown.f]) ?_
  refine Ev.bind (Ev.now exD) ?_
  refine Ev.bind (Ev.now exF) ?_
  rw [ex1, ex2, ex3]
  refine Ev.bind (Ev.now _) (Ev.bind (Ev.now _) (Ev.bind (Ev.now _) ?_))
  rw [ex4]
  refine Ev.bind (Ev.now _) (Ev.bind (Ev.now ((2 : Int), (0 : Int))) ?_)
  refine Ev.pos rfl (Ev.pos rfl (Ev.pos rfl (Ev.pos rfl (Ev.pos rfl (Ev.pos rfl (Ev.pos rfl (Ev.pos (by decide) (Ev.pos rfl ?_))))))))
  have f1 : fairB exC = true := rfl
  have f2 : fairB exA = true := rfl
  have g1 := flockFair_ev exC exF (by decide)
  have g2 := flockFair_ev exA exF (by decide)
  rw [f1] at g1
  rw [f2] at g2
  refine Ev.bind g1 (Ev.pos rfl (Ev.bind g2 (Ev.now _)))
end Go.Proofs.Ytbfjakhloabhmaa.P
