/- The small example of layer 10 answers true; no program in sight. -/
import Derived.Test.YtkecfdljodiifaaQc
import Derived.Test.YtkecfdljodiifaaQr
import Derived.Test.YtkecfdljodiifaaTs
namespace Go.Proofs.Ytkecfdljodiifaa.P
open Go.RowKit Go.Proofs.YtkecfdljodiifaaW.PrintWords Go.Proofs.YtkecfdljodiifaaW.PrintLast Go.Proofs.YtkecfdljodiifaaW.PrintMore

def exN : List (List Int) := [[-1, -1, -1, -1, -1, -1, -1, -1], [-1, -1, -1, -1, -1, -1, -1, -1]]
def exA : List S38 := [⟨5, 0, true, false, 1, 0⟩]
def exAf : List (List Int) := [[-1, -1, -1, -1, -1, -1, -1, -1], [0, -1, -1, -1, -1, -1, -1, -1]]
def exB : List S38 := [⟨5, 0, true, false, 1, 0⟩, ⟨6, 0, false, false, 1, 0⟩]
def exBf : List (List Int) := [[-1, -1, -1, -1, -1, -1, -1, -1], [0, 1, -1, -1, -1, -1, -1, -1]]
def exC : List S38 := [⟨0, 0, false, false, 0, 0⟩, ⟨6, 0, false, false, 1, 0⟩]
def exCf : List (List Int) := [[-1, -1, -1, -1, -1, -1, -1, -1], [-1, 1, -1, -1, -1, -1, -1, -1]]
def exD : List S38 := [⟨0, 0, false, false, 0, 0⟩, ⟨6, 0, false, false, 2, 0⟩]
def exDf : List (List Int) := [[-1, -1, -1, -1, -1, -1, -1, -1], [1, 1, -1, -1, -1, -1, -1, -1]]
theorem exN_eq : newR 2 = exN := rfl
theorem rtN : Rt [] exN := ⟨by decide, by decide, by decide⟩
theorem rtA : Rt exA exAf := ⟨by decide, by decide, by decide⟩
theorem rtB : Rt exB exBf := ⟨by decide, by decide, by decide⟩
theorem rtC : Rt exC exCf := ⟨by decide, by decide, by decide⟩
theorem rtD : Rt exD exDf := ⟨by decide, by decide, by decide⟩
theorem w2 : wrap64 (1 + 1) = 2 := by unfold wrap64; omega
theorem w0 : wrap64 (1 - 1) = 0 := by unfold wrap64; omega
theorem ex1 : handle_Open.f [] exN 1 5 0 true false 0 0 = some (exA, exAf, 0, 0) := by rw [open_eq rtN]; rfl
theorem ex2 : handle_Open.f exA exAf 1 6 0 false false 0 0 = some (exB, exBf, 1, 0) := by rw [open_eq rtA]; rfl
theorem ex3 : handle_Close.f exB exBf 1 0 = some (exC, exCf, 5, 0, true, false, 0, 0, 0) := by
  rw [close_eq rtB]
  have e : closeR exB exBf 1 0 = (exB.set 0 (left38 ⟨5, 0, true, false, 1, 0⟩), exCf, 5, 0, true, false, wrap64 (1 - 1), 0, 0) := rfl
  rw [e, w0, left38, if_pos w0]
  rfl
theorem ex4 : handle_Dup.f exC exCf 1 1 = some (exD, exDf, 0, 0) := by
  rw [dup_eq rtC]
  have e : dupR exC exCf 1 1 = (exC.set 1 ⟨6, 0, false, false, wrap64 (1 + 1), 0⟩, exDf, 0, 0) := rfl
  rw [e, w2]
  rfl
theorem ex5 : handle_Get.f exD exDf 1 0 = some (1, 6, 0, false, false, 2, 0, true) := by rw [get_eq rtD]; rfl
theorem ex6 : handle_Open.f [] exN 2 0 0 false false 0 0 = some ([], exN, 0, 1) := by rw [open_eq rtN]; rfl
theorem shown_calls (w : World) : Calls Try.prog 11 #[] w fun e w' => e = .returned (.bool true) ∧ Below w.heap.size w w' := by
  obtain ⟨K1, h1⟩ := new_ev 2
  obtain ⟨K2, h2⟩ := hright_ev exD exDf (by decide) (by decide)
  obtain ⟨K3, h3⟩ := count_ev rtD 1
  have hr : rightB exD exDf = true := by decide
  have hc : countR exDf 1 = 2 := by decide
  rw [exN_eq] at h1
  rw [hr] at h2
  rw [hc] at h3
  exact shown_T (h1 (K1 + K2 + K3) (by omega)) ex1 ex2 ex3 ex4 ex5 ex6 (h2 (K1 + K2 + K3) (by omega)) (h3 (K1 + K2 + K3) (by omega))
end Go.Proofs.Ytkecfdljodiifaa.P
