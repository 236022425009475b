/- Plain laws, third part: Same of the reference, and Lock, as plain functions of lists; no program in sight. -/
import Derived.Test.YtbfjakhloabhmaaQb
import Derived.Test.YtbfjakhloabhmaaPflockLock
namespace Go.Proofs.Ytbfjakhloabhmaa.P
open Go.RowKit Go.Proofs.YtbfjakhloabhmaaW.PrintWords Go.Proofs.YtbfjakhloabhmaaW.PrintLast Go.Proofs.YtbfjakhloabhmaaW.PrintMore

theorem same_ev (l0 : List S52) (l1 : List (List Int)) (h0 : l0.length < 1000000) (h1 : l1.length < 1000000) (h2 : ∀ i : Nat, i < l1.length → (rd_L4 l1 (i : Int)).length < 1000000) : Ev (fun k => flagstoneref10_Same.f k l0 l1 l0 l1) true := by
  have k2 : ∀ i : Nat, i < l1.length → Ev (fun k => flagstoneref10_Same.l1 k ((i + 1 : Nat) : Int) l0 l1 l0 l1) true → ∀ d j : Nat, j ≤ (rd_L4 l1 (i : Int)).length → (rd_L4 l1 (i : Int)).length - j = d → Ev (fun k => flagstoneref10_Same.l2 k (i : Int) (j : Int) l0 l1 l0 l1) true := by
    intro i hi hk d
    have hb := h2 i hi
    have w1 : wrap64 ((i : Int) + 1) = ((i + 1 : Nat) : Int) := by rw [wrap_small (by omega) (by omega)]; omega
    induction d with
    | zero =>
      intro j hj hd
      refine Ev.step (fun k => by rw [flagstoneref10_Same.l2]) ?_
      refine Ev.pos (by omega) (Ev.pos (by omega) (Ev.neg (by omega) ?_))
      rw [w1]
      exact hk
    | succ d ih =>
      intro j hj hd
      have w2 : wrap64 ((j : Int) + 1) = ((j + 1 : Nat) : Int) := by rw [wrap_small (by omega) (by omega)]; omega
      refine Ev.step (fun k => by rw [flagstoneref10_Same.l2]) ?_
      refine Ev.pos (by omega) (Ev.pos (by omega) (Ev.pos (by omega) (Ev.pos (by omega) (Ev.pos (by omega) (Ev.pos (by omega) (Ev.pos rfl ?_))))))
      rw [w2]
      exact ih (j + 1) (by omega) (by omega)
  have k1 : ∀ d i : Nat, i ≤ l1.length → l1.length - i = d → Ev (fun k => flagstoneref10_Same.l1 k (i : Int) l0 l1 l0 l1) true := by
    intro d
    induction d with
    | zero =>
      intro i hi hd
      refine Ev.step (fun k => by rw [flagstoneref10_Same.l1]) ?_
      exact Ev.neg (by omega) (Ev.now _)
    | succ d ih =>
      intro i hi hd
      refine Ev.step (fun k => by rw [flagstoneref10_Same.l1]) ?_
      refine Ev.pos (by omega) (Ev.pos (by omega) (Ev.pos (by omega) (Ev.pos rfl ?_)))
      exact k2 i (by omega) (ih (i + 1) (by omega) (by omega)) _ 0 (by omega) rfl
  have k0 : ∀ d i : Nat, i ≤ l0.length → l0.length - i = d → Ev (fun k => flagstoneref10_Same.l0 k (i : Int) l0 l1 l0 l1) true := by
    intro d
    induction d with
    | zero =>
      intro i hi hd
      refine Ev.step (fun k => by rw [flagstoneref10_Same.l0]) ?_
      exact Ev.neg (by omega) (k1 _ 0 (by omega) rfl)
    | succ d ih =>
      intro i hi hd
      have w1 : wrap64 ((i : Int) + 1) = ((i + 1 : Nat) : Int) := by rw [wrap_small (by omega) (by omega)]; omega
      refine Ev.step (fun k => by rw [flagstoneref10_Same.l0]) ?_
      refine Ev.pos (by omega) (Ev.pos (by omega) (Ev.pos (by omega) (Ev.neg (by simp) ?_)))
      rw [w1]
      exact ih (i + 1) (by omega) (by omega)
  refine Ev.congr (fun k => by rw [flagstoneref10_Same.f]) ?_
  refine Ev.pos rfl ?_
  refine Ev.step (fun k => by rw [flagstoneref10_Same.j0]) ?_
  exact Ev.neg (by simp) (k0 _ 0 (by omega) rfl)

/-- Lock as a plain function -/
def lockR (ds : List S44) (fs : List (List Int)) (a1 a2 : Int) : List S44 × List (List Int) × Int :=
  if a2 < 0 ∨ 2 < a2 then (ds, fs, 1)
  else if a1 < 0 ∨ (ds.length : Int) ≤ a1 ∨ (rd_T44 ds a1).f4 < 1 then (ds, fs, 12)
  else if blockedTo ds a1 (rd_T44 ds a1).f0 a2 ds.length = true then (ds, fs, 14)
  else (ds.set a1.toNat { rd_T44 ds a1 with f5 := a2 }, fs, 0)
theorem lock_eq (ds : List S44) (fs : List (List Int)) (a1 a2 : Int) (h0 : ds.length < 1000000) (h1 : fs.length < 1000000) : flock_Lock.f ds fs a1 a2 = some (lockR ds fs a1 a2) := by
  have h : ¬ (7036874417766 < ds.length ∨ 11728124029610 < fs.length) := by
    rintro (h | h)
    · exact absurd (Nat.lt_trans h h0) (by decide)
    · exact absurd (Nat.lt_trans h h1) (by decide)
  unfold flock_Lock.f lockR
  split
  · rfl
  · split
    · rfl
    · split
      · rfl
      · rfl

theorem blockedTo_false {ds : List S44} {i ino kind : Int} {n : Nat} : blockedTo ds i ino kind n = false ↔ ∀ k : Nat, k < n → blockedAt ds i ino kind k = false := by
  simp [blockedTo]
end Go.Proofs.Ytbfjakhloabhmaa.P
