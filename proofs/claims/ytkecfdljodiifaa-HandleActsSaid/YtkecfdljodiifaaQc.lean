/- Plain laws of layer 10, over tables that are right: Open, Dup, Close, Set are what the document's are; no program in sight. -/
import Derived.Test.YtkecfdljodiifaaQb
import Derived.Test.YtkecfdljodiifaaPhandleOpen
import Derived.Test.YtkecfdljodiifaaPhandleDup
import Derived.Test.YtkecfdljodiifaaPhandleClose
import Derived.Test.YtkecfdljodiifaaPhandleSet
namespace Go.Proofs.Ytkecfdljodiifaa.P
open Go.RowKit Go.Proofs.YtkecfdljodiifaaW.PrintWords Go.Proofs.YtkecfdljodiifaaW.PrintLast Go.Proofs.YtkecfdljodiifaaW.PrintMore

/-! Open -/
def openR (ds : List S38) (fs : List (List Int)) (p : Int) (x : S38) : List S38 × List (List Int) × Int × Int :=
  if p < 0 ∨ (fs.length : Int) ≤ p then (ds, fs, 0, 1)
  else if firstI (rd_L1 fs p) < 0 then (ds, fs, 0, 13)
  else (placed ds (placeOf ds) { x with f4 := 1 }, fs.set p.toNat ((rd_L1 fs p).set (firstI (rd_L1 fs p)).toNat (placeOf ds : Int)), firstI (rd_L1 fs p), 0)
theorem firstI_lt (row : List Int) (n : Nat) (h8 : row.length = n) : -1 ≤ firstI row ∧ firstI row < (n : Int) := by
  rcases firstI_cases row with ⟨e, _⟩ | ⟨k, e, hk, _⟩ <;> omega
theorem open_eq {ds : List S38} {fs : List (List Int)} (R : Rt ds fs) (p a0 a1 : Int) (a2 a3 : Bool) (a4 a5 : Int) : handle_Open.f ds fs p a0 a1 a2 a3 a4 a5 = some (openR ds fs p ⟨a0, a1, a2, a3, a4, a5⟩) := by
  unfold handle_Open.f openR
  by_cases c1 : p < 0 ∨ (fs.length : Int) ≤ p
  · rw [if_pos c1, if_pos c1]
  · rw [if_neg c1, if_neg c1]
    obtain ⟨p, rfl⟩ : ∃ k : Nat, p = (k : Int) := ⟨p.toNat, by omega⟩
    have h8 := (R.row p (by omega)).1
    have hd := R.hd
    have hf := R.hf
    have hi := firstI_lt _ 8 h8
    rw [if_neg (by omega), index_eq _ h8]
    by_cases c2 : firstI (rd_L1 fs (p : Int)) < 0
    · simp only [if_pos c2]
    · simp only [if_neg c2]
      rw [if_neg (by omega)]
theorem place_cases (ds : List S38) : (placeOf ds = ds.length ∧ ∀ j : Nat, j < ds.length → (rd_T38 ds (j : Int)).f4 ≠ 0) ∨ (placeOf ds < ds.length ∧ (rd_T38 ds (placeOf ds : Int)).f4 = 0 ∧ ∀ j : Nat, j < placeOf ds → (rd_T38 ds (j : Int)).f4 ≠ 0) := by
  by_cases h : placeOf ds < ds.length
  · refine .inr ⟨h, ?_, fun j hj => ?_⟩
    · rw [rd_desc _ _ h]
      have := List.findIdx_getElem (w := h)
      exact beq_iff_eq.1 this
    · rw [rd_desc _ _ (by omega)]
      have := List.not_of_lt_findIdx hj
      exact beq_eq_false_iff_ne.1 (by simpa [free38] using this)
  · have hl : placeOf ds = ds.length := Nat.le_antisymm List.findIdx_le_length (by omega)
    refine .inl ⟨hl, fun j hj => ?_⟩
    have := List.findIdx_eq_length.1 hl _ (List.getElem_mem hj)
    rw [rd_desc _ _ hj]
    exact beq_eq_false_iff_ne.1 this
/-! Dup -/
def dupR (ds : List S38) (fs : List (List Int)) (p d : Int) : List S38 × List (List Int) × Int × Int :=
  if getI fs p d = -1 then (ds, fs, 0, 12)
  else if firstI (rd_L1 fs p) < 0 then (ds, fs, 0, 13)
  else (ds.set (getI fs p d).toNat { rd_T38 ds (getI fs p d) with f4 := wrap64 ((rd_T38 ds (getI fs p d)).f4 + 1) }, fs.set p.toNat ((rd_L1 fs p).set (firstI (rd_L1 fs p)).toNat (getI fs p d)), firstI (rd_L1 fs p), 0)
theorem getI_some {fs : List (List Int)} {p d : Int} (h : getI fs p d ≠ -1) : 0 ≤ p ∧ p < (fs.length : Int) ∧ 0 ≤ d ∧ d < ((rd_L1 fs p).length : Int) ∧ getI fs p d = rd (rd_L1 fs p) d := by
  by_cases c : 0 ≤ p ∧ p < (fs.length : Int) ∧ 0 ≤ d ∧ d < ((rd_L1 fs p).length : Int)
  · exact ⟨c.1, c.2.1, c.2.2.1, c.2.2.2, getI_in c⟩
  · exact absurd (getI_out c) h
theorem dup_eq {ds : List S38} {fs : List (List Int)} (R : Rt ds fs) (p d : Int) : handle_Dup.f ds fs p d = some (dupR ds fs p d) := by
  unfold handle_Dup.f dupR
  rw [get_eq R, Option.bind_some]
  by_cases c1 : getI fs p d = -1
  · rw [if_pos c1, c1, getT_none]
    rfl
  · rw [if_neg c1, getT_some ds c1]
    obtain ⟨h1, h2, h3, h4, _⟩ := getI_some c1
    obtain ⟨p, rfl⟩ : ∃ k : Nat, p = (k : Int) := ⟨p.toNat, by omega⟩
    have h8 := (R.row p (by omega)).1
    have hd := R.hd
    have hf := R.hf
    have hi := firstI_lt _ 8 h8
    dsimp only
    rw [if_neg (by decide), if_neg (by omega), index_eq _ h8]
    by_cases c2 : firstI (rd_L1 fs (p : Int)) < 0
    · simp only [if_pos c2]
    · simp only [if_neg c2]
      rw [if_neg (by omega)]
/-! Close -/
def closeR (ds : List S38) (fs : List (List Int)) (p d : Int) : List S38 × List (List Int) × Int × Int × Bool × Bool × Int × Int × Int :=
  if getI fs p d = -1 then (ds, fs, 0, 0, false, false, 0, 0, 12)
  else (ds.set (getI fs p d).toNat (left38 (rd_T38 ds (getI fs p d))), fs.set p.toNat ((rd_L1 fs p).set d.toNat (-1)), (rd_T38 ds (getI fs p d)).f0, (rd_T38 ds (getI fs p d)).f1, (rd_T38 ds (getI fs p d)).f2, (rd_T38 ds (getI fs p d)).f3, wrap64 ((rd_T38 ds (getI fs p d)).f4 - 1), (rd_T38 ds (getI fs p d)).f5, 0)
theorem close_eq {ds : List S38} {fs : List (List Int)} (R : Rt ds fs) (p d : Int) : handle_Close.f ds fs p d = some (closeR ds fs p d) := by
  unfold handle_Close.f closeR
  rw [get_eq R, Option.bind_some]
  by_cases c1 : getI fs p d = -1
  · rw [if_pos c1, c1, getT_none]
    rfl
  · rw [if_neg c1, getT_some ds c1]
    obtain ⟨h1, h2, h3, h4, _⟩ := getI_some c1
    obtain ⟨p, rfl⟩ : ∃ k : Nat, p = (k : Int) := ⟨p.toNat, by omega⟩
    have h8 := (R.row p (by omega)).1
    have hd := R.hd
    have hf := R.hf
    dsimp only
    rw [if_neg (by decide), if_neg (by omega)]
/-! Set -/
def setR (ds : List S38) (fs : List (List Int)) (i : Int) (x : S38) : List S38 × List (List Int) :=
  if i < 0 ∨ (ds.length : Int) ≤ i ∨ (rd_T38 ds i).f4 = 0 then (ds, fs) else (ds.set i.toNat { x with f4 := (rd_T38 ds i).f4 }, fs)
theorem set_eq {ds : List S38} {fs : List (List Int)} (R : Rt ds fs) (i a0 a1 : Int) (a2 a3 : Bool) (a4 a5 : Int) : handle_Set.f ds fs i a0 a1 a2 a3 a4 a5 = some (setR ds fs i ⟨a0, a1, a2, a3, a4, a5⟩) := by
  unfold handle_Set.f setR
  by_cases c1 : i < 0 ∨ (ds.length : Int) ≤ i ∨ (rd_T38 ds i).f4 = 0
  · rw [if_pos c1, if_pos c1]
  · have hd := R.hd
    have hf := R.hf
    rw [if_neg c1, if_neg c1, if_neg (by omega)]
end Go.Proofs.Ytkecfdljodiifaa.P
