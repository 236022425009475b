/- Plain laws of layer 9: what Write and Cut leave; no program in sight. -/
import Derived.Test.YtpeelfambaedkaaQd
namespace Go.Proofs.Ytpeelfambaedkaa.P
open Go.RowKit Go.Proofs.YtpeelfambaedkaaW.PrintWords Go.Proofs.YtpeelfambaedkaaW.PrintLast Go.Proofs.YtpeelfambaedkaaW.PrintMore

theorem Ev.is {α : Type} {x : Option α} {r : α} (h : x = some r) : Ev (fun _ => x) r := Ev.congr (fun _ => h) (Ev.now r)
theorem rd_set_ne (l : List S59) (i : Int) (x : S59) (h0 : 0 ≤ i) (j : Nat) (h : (j : Int) ≠ i) : rd_T59 (l.set i.toNat x) (j : Int) = rd_T59 l (j : Int) := by
  simp only [rd_T59, List.getD_eq_getElem?_getD]
  rw [List.getElem?_set_ne (by omega)]
theorem rd_set_eq (l : List S59) (i : Int) (x : S59) (h0 : 0 ≤ i) (h1 : i < (l.length : Int)) : rd_T59 (l.set i.toNat x) i = x := by
  simp only [rd_T59, List.getD_eq_getElem?_getD]
  rw [List.getElem?_set_self (by omega)]
  rfl
/-- what Write and Cut leave: the same disk, or one with another Data of that file -/
theorem write_cases (l : List S59) (q i a : Int) (s : ByteArray) :
    ((writeOf l q i a s).1 = l ∧ ((writeOf l q i a s).2 ≠ 0 ∨ fileCode l i = 0 ∧ 0 ≤ a ∧ s.size = 0)) ∨
    (fileCode l i = 0 ∧ 0 ≤ a ∧ a ≤ 1000 ∧ s.size ≠ 0 ∧ ¬ full (rd_T59 l i).f6 (totalOf l) q (a.toNat + s.size) ∧ writeOf l q i a s = (l.set i.toNat { rd_T59 l i with f6 := written (rd_T59 l i).f6 a.toNat (a.toNat + s.size) s }, 0)) := by
  unfold writeOf
  by_cases c : fileCode l i ≠ 0
  · rw [if_pos c]
    exact .inl ⟨rfl, .inl c⟩
  rw [if_neg c]
  by_cases c1 : a < 0
  · rw [if_pos c1]
    exact .inl ⟨rfl, .inl (fun h => by cases h)⟩
  rw [if_neg c1]
  by_cases c2 : s.size = 0
  · rw [if_pos c2]
    exact .inl ⟨rfl, .inr ⟨Classical.byContradiction c, by omega, c2⟩⟩
  rw [if_neg c2]
  by_cases c3 : 1000 < a
  · rw [if_pos c3]
    exact .inl ⟨rfl, .inl (fun h => by cases h)⟩
  rw [if_neg c3]
  by_cases c4 : full (rd_T59 l i).f6 (totalOf l) q (a.toNat + s.size)
  · rw [if_pos c4]
    exact .inl ⟨rfl, .inl (fun h => by cases h)⟩
  rw [if_neg c4]
  exact .inr ⟨Classical.byContradiction c, by omega, by omega, c2, c4, rfl⟩
theorem cut_cases (l : List S59) (q i n : Int) :
    ((cutOf l q i n).1 = l ∧ (cutOf l q i n).2 ≠ 0) ∨
    (fileCode l i = 0 ∧ 0 ≤ n ∧ cutOf l q i n = (l.set i.toNat { rd_T59 l i with f6 := cutTo (rd_T59 l i).f6 n.toNat }, 0)) := by
  unfold cutOf
  by_cases c : fileCode l i ≠ 0
  · rw [if_pos c]
    exact .inl ⟨rfl, c⟩
  rw [if_neg c]
  by_cases c1 : n < 0
  · rw [if_pos c1]
    exact .inl ⟨rfl, fun h => by cases h⟩
  rw [if_neg c1]
  by_cases c3 : ((rd_T59 l i).f6.size : Int) < n ∧ 1000 < n
  · rw [if_pos c3]
    exact .inl ⟨rfl, fun h => by cases h⟩
  rw [if_neg c3]
  by_cases c4 : full (rd_T59 l i).f6 (totalOf l) q n.toNat
  · rw [if_pos c4]
    exact .inl ⟨rfl, fun h => by cases h⟩
  rw [if_neg c4]
  exact .inr ⟨Classical.byContradiction c, by omega, rfl⟩
/-- a file with another Data: it is one, and that is what it has -/
theorem file_set {l : List S59} {i : Int} (c : fileCode l i = 0) (d : ByteArray) : fileCode (l.set i.toNat { rd_T59 l i with f6 := d }) i = 0 ∧ rd_T59 (l.set i.toNat { rd_T59 l i with f6 := d }) i = { rd_T59 l i with f6 := d } := by
  obtain ⟨h0, h1, h2, _⟩ := fileCode_file c
  have e := rd_set_eq l i { rd_T59 l i with f6 := d } h0 h1
  exact ⟨fileCode_of h0 (by rw [List.length_set]; exact h1) (by rw [e]; exact h2), e⟩
theorem total_set {l : List S59} {i : Int} (c : fileCode l i = 0) (d : ByteArray) : totalOf (l.set i.toNat { rd_T59 l i with f6 := d }) = totalOf l - ((rd_T59 l i).f6.size : Int) + (d.size : Int) := by
  obtain ⟨h0, h1, h2, _⟩ := fileCode_file c
  have hlt : i.toNat < l.length := by omega
  have e : rd_T59 l i = l[i.toNat] := by simp [rd_T59, hlt]
  rw [totalOf_set l i.toNat _ hlt, ← e]
  unfold bytesOf
  rw [if_pos (.inl h2), if_pos (.inl h2)]
end Go.Proofs.Ytpeelfambaedkaa.P
