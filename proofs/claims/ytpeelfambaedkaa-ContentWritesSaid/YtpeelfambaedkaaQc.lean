/- Plain laws of layer 9: bytes, what is written and cut, a disk that is not too great; no program in sight. -/
import Derived.Test.YtpeelfambaedkaaQb
import Derived.Test.YtpeelfambaedkaaHo
namespace Go.Proofs.Ytpeelfambaedkaa.P
open Go.RowKit Go.Proofs.YtpeelfambaedkaaW.PrintWords Go.Proofs.YtpeelfambaedkaaW.PrintLast Go.Proofs.YtpeelfambaedkaaW.PrintMore

theorem bz_ext {a b : ByteArray} (h : a.data.toList = b.data.toList) : a = b := ByteArray.ext (Array.ext' h)
theorem bz_len (d : ByteArray) : d.data.toList.length = d.size := Array.length_toList
theorem bz_cat (a b : ByteArray) : (a ++ b).data.toList = a.data.toList ++ b.data.toList := by rw [ByteArray.data_append, Array.toList_append]
theorem bz_cut (a : ByteArray) (i j : Nat) : (a.extract i j).data.toList = (a.data.toList.take j).drop i := by rw [ByteArray.data_extract, Array.toList_extract, List.extract_eq_take_drop, List.drop_take]
theorem bz_empty (s : ByteArray) : s.toList = ([] : List UInt8) ↔ s.size = 0 := by
  rw [ByteArray.toList_eq, ← bz_len]
  exact List.length_eq_zero_iff.symm
def zeros (n : Nat) : ByteArray := ⟨(List.replicate n 0).toArray⟩
theorem zeros_list (n : Nat) : (zeros n).data.toList = List.replicate n 0 := rfl
theorem zeros_size (n : Nat) : (zeros n).size = n := by rw [← bz_len, zeros_list, List.length_replicate]
theorem zeros_succ (n : Nat) : zeros n ++ (⟨#[0]⟩ : ByteArray) = zeros (n + 1) := by
  apply bz_ext
  rw [bz_cat, zeros_list, zeros_list, List.replicate_succ']
theorem padTo_length (d : ByteArray) (n : Nat) : (padTo d n).length = max d.size n := by
  unfold padTo
  split
  · rw [List.length_append, List.length_replicate, bz_len]
    omega
  · rw [bz_len]
    omega
theorem cutTo_list (d : ByteArray) (n : Nat) : (cutTo d n).data.toList = (padTo d n).take n := rfl
theorem written_list (d : ByteArray) (k n : Nat) (s : ByteArray) : (written d k n s).data.toList = (padTo d n).take k ++ (s.data.toList ++ (padTo d n).drop n) := rfl
theorem cutTo_size (d : ByteArray) (n : Nat) : (cutTo d n).size = n := by
  rw [← bz_len, cutTo_list, List.length_take, padTo_length]
  omega
theorem written_size (d : ByteArray) (k : Nat) (s : ByteArray) : (written d k (k + s.size) s).size = max d.size (k + s.size) := by
  rw [← bz_len, written_list, List.length_append, List.length_append, List.length_take, List.length_drop, padTo_length, bz_len]
  omega
theorem pad_take (d : ByteArray) (k n : Nat) (h : k ≤ n) : (d.data.toList ++ List.replicate (k - d.size) 0).take k = (padTo d n).take k := by
  unfold padTo
  split
  · rw [List.take_append, List.take_append, bz_len, List.take_replicate, List.take_replicate]
    congr 2
    omega
  · rw [show k - d.size = 0 by omega, List.replicate_zero, List.append_nil]
theorem pad_drop (d : ByteArray) (k n : Nat) (h : k ≤ n) : (d.data.toList ++ List.replicate (k - d.size) 0).drop n = (padTo d n).drop n := by
  unfold padTo
  split
  · rw [List.drop_append, List.drop_append, bz_len, List.drop_replicate, List.drop_replicate]
    congr 2
    omega
  · rw [show k - d.size = 0 by omega, List.replicate_zero, List.append_nil]
/-- a disk that is not too great -/
def Small (l : List S59) : Prop := l.length ≤ 100 ∧ ∀ x ∈ l, x.f6.size ≤ 2000 ∧ x.f7.length ≤ 60
def totalOf : List S59 → Int
  | [] => 0
  | x :: l => bytesOf x + totalOf l
theorem bytesOf_nonneg (x : S59) : 0 ≤ bytesOf x := by
  unfold bytesOf
  split <;> omega
theorem bytesOf_le (x : S59) : bytesOf x ≤ (x.f6.size : Int) := by
  unfold bytesOf
  split <;> omega
theorem totalOf_nonneg (l : List S59) : 0 ≤ totalOf l := by
  induction l with
  | nil => exact Int.le_refl _
  | cons x l ih =>
    have := bytesOf_nonneg x
    show 0 ≤ bytesOf x + totalOf l
    omega
theorem totalOf_le (l : List S59) (h : ∀ x ∈ l, x.f6.size ≤ 2000) : totalOf l ≤ 2000 * (l.length : Int) := by
  induction l with
  | nil => exact Int.le_refl _
  | cons x l ih =>
    have h1 := h x (List.mem_cons_self ..)
    have h2 := ih (fun y hy => h y (List.mem_cons_of_mem _ hy))
    have h3 := bytesOf_le x
    show bytesOf x + totalOf l ≤ 2000 * ((l.length + 1 : Nat) : Int)
    omega
theorem totalOf_append (l : List S59) (x : S59) : totalOf (l ++ [x]) = totalOf l + bytesOf x := by
  induction l with
  | nil => show bytesOf x + 0 = 0 + bytesOf x; omega
  | cons y l ih =>
    show bytesOf y + totalOf (l ++ [x]) = bytesOf y + totalOf l + bytesOf x
    omega
theorem totalOf_set (l : List S59) (i : Nat) (x : S59) (h : i < l.length) : totalOf (l.set i x) = totalOf l - bytesOf l[i] + bytesOf x := by
  induction l generalizing i with
  | nil => exact absurd h (Nat.not_lt_zero _)
  | cons y l ih =>
    cases i with
    | zero => show bytesOf x + totalOf l = bytesOf y + totalOf l - bytesOf y + bytesOf x; omega
    | succ i =>
      have hi : i < l.length := Nat.lt_of_succ_lt_succ h
      have := ih i hi
      show bytesOf y + totalOf (l.set i x) = bytesOf y + totalOf l - bytesOf l[i] + bytesOf x
      omega
theorem bytesSum_is (l : List S59) (h : ∀ x ∈ l, x.f6.size ≤ 2000) : ∀ s : Int, 0 ≤ s → s + 2000 * (l.length : Int) < 1000000 → bytesSum l s = s + totalOf l := by
  induction l with
  | nil => intro s _ _; show s = s + 0; omega
  | cons x l ih =>
    intro s h0 h1
    have h2 := h x (List.mem_cons_self ..)
    have h3 := bytesOf_le x
    have h4 := bytesOf_nonneg x
    rw [List.length_cons] at h1
    have e : wrap64 (s + bytesOf x) = s + bytesOf x := by
      unfold wrap64
      omega
    show bytesSum l (wrap64 (s + bytesOf x)) = s + (bytesOf x + totalOf l)
    rw [e, ih (fun y hy => h y (List.mem_cons_of_mem _ hy)) _ (by omega) (by omega)]
    omega
theorem Small.total {l : List S59} (h : Small l) : 0 ≤ totalOf l ∧ totalOf l ≤ 200000 := by
  have h1 := totalOf_le l (fun x hx => (h.2 x hx).1)
  have h2 := h.1
  exact ⟨totalOf_nonneg l, by omega⟩
theorem Small.sum {l : List S59} (h : Small l) : bytesSum l 0 = totalOf l := by
  have h2 := h.1
  rw [bytesSum_is l (fun x hx => (h.2 x hx).1) 0 (Int.le_refl _) (by omega)]
  omega
theorem rd_at (l : List S59) (i : Nat) (h : i < l.length) : rd_T59 l (i : Int) = l[i] := by simp [rd_T59, h]
theorem Small.rd {l : List S59} (h : Small l) (i : Int) : (rd_T59 l i).f6.size ≤ 2000 ∧ (rd_T59 l i).f7.length ≤ 60 := by
  by_cases c : i.toNat < l.length
  · have e : rd_T59 l i = l[i.toNat] := by simp [rd_T59, c]
    rw [e]
    exact h.2 _ (List.getElem_mem c)
  · have e : rd_T59 l i = z59 := by simp [rd_T59, List.getD_eq_getElem?_getD, List.getElem?_eq_none (by omega : l.length ≤ i.toNat)]
    rw [e]
    exact ⟨Nat.zero_le _, Nat.zero_le _⟩
theorem Small.of {l : List S59} (h1 : l.length ≤ 100) (h2 : ∀ i : Nat, i < l.length → fits (rd_T59 l (i : Int))) : Small l := by
  refine ⟨h1, fun x hx => ?_⟩
  obtain ⟨i, hi, rfl⟩ := List.mem_iff_getElem.1 hx
  have h3 := h2 i hi
  rw [rd_at l i hi] at h3
  exact ⟨Nat.le_trans h3.1 (by decide), h3.2⟩
theorem Small.set {l : List S59} (h : Small l) (i : Nat) (x : S59) (hx : x.f6.size ≤ 2000 ∧ x.f7.length ≤ 60) : Small (l.set i x) := by
  refine ⟨by rw [List.length_set]; exact h.1, fun y hy => ?_⟩
  rcases List.mem_or_eq_of_mem_set hy with h1 | h1
  · exact h.2 y h1
  · subst h1
    exact hx
theorem Small.its {l : List S59} (h : Small l) (m q : Int) : Ev (fun k => flagstonelaw09_its.f k l m q) (l.map conv, m, q) :=
  its_ev l m q (Nat.lt_of_le_of_lt h.1 (by decide)) (fun x hx => Nat.lt_of_le_of_lt (h.2 x hx).2 (by decide))
end Go.Proofs.Ytpeelfambaedkaa.P
