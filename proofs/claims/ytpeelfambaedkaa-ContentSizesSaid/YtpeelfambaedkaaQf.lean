/- Plain laws of layer 9: what is read of bytes that were written; no program in sight. -/
import Derived.Test.YtpeelfambaedkaaQe
namespace Go.Proofs.Ytpeelfambaedkaa.P
open Go.RowKit Go.Proofs.YtpeelfambaedkaaW.PrintWords Go.Proofs.YtpeelfambaedkaaW.PrintLast Go.Proofs.YtpeelfambaedkaaW.PrintMore

theorem pad_is (d : ByteArray) (n : Nat) : padTo d n = d.data.toList ++ List.replicate (n - d.size) 0 := by
  unfold padTo
  split
  · rfl
  · rw [show n - d.size = 0 by omega, List.replicate_zero, List.append_nil]
theorem pad_take' (d : ByteArray) (k n : Nat) (h : k ≤ n) : (padTo d n).take k = (padTo d k).take k := by
  rw [← pad_take d k n h, pad_is]
theorem pad_drop' (d : ByteArray) (n j : Nat) (h : n ≤ j) : (padTo d n).drop j = d.data.toList.drop j := by
  rw [pad_is, List.drop_append, bz_len, List.drop_replicate, show n - d.size - (j - d.size) = 0 by omega, List.replicate_zero, List.append_nil]
theorem wr_head (d : ByteArray) (k n : Nat) (h : k ≤ n) : ((padTo d n).take k).length = k := by
  rw [List.length_take, padTo_length]
  omega
theorem wr_take (d : ByteArray) (k : Nat) (s : ByteArray) (j : Nat) (h : j ≤ k) : (written d k (k + s.size) s).data.toList.take j = (padTo d (k + s.size)).take j := by
  rw [written_list, List.take_append_of_le_length (by rw [wr_head d k _ (Nat.le_add_right ..)]; exact h), List.take_take, Nat.min_eq_left h]
theorem wr_mid (d : ByteArray) (k : Nat) (s : ByteArray) : ((written d k (k + s.size) s).data.toList.drop k).take s.size = s.data.toList := by
  rw [written_list, List.drop_left' (wr_head d k _ (Nat.le_add_right ..)), List.take_left' (bz_len s)]
theorem wr_front (d : ByteArray) (k : Nat) (s : ByteArray) : (written d k (k + s.size) s).data.toList.take (k + s.size) = (padTo d (k + s.size)).take k ++ s.data.toList := by
  rw [written_list, ← List.append_assoc]
  exact List.take_left' (by rw [List.length_append, wr_head d k _ (Nat.le_add_right ..), bz_len])
theorem wr_drop (d : ByteArray) (k : Nat) (s : ByteArray) (j : Nat) (h : k + s.size ≤ j) : (written d k (k + s.size) s).data.toList.drop j = d.data.toList.drop j := by
  obtain ⟨r, rfl⟩ : ∃ r, j = k + s.size + r := ⟨j - (k + s.size), by omega⟩
  rw [← List.drop_drop]
  have e : (written d k (k + s.size) s).data.toList.drop (k + s.size) = (padTo d (k + s.size)).drop (k + s.size) := by
    rw [written_list, ← List.append_assoc]
    exact List.drop_left' (by rw [List.length_append, wr_head d k _ (Nat.le_add_right ..), bz_len])
  rw [e, List.drop_drop, pad_drop' d _ _ (Nat.le_add_right ..)]
theorem take_split (L : List UInt8) (j n : Nat) : (L.drop j).take n = (L.take (j + n)).drop j := by
  rw [List.drop_take, Nat.add_sub_cancel_left]
/-- what lies ahead of what was written stays, at least as far as there was any -/
theorem wr_ahead (d : ByteArray) (k : Nat) (s : ByteArray) (j n : Nat) (h : j + n ≤ k) : ∃ r, ((written d k (k + s.size) s).data.toList.drop j).take n = (d.data.toList.drop j).take n ++ r := by
  rw [take_split, wr_take d k s _ h, ← take_split, pad_is, List.drop_append, List.take_append]
  exact ⟨_, rfl⟩
/-- two writes one behind the other -/
theorem wr_two (d : ByteArray) (k : Nat) (s t : ByteArray) : written (written d k (k + s.size) s) (k + s.size) (k + s.size + t.size) t = written d k (k + (s ++ t).size) (s ++ t) := by
  apply bz_ext
  rw [written_list (written d k (k + s.size) s), written_list d, ByteArray.size_append, bz_cat]
  have e1 : (padTo (written d k (k + s.size) s) (k + s.size + t.size)).take (k + s.size) = (padTo d (k + (s.size + t.size))).take k ++ s.data.toList := by
    rw [pad_is, List.take_append_of_le_length (by rw [bz_len, written_size]; omega), wr_front, pad_take' d k (k + s.size) (Nat.le_add_right ..), pad_take' d k _ (Nat.le_add_right ..)]
  have e2 : (padTo (written d k (k + s.size) s) (k + s.size + t.size)).drop (k + s.size + t.size) = (padTo d (k + (s.size + t.size))).drop (k + (s.size + t.size)) := by
    rw [pad_drop' _ _ _ (Nat.le_refl _), wr_drop _ _ _ _ (Nat.le_add_right ..), pad_drop' _ _ _ (Nat.le_refl _), Nat.add_assoc]
  rw [e1, e2, List.append_assoc, List.append_assoc]
theorem wr_nil (s t : ByteArray) (h : t.size = 0) : s ++ t = s := by
  apply bz_ext
  have e : t.data.toList = [] := List.length_eq_zero_iff.1 (by rw [bz_len]; exact h)
  rw [bz_cat, e, List.append_nil]
theorem nil_wr (s t : ByteArray) (h : s.size = 0) : s ++ t = t := by
  apply bz_ext
  have e : s.data.toList = [] := List.length_eq_zero_iff.1 (by rw [bz_len]; exact h)
  rw [bz_cat, e, List.nil_append]
end Go.Proofs.Ytpeelfambaedkaa.P
