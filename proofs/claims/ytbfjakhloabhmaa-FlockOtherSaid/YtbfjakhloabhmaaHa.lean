/- Contracts of flock's closures and of 'holders', by hand: which descriptions of a node are told to the closure, one after the other; no condition. -/
import Derived.Test.YtbfjakhloabhmaaPK
import Derived.Outline
namespace Go.Proofs.Ytbfjakhloabhmaa.P
open Go.RowKit Go.Proofs.YtbfjakhloabhmaaW.PrintWords Go.Proofs.YtbfjakhloabhmaaW.PrintLast Go.Proofs.YtbfjakhloabhmaaW.PrintMore

def holdersOf (ds : List S44) (ino lock : Int) : Nat := ds.countP fun x => decide (x.f4 > 0) && decide (x.f0 = ino) && decide (x.f5 = lock)

theorem rd44_lt (l : List S44) (k : Nat) (h : k < l.length) : rd_T44 l (k : Int) = l[k] := by
  simp [rd_T44, h]
theorem take_one (l : List S44) (k : Nat) (h : k < l.length) : l.take (k + 1) = l.take k ++ [rd_T44 l (k : Int)] := by
  rw [rd44_lt l k h, List.take_succ_eq_append_getElem h]
theorem holdersOf_one (l : List S44) (ino lock : Int) (k : Nat) (h : k < l.length) :
    holdersOf (l.take (k + 1)) ino lock = holdersOf (l.take k) ino lock + if (rd_T44 l (k : Int)).f4 > 0 ∧ (rd_T44 l (k : Int)).f0 = ino ∧ (rd_T44 l (k : Int)).f5 = lock then 1 else 0 := by
  rw [take_one l k h]
  unfold holdersOf
  rw [List.countP_append]
  by_cases h1 : (rd_T44 l (k : Int)).f4 > 0 ∧ (rd_T44 l (k : Int)).f0 = ino ∧ (rd_T44 l (k : Int)).f5 = lock
  · rw [if_pos h1]
    simp [h1.1, h1.2.1, h1.2.2]
  · rw [if_neg h1]
    have : ¬ (((decide ((rd_T44 l (k : Int)).f4 > 0) && decide ((rd_T44 l (k : Int)).f0 = ino) && decide ((rd_T44 l (k : Int)).f5 = lock))) = true) := by
      simp only [Bool.and_eq_true, decide_eq_true_eq]
      exact fun z => h1 ⟨z.1.1, z.1.2, z.2⟩
    simp only [List.countP_singleton, this]
    simp
theorem holdersOf_le (l : List S44) (ino lock : Int) : holdersOf l ino lock ≤ l.length := List.countP_le_length

/-! the closure of Holders: it counts in two boxes -/
set_option maxHeartbeats 400000 in
theorem cl24_one (g h : Nat) (W : World) (i lock a : Int) (hl : lock = 1) (ha : 0 ≤ a) (ha2 : a ≤ 9223372036854775806) (hG : W.heap[g]? = some (.cells #[.int .i64 a] 3 (0, 0))) :
    Calls Try.prog 24 #[.int .i64 i, .int .i64 lock, .pointer (some ⟨g, 0, none⟩), .pointer (some ⟨h, 0, none⟩)] W fun e W' => e = .returned (.tuple #[]) ∧ W.setCell ⟨g, 0, none⟩ (.int .i64 (a + 1)) = W' := by
  have hc : W.cell? ⟨g, 0, none⟩ = some (.int .i64 a) := (blk_cell hG 0).trans rfl
  have hf := blk_frozen hG 0
  clear hG
  subst hl
  go_enter Try.func24, Try.ntmps24
  go_wp2
  go_end0
  exact ⟨rfl, rfl⟩
set_option maxHeartbeats 400000 in
theorem cl24_two (g h : Nat) (W : World) (i lock a : Int) (hl : lock = 2) (ha : 0 ≤ a) (ha2 : a ≤ 9223372036854775806) (hG : W.heap[h]? = some (.cells #[.int .i64 a] 3 (0, 0))) :
    Calls Try.prog 24 #[.int .i64 i, .int .i64 lock, .pointer (some ⟨g, 0, none⟩), .pointer (some ⟨h, 0, none⟩)] W fun e W' => e = .returned (.tuple #[]) ∧ W.setCell ⟨h, 0, none⟩ (.int .i64 (a + 1)) = W' := by
  have hc : W.cell? ⟨h, 0, none⟩ = some (.int .i64 a) := (blk_cell hG 0).trans rfl
  have hf := blk_frozen hG 0
  clear hG
  subst hl
  go_enter Try.func24, Try.ntmps24
  go_wp2
  go_end0
  exact ⟨rfl, rfl⟩
set_option maxHeartbeats 400000 in
theorem cl24_no (g h : Nat) (W : World) (i lock : Int) (h1 : lock ≠ 1) (h2 : lock ≠ 2) :
    Calls Try.prog 24 #[.int .i64 i, .int .i64 lock, .pointer (some ⟨g, 0, none⟩), .pointer (some ⟨h, 0, none⟩)] W fun e W' => e = .returned (.tuple #[]) ∧ W = W' := by
  have e1 : (lock == 1) = false := beq_eq_false_iff_ne.mpr h1
  have e2 : (lock == 2) = false := beq_eq_false_iff_ne.mpr h2
  clear h1 h2
  go_enter Try.func24, Try.ntmps24
  go_wp2
  go_end0
  exact ⟨rfl, rfl⟩
end Go.Proofs.Ytbfjakhloabhmaa.P
