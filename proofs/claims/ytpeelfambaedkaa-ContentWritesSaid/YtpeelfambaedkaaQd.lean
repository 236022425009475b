/- Plain laws of layer 9: what Read, Write and Cut say of a disk that is not too great; no program in sight. -/
import Derived.Test.YtpeelfambaedkaaQc
import Derived.Test.YtpeelfambaedkaaPcontentWrite
import Derived.Test.YtpeelfambaedkaaPcontentCut
import Derived.Test.YtpeelfambaedkaaPcontentRead
namespace Go.Proofs.Ytpeelfambaedkaa.P
open Go.RowKit Go.Proofs.YtpeelfambaedkaaW.PrintWords Go.Proofs.YtpeelfambaedkaaW.PrintLast Go.Proofs.YtpeelfambaedkaaW.PrintMore

theorem fileCode_file {l : List S59} {i : Int} (h : fileCode l i = 0) : 0 ≤ i ∧ i < (l.length : Int) ∧ (rd_T59 l i).f0 = 1 ∧ nodeOf l i = rd_T59 l i := by
  unfold fileCode at h
  by_cases c : isNode l i
  · rw [if_pos c] at h
    by_cases c1 : (rd_T59 l i).f0 = 1
    · exact ⟨c.1, c.2.1, c1, if_pos c⟩
    · rw [if_neg c1] at h
      split at h <;> cases h
  · rw [if_neg c] at h
    cases h
theorem fileCode_of {l : List S59} {i : Int} (h0 : 0 ≤ i) (h1 : i < (l.length : Int)) (h2 : (rd_T59 l i).f0 = 1) : fileCode l i = 0 := by
  unfold fileCode
  rw [if_pos ⟨h0, h1, by rw [h2]; decide⟩, if_pos h2]
/-- what Read says -/
def readOf (l : List S59) (i a n : Int) : ByteArray × Int :=
  if fileCode l i ≠ 0 then (⟨#[]⟩, fileCode l i) else if a < 0 ∨ n < 0 then (⟨#[]⟩, 1)
  else (⟨(((rd_T59 l i).f6.data.toList.drop a.toNat).take n.toNat).toArray⟩, 0)
/-- what Write makes -/
def writeOf (l : List S59) (q i a : Int) (s : ByteArray) : List S59 × Int :=
  if fileCode l i ≠ 0 then (l, fileCode l i) else if a < 0 then (l, 1) else if s.size = 0 then (l, 0) else if 1000 < a then (l, 10)
  else if full (rd_T59 l i).f6 (totalOf l) q (a.toNat + s.size) then (l, 10)
  else (l.set i.toNat { rd_T59 l i with f6 := written (rd_T59 l i).f6 a.toNat (a.toNat + s.size) s }, 0)
/-- what Cut makes -/
def cutOf (l : List S59) (q i n : Int) : List S59 × Int :=
  if fileCode l i ≠ 0 then (l, fileCode l i) else if n < 0 then (l, 1) else if ((rd_T59 l i).f6.size : Int) < n ∧ 1000 < n then (l, 10)
  else if full (rd_T59 l i).f6 (totalOf l) q n.toNat then (l, 10)
  else (l.set i.toNat { rd_T59 l i with f6 := cutTo (rd_T59 l i).f6 n.toNat }, 0)
theorem code_eq (d : ByteArray) (S q : Int) (n : Nat) (l l' : List S59) (m : Int) : some (if codeOf d S q n = 10 then l else l', m, q, codeOf d S q n) = some ((if full d S q n then (l, (10 : Int)) else (l', 0)).1, m, q, (if full d S q n then (l, (10 : Int)) else (l', 0)).2) := by
  unfold codeOf
  by_cases c : full d S q n
  · rw [if_pos c, if_pos c, if_pos rfl]
  · rw [if_neg c, if_neg c, if_neg (by decide)]
theorem write_is {l : List S59} (hS : Small l) (m q i a : Int) (s : ByteArray) (hs : s.size ≤ 400) : content_Write.f l m q i a s = some ((writeOf l q i a s).1, m, q, (writeOf l q i a s).2) := by
  unfold content_Write.f writeOf
  rw [file_is, Option.bind_some]
  dsimp only
  by_cases c : fileCode l i = 0
  · have c' : ¬ (fileCode l i ≠ 0) := fun h => h c
    rw [if_neg c', if_neg c']
    by_cases c1 : a < 0
    · rw [if_pos c1, if_pos c1]
    · rw [if_neg c1, if_neg c1]
      by_cases c2 : s.size = 0
      · rw [if_pos ((bz_empty s).2 c2), if_pos c2]
      · rw [if_neg (fun h => c2 ((bz_empty s).1 h)), if_neg c2]
        by_cases c3 : 1000 < a
        · rw [if_pos c3, if_pos c3]
        · have ht := hS.total
          have hr := (hS.rd i).1
          have hl := hS.1
          have hb : ¬ (tooBig l i (a.toNat + s.size) ∨ 3000 < s.size) := by
            unfold tooBig
            rw [hS.sum]
            omega
          rw [if_neg c3, if_neg c3, if_neg hb, hS.sum]
          exact code_eq _ _ _ _ _ _ _
  · rw [if_pos c, if_pos c]
theorem cut_is {l : List S59} (hS : Small l) (m q i n : Int) : content_Cut.f l m q i n = some ((cutOf l q i n).1, m, q, (cutOf l q i n).2) := by
  unfold content_Cut.f cutOf
  rw [size_is, Option.bind_some]
  dsimp only
  by_cases c : fileCode l i = 0
  · have c' : ¬ (fileCode l i ≠ 0) := fun h => h c
    rw [if_neg c', if_neg c', if_pos c, (fileCode_file c).2.2.2]
    by_cases c1 : n < 0
    · rw [if_pos c1, if_pos c1]
    · rw [if_neg c1, if_neg c1]
      by_cases c3 : ((rd_T59 l i).f6.size : Int) < n ∧ 1000 < n
      · rw [if_pos c3, if_pos c3]
      · have ht := hS.total
        have hr := (hS.rd i).1
        have hl := hS.1
        have hb : ¬ tooBig l i n.toNat := by
          unfold tooBig
          rw [hS.sum]
          omega
        rw [if_neg c3, if_neg c3, if_neg hb, hS.sum]
        exact code_eq _ _ _ _ _ _ _
  · rw [if_pos c, if_pos c]
theorem take_drop_min (L : List UInt8) (a n : Nat) : (L.drop (min a L.length)).take (min n (L.length - min a L.length)) = (L.drop a).take n := by
  by_cases c : a ≤ L.length
  · rw [Nat.min_eq_left c, ← List.length_drop, ← List.take_eq_take_min]
  · rw [Nat.min_eq_right (show L.length ≤ a by omega), List.drop_eq_nil_of_le (Nat.le_refl _), List.drop_eq_nil_of_le (by omega), List.take_nil, List.take_nil]
theorem read_is (l : List S59) (m q i a n : Int) : content_Read.f l m q i a n = some (readOf l i a n) := by
  unfold content_Read.f readOf
  rw [file_is, Option.bind_some]
  dsimp only
  by_cases c : fileCode l i = 0
  · have c' : ¬ (fileCode l i ≠ 0) := fun h => h c
    rw [if_pos c, if_neg c', (fileCode_file c).2.2.2]
    by_cases c1 : a < 0
    · rw [if_pos c1, if_pos (.inl c1)]
    · rw [if_neg c1]
      by_cases c2 : n < 0
      · rw [if_pos c2, if_pos (.inr c2)]
      · have c3 : ¬ (a < 0 ∨ n < 0) := fun h => h.elim c1 c2
        rw [if_neg c2, if_neg c3]
        generalize (rd_T59 l i).f6 = d
        have e1 : mn a (d.size : Int) = ((min a.toNat d.size : Nat) : Int) := by unfold mn; split <;> omega
        rw [e1, if_pos (by omega), if_pos (by omega), Int.toNat_natCast]
        have e2 : mn n ((d.extract (min a.toNat d.size) d.size).size : Int) = ((min n.toNat (d.extract (min a.toNat d.size) d.size).size : Nat) : Int) := by unfold mn; split <;> omega
        rw [e2, if_pos (by omega), if_pos (by omega), Int.toNat_natCast, c]
        congr 2
        apply bz_ext
        rw [bz_cut, bz_cut, List.drop_zero, List.take_of_length_le (Nat.le_of_eq (bz_len d)), ByteArray.size_extract, Nat.min_self, ← bz_len]
        exact take_drop_min _ _ _
  · rw [if_neg c, if_pos c]
/-! what stays -/
theorem write_small {l : List S59} (hS : Small l) (q i a : Int) (s : ByteArray) (hs : s.size ≤ 400) : Small (writeOf l q i a s).1 := by
  unfold writeOf
  split
  · exact hS
  split
  · exact hS
  split
  · exact hS
  split
  · exact hS
  split
  · exact hS
  refine hS.set _ _ ⟨?_, (hS.rd i).2⟩
  have hr := (hS.rd i).1
  show (written _ _ _ _).size ≤ 2000
  rw [written_size]
  omega
theorem cut_small {l : List S59} (hS : Small l) (q i n : Int) : Small (cutOf l q i n).1 := by
  unfold cutOf
  split
  · exact hS
  split
  · exact hS
  split
  · exact hS
  split
  · exact hS
  refine hS.set _ _ ⟨?_, (hS.rd i).2⟩
  have hr := (hS.rd i).1
  show (cutTo _ _).size ≤ 2000
  rw [cutTo_size]
  omega
end Go.Proofs.Ytpeelfambaedkaa.P
