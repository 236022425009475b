/- content.file and Size: what they say; no program in sight. -/
import Derived.Test.YtpeelfambaedkaaQa
import Derived.Test.YtpeelfambaedkaaPcontentSize
namespace Go.Proofs.Ytpeelfambaedkaa.P
open Go.RowKit Go.Proofs.YtpeelfambaedkaaW.PrintWords Go.Proofs.YtpeelfambaedkaaW.PrintLast Go.Proofs.YtpeelfambaedkaaW.PrintMore

/-- a node, if there is one -/
def isNode (l : List S59) (i : Int) : Prop := 0 ≤ i ∧ i < (l.length : Int) ∧ (rd_T59 l i).f0 ≠ 0
instance (l : List S59) (i : Int) : Decidable (isNode l i) := inferInstanceAs (Decidable (_ ∧ _))
def nodeOf (l : List S59) (i : Int) : S59 := if isNode l i then rd_T59 l i else ⟨0, 0, 0, 0, 0, 0, ⟨#[]⟩, []⟩
def fileCode (l : List S59) (i : Int) : Int := if isNode l i then (if (rd_T59 l i).f0 = 1 then 0 else if (rd_T59 l i).f0 = 2 then 5 else 1) else 2
theorem file_is (l : List S59) (m q i : Int) : content_file.f l m q i = some ((nodeOf l i).f0, (nodeOf l i).f1, (nodeOf l i).f2, (nodeOf l i).f3, (nodeOf l i).f4, (nodeOf l i).f5, (nodeOf l i).f6, (nodeOf l i).f7, fileCode l i) := by
  unfold content_file.f disk_Get.f nodeOf fileCode
  by_cases c : isNode l i
  · have c' : 0 ≤ i ∧ i < (l.length : Int) ∧ (rd_T59 l i).f0 ≠ 0 := c
    simp only [if_pos c, if_pos c', Option.bind_some]
    by_cases c1 : (rd_T59 l i).f0 = 1
    · simp only [if_pos c1]
    · by_cases c2 : (rd_T59 l i).f0 = 2
      · simp only [if_neg c1, if_pos c2]
      · simp only [if_neg c1, if_neg c2, if_neg c'.2.2]
  · have c' : ¬ (0 ≤ i ∧ i < (l.length : Int) ∧ (rd_T59 l i).f0 ≠ 0) := c
    simp only [if_neg c, if_neg c', Option.bind_some]
    rfl
theorem size_is (l : List S59) (m q i : Int) : content_Size.f l m q i = some (if fileCode l i = 0 then ((nodeOf l i).f6.size : Int) else 0, fileCode l i) := by
  unfold content_Size.f
  rw [file_is, Option.bind_some]
  dsimp only
  by_cases c : fileCode l i = 0
  · rw [if_pos c, if_pos c]
  · rw [if_neg c, if_neg c]
end Go.Proofs.Ytpeelfambaedkaa.P
