/- The reference's Get says the same; no program in sight. -/
import Derived.Test.YtpeelfambaedkaaQb
import Derived.Test.YtpeelfambaedkaaPref06Get
namespace Go.Proofs.Ytpeelfambaedkaa.P
open Go.RowKit Go.Proofs.YtpeelfambaedkaaW.PrintWords Go.Proofs.YtpeelfambaedkaaW.PrintLast Go.Proofs.YtpeelfambaedkaaW.PrintMore

theorem ref_get (l : List S59) (m q i : Int) : flagstoneref06_Get.f (l.map conv) m q i = some ((conv (nodeOf l i)).f0, (conv (nodeOf l i)).f1, (conv (nodeOf l i)).f2, (conv (nodeOf l i)).f3, (conv (nodeOf l i)).f4, (conv (nodeOf l i)).f5, (conv (nodeOf l i)).f6, (conv (nodeOf l i)).f7, decide (isNode l i)) := by
  unfold flagstoneref06_Get.f nodeOf
  rw [rd_conv, List.length_map]
  by_cases a : i < 0
  · have c : ¬ isNode l i := fun h => by have := h.1; omega
    simp only [if_pos a, if_neg c, decide_eq_false c]
    rfl
  by_cases b : i ≥ (l.length : Int)
  · have c : ¬ isNode l i := fun h => by have := h.2.1; omega
    simp only [if_neg a, if_pos b, if_neg c, decide_eq_false c]
    rfl
  have h0 : 0 ≤ i := by omega
  have h1 : i < (l.length : Int) := by omega
  by_cases z : (rd_T59 l i).f0 = 0
  · have c : ¬ isNode l i := fun h => h.2.2 z
    have z' : (conv (rd_T59 l i)).f0 = 0 := z
    simp only [if_neg a, if_neg b, if_pos h0, if_pos h1, if_pos z', if_neg c, decide_eq_false c]
    rfl
  · have c : isNode l i := ⟨h0, h1, z⟩
    have z' : ¬ (conv (rd_T59 l i)).f0 = 0 := z
    simp only [if_neg a, if_neg b, if_pos h0, if_pos h1, if_neg z', if_pos c, decide_eq_true c]
end Go.Proofs.Ytpeelfambaedkaa.P
