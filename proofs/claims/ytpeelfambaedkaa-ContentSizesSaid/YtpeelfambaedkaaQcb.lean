/- The reference's Bytes; no program in sight. -/
import Derived.Test.YtpeelfambaedkaaQc
import Derived.Test.YtpeelfambaedkaaPref06Bytes
namespace Go.Proofs.Ytpeelfambaedkaa.P
open Go.RowKit Go.Proofs.YtpeelfambaedkaaW.PrintWords Go.Proofs.YtpeelfambaedkaaW.PrintLast Go.Proofs.YtpeelfambaedkaaW.PrintMore

theorem weight_is (x : S59) : flagstoneref06_weight.f (conv x).f0 (conv x).f1 (conv x).f2 (conv x).f3 (conv x).f4 (conv x).f5 (conv x).f6 (conv x).f7 = some (bytesOf x) := by
  unfold flagstoneref06_weight.f bytesOf
  show (if x.f0 = 1 then some (x.f6.size : Int) else if x.f0 = 3 then some (x.f6.size : Int) else some 0) = _
  by_cases c1 : x.f0 = 1
  · rw [if_pos c1, if_pos (.inl c1)]
  · rw [if_neg c1]
    by_cases c3 : x.f0 = 3
    · rw [if_pos c3, if_pos (.inr c3)]
    · rw [if_neg c3, if_neg (fun h => h.elim c1 c3)]
theorem bytes_ev {l : List S59} (hS : Small l) (m q : Int) : Ev (fun k => flagstoneref06_Bytes.f k (l.map conv) m q) (totalOf l) := by
  have hl := hS.1
  have key : ∀ r j : Nat, j ≤ l.length → l.length - j = r → Ev (fun k => flagstoneref06_Bytes.l0 k (totalOf (l.take j)) (j : Int) (l.map conv) m q) (totalOf l) := by
    intro r
    induction r with
    | zero =>
      intro j hj hd
      refine Ev.step (fun k => by rw [flagstoneref06_Bytes.l0]) (Ev.neg (by rw [List.length_map]; omega) ?_)
      rw [List.take_of_length_le (by omega)]
      exact Ev.now _
    | succ r ih =>
      intro j hj hd
      refine Ev.step (fun k => by rw [flagstoneref06_Bytes.l0]) (Ev.pos (by rw [List.length_map]; omega) (Ev.pos (by omega) ?_))
      rw [rd_conv, weight_is]
      have h := ih (j + 1) (by omega) (by omega)
      have hlt : j < l.length := by omega
      have e : totalOf (l.take (j + 1)) = totalOf (l.take j) + bytesOf (rd_T59 l (j : Int)) := by
        rw [List.take_succ_eq_append_getElem hlt, totalOf_append, rd_at l j hlt]
      have hx := (hS.rd (j : Int)).1
      have h3 := bytesOf_le (rd_T59 l (j : Int))
      have h4 := bytesOf_nonneg (rd_T59 l (j : Int))
      have h5 := totalOf_nonneg (l.take j)
      have h6 := totalOf_le (l.take j) (fun x hx => (hS.2 x (List.mem_of_mem_take hx)).1)
      have h7 : (l.take j).length ≤ 100 := by rw [List.length_take]; omega
      have ew : wrap64 (totalOf (l.take j) + bytesOf (rd_T59 l (j : Int))) = totalOf (l.take (j + 1)) := by
        rw [e]
        unfold wrap64
        omega
      refine Ev.bind (Ev.now _) ?_
      rw [ew, wrap_one (by omega) (by omega)]
      exact h
  exact key _ 0 (by omega) rfl
end Go.Proofs.Ytpeelfambaedkaa.P
