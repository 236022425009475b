/- The reference's Read says the same; no program in sight. -/
import Derived.Test.YtpeelfambaedkaaQd
import Derived.Test.YtpeelfambaedkaaQbf
import Derived.Test.YtpeelfambaedkaaPref09Read
namespace Go.Proofs.Ytpeelfambaedkaa.P
open Go.RowKit Go.Proofs.YtpeelfambaedkaaW.PrintWords Go.Proofs.YtpeelfambaedkaaW.PrintLast Go.Proofs.YtpeelfambaedkaaW.PrintMore

theorem refread_ev (l : List S59) (m q i a n : Int) : Ev (fun k => flagstoneref09_Read.f k (l.map conv) m q i a n) (readOf l i a n) := by
  refine Ev.congr (fun k => by rw [flagstoneref09_Read.f, ref_file, Option.bind_some]) ?_
  dsimp only
  unfold readOf
  by_cases c : fileCode l i = 0
  · have c' : ¬ (fileCode l i ≠ 0) := fun h => h c
    rw [if_neg c', (fileCode_file c).2.2.2]
    refine Ev.pos c ?_
    by_cases c1 : a < 0
    · rw [if_pos (.inl c1)]
      exact Ev.pos c1 (Ev.step (fun k => by rw [flagstoneref09_Read.j0]) (Ev.pos rfl (Ev.now _)))
    · refine Ev.neg c1 (Ev.step (fun k => by rw [flagstoneref09_Read.j0]) ?_)
      by_cases c2 : n < 0
      · rw [if_pos (show a < 0 ∨ n < 0 from .inr c2)]
        exact Ev.pos (decide_eq_true c2) (Ev.now _)
      · have c3 : ¬ (a < 0 ∨ n < 0) := fun h => h.elim c1 c2
        rw [if_neg c3]
        refine Ev.neg (by simpa using c2) ?_
        show Ev (fun k => if a > ((rd_T59 l i).f6.size : Int) then _ else _) _
        generalize hd : (conv (rd_T59 l i)).f6 = d
        have hd' : (rd_T59 l i).f6 = d := hd
        rw [hd']
        by_cases c4 : a > (d.size : Int)
        · refine Ev.pos c4 ?_
          have e : (⟨((d.data.toList.drop a.toNat).take n.toNat).toArray⟩ : ByteArray) = ⟨#[]⟩ := by
            rw [List.drop_eq_nil_of_le (by rw [bz_len]; omega), List.take_nil]
          rw [e]
          exact Ev.now _
        · refine Ev.neg c4 (Ev.pos (by omega) (Ev.pos (by omega) ?_))
          have e0 : (d.extract a.toNat d.size).data.toList = d.data.toList.drop a.toNat := by rw [bz_cut, List.take_of_length_le (Nat.le_of_eq (bz_len d))]
          by_cases c5 : n < ((d.extract a.toNat d.size).size : Int)
          · refine Ev.pos c5 (Ev.pos (by omega) (Ev.pos (by omega) ?_))
            have e : (⟨((d.data.toList.drop a.toNat).take n.toNat).toArray⟩ : ByteArray) = (d.extract a.toNat d.size).extract 0 n.toNat := by
              apply bz_ext
              rw [bz_cut, e0, List.drop_zero]
            rw [e]
            exact Ev.now _
          · refine Ev.neg c5 ?_
            have e : (⟨((d.data.toList.drop a.toNat).take n.toNat).toArray⟩ : ByteArray) = d.extract a.toNat d.size := by
              apply bz_ext
              rw [e0]
              show List.take _ _ = _
              rw [List.take_of_length_le]
              rw [← bz_len, e0] at c5
              omega
            rw [e]
            exact Ev.now _
  · rw [if_pos c]
    exact Ev.neg c (Ev.now _)
end Go.Proofs.Ytpeelfambaedkaa.P
