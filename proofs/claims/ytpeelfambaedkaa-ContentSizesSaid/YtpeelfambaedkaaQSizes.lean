/- The plain law of ContentSizes: it answers true; no program in sight. -/
import Derived.Test.YtpeelfambaedkaaQf
import Derived.Test.YtpeelfambaedkaaQbf
import Derived.Test.YtpeelfambaedkaaQcb
import Derived.Test.YtpeelfambaedkaaQeo
import Derived.Test.YtpeelfambaedkaaQs
import Derived.Test.YtpeelfambaedkaaPlaw09ContentSizes
namespace Go.Proofs.Ytpeelfambaedkaa.P
open Go.RowKit Go.Proofs.YtpeelfambaedkaaW.PrintWords Go.Proofs.YtpeelfambaedkaaW.PrintLast Go.Proofs.YtpeelfambaedkaaW.PrintMore

theorem sizes_law (l : List S59) (m q i a : Int) (s : ByteArray) (n : Int) : Ev (fun k => flagstonelaw09_ContentSizes.f k l m q i a s n) true := by
  have out : Ev (fun k => flagstonelaw09_ContentSizes.j0 k i a s n true l m q) true :=
    Ev.step (fun k => by rw [flagstonelaw09_ContentSizes.j0]) (Ev.pos rfl (Ev.bind (Ev.is shown_ok) (Ev.now _)))
  obtain ⟨b, h1, h2⟩ := small_ev l m q
  refine Ev.congr (fun k => by rw [flagstonelaw09_ContentSizes.f]) (Ev.bind h1 ?_)
  cases b with
  | false => exact Ev.neg (by decide) out
  | true =>
    have hS : Small l := Small.of (h2 rfl).1 (h2 rfl).2
    refine Ev.pos rfl ?_
    by_cases c : (s.size : Int) > 300
    · exact Ev.pos c out
    refine Ev.neg c (Ev.bind (Ev.is shown_ok) (Ev.step (fun k => by rw [flagstonelaw09_ContentSizes.j0]) (Ev.neg (by decide) ?_)))
    have hs : s.size ≤ 400 := by omega
    have hW := write_small hS q i a s hs
    have hC := cut_small hS q i n
    have ht := hS.total
    have hr := (hS.rd i).1
    -- the second half, and the tests on a disk with another Data
    have tests : ∀ (d : ByteArray), fileCode l i = 0 → Small (l.set i.toNat { rd_T59 l i with f6 := d }) → d.size ≤ 2000 →
        content_Size.f (l.set i.toNat { rd_T59 l i with f6 := d }) m q i = some ((d.size : Int), 0) ∧
        totalOf (l.set i.toNat { rd_T59 l i with f6 := d }) = wrap64 (wrap64 (totalOf l + (d.size : Int)) - ((rd_T59 l i).f6.size : Int)) ∧
        Ev (fun k => flagstonelaw09_others.f k (l.set i.toNat { rd_T59 l i with f6 := d }) m q l m q i) true := by
      intro d hc hd hsz
      obtain ⟨f1, f2⟩ := file_set hc d
      obtain ⟨g0, g1, _, _⟩ := fileCode_file hc
      refine ⟨?_, ?_, others_ev hS m q m q i (by rw [List.length_set]) (fun j hj => rd_set_ne l i _ g0 j hj)⟩
      · rw [size_is, if_pos f1, f1, (fileCode_file f1).2.2.2, f2]
      · rw [total_set hc]
        unfold wrap64
        omega
    have second : Ev (fun k => flagstonelaw09_ContentSizes.j2 k i n (if fileCode l i = 0 then ((nodeOf l i).f6.size : Int) else 0) (cutOf l q i n).2 l m q (cutOf l q i n).1 m q) true := by
      refine Ev.step (fun k => by rw [flagstonelaw09_ContentSizes.j2]) ?_
      rcases cut_cases l q i n with ⟨_, e2⟩ | ⟨hc, hn, e⟩
      · exact Ev.neg e2 (Ev.now _)
      · rw [e] at hC ⊢
        rw [if_pos hc, (fileCode_file hc).2.2.2]
        have hsz : (cutTo (rd_T59 l i).f6 n.toNat).size ≤ 2000 := by
          have e6 := (hC.rd i).1
          dsimp only at e6
          rw [(file_set hc _).2] at e6
          exact e6
        obtain ⟨t1, t2, t3⟩ := tests (cutTo (rd_T59 l i).f6 n.toNat) hc hC hsz
        have en : ((cutTo (rd_T59 l i).f6 n.toNat).size : Int) = n := by rw [cutTo_size]; omega
        rw [en] at t1 t2
        exact Ev.pos rfl (Ev.bind (Ev.is t1) (Ev.pos rfl (Ev.pos rfl (Ev.bind (hC.its m q) (Ev.bind (bytes_ev hC m q) (Ev.bind (hS.its m q) (Ev.bind (bytes_ev hS m q) (Ev.pos t2 (Ev.bind t3 (Ev.pos rfl (Ev.now _)))))))))))
    refine Ev.bind (hS.its m q) (Ev.bind (Ev.is ((ref_size l m q i).trans (size_is l m q i))) (Ev.bind (Ev.is (write_is hS m q i a s hs)) (Ev.bind (Ev.is (cut_is hS m q i n)) ?_)))
    rcases write_cases l q i a s with ⟨e1, e2⟩ | ⟨hc, ha, ha2, hs0, _, e⟩
    · rcases e2 with e2 | ⟨hc, ha, h0⟩
      · exact Ev.neg e2 second
      · have e : writeOf l q i a s = (l, 0) := by
          unfold writeOf
          rw [if_neg (fun h => h hc), if_neg (by omega), if_pos h0]
        rw [e]
        obtain ⟨g0, g1, g2, g3⟩ := fileCode_file hc
        have t1 : content_Size.f l m q i = some (((rd_T59 l i).f6.size : Int), 0) := by rw [size_is, if_pos hc, g3, hc]
        have t2 : totalOf l = wrap64 (wrap64 (totalOf l + ((rd_T59 l i).f6.size : Int)) - ((rd_T59 l i).f6.size : Int)) := by
          unfold wrap64
          omega
        rw [if_pos hc, g3] at second ⊢
        refine Ev.pos rfl (Ev.pos ((bz_empty s).2 h0) (Ev.step (fun k => by rw [flagstonelaw09_ContentSizes.j1]) ?_))
        exact Ev.bind (Ev.is t1) (Ev.pos rfl (Ev.pos rfl (Ev.bind (hS.its m q) (Ev.bind (bytes_ev hS m q) (Ev.bind (hS.its m q) (Ev.bind (bytes_ev hS m q) (Ev.pos t2 (Ev.bind (others_ev hS m q m q i rfl (fun _ _ => rfl)) (Ev.pos rfl second)))))))))
    · rw [e] at hW ⊢
      obtain ⟨g0, g1, g2, g3⟩ := fileCode_file hc
      rw [if_pos hc, g3] at second ⊢
      obtain ⟨t1, t2, t3⟩ := tests (written (rd_T59 l i).f6 a.toNat (a.toNat + s.size) s) hc hW (by rw [written_size]; omega)
      have em : mx ((rd_T59 l i).f6.size : Int) (wrap64 (a + (s.size : Int))) = ((written (rd_T59 l i).f6 a.toNat (a.toNat + s.size) s).size : Int) := by
        rw [written_size, show wrap64 (a + (s.size : Int)) = a + (s.size : Int) by unfold wrap64; omega]
        unfold mx
        split <;> omega
      refine Ev.pos rfl (Ev.neg (fun h => hs0 ((bz_empty s).1 h)) (Ev.step (fun k => by rw [flagstonelaw09_ContentSizes.j1]) ?_))
      rw [em]
      exact Ev.bind (Ev.is t1) (Ev.pos rfl (Ev.pos rfl (Ev.bind (hW.its m q) (Ev.bind (bytes_ev hW m q) (Ev.bind (hS.its m q) (Ev.bind (bytes_ev hS m q) (Ev.pos t2 (Ev.bind t3 (Ev.pos rfl second)))))))))
end Go.Proofs.Ytpeelfambaedkaa.P
