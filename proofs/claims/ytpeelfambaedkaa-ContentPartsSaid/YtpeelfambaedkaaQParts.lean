/- The plain law of ContentParts: it answers true; no program in sight. -/
import Derived.Test.YtpeelfambaedkaaQf
import Derived.Test.YtpeelfambaedkaaQes
import Derived.Test.YtpeelfambaedkaaQs
import Derived.Test.YtpeelfambaedkaaPlaw09ContentParts
namespace Go.Proofs.Ytpeelfambaedkaa.P
open Go.RowKit Go.Proofs.YtpeelfambaedkaaW.PrintWords Go.Proofs.YtpeelfambaedkaaW.PrintLast Go.Proofs.YtpeelfambaedkaaW.PrintMore

/-- what is read in two parts -/
theorem read_parts (l : List S59) (i a k n : Int) (ha : 0 ≤ a) (hk : 0 ≤ k) (hn : 0 ≤ n) :
    (readOf l i a (k + n)).2 = (readOf l i a k).2 ∧ (readOf l i a k).2 = (readOf l i (a + k) n).2 ∧ (readOf l i a (k + n)).1 = (readOf l i a k).1 ++ (readOf l i (a + k) n).1 ∧ ((readOf l i a k).1.size : Int) ≤ k ∧ ((readOf l i (a + k) n).1.size : Int) ≤ n := by
  unfold readOf
  by_cases c : fileCode l i ≠ 0
  · rw [if_pos c, if_pos c, if_pos c]
    exact ⟨rfl, rfl, rfl, hk, hn⟩
  · rw [if_neg c, if_neg c, if_neg c, if_neg (show ¬ (a < 0 ∨ k + n < 0) by omega), if_neg (show ¬ (a < 0 ∨ k < 0) by omega), if_neg (show ¬ (a + k < 0 ∨ n < 0) by omega)]
    refine ⟨rfl, rfl, ?_, ?_, ?_⟩
    · apply bz_ext
      rw [bz_cat]
      show List.take _ _ = List.take _ _ ++ List.take _ _
      rw [show (k + n).toNat = k.toNat + n.toNat by omega, List.take_add, List.drop_drop, show (a + k).toNat = a.toNat + k.toNat by omega]
    · rw [← bz_len]
      show ((List.take _ _).length : Int) ≤ k
      rw [List.length_take]
      omega
    · rw [← bz_len]
      show ((List.take _ _).length : Int) ≤ n
      rw [List.length_take]
      omega
/-- two writes one behind the other, if both at once go -/
theorem write_parts {l : List S59} (q i a : Int) (s t : ByteArray) (hs : s.size ≤ 200) (ha : 0 ≤ a ∧ a ≤ 255) (h : (writeOf l q i a (s ++ t)).2 = 0) :
    writeOf (writeOf l q i a s).1 q i (a + (s.size : Int)) t = ((writeOf l q i a (s ++ t)).1, 0) := by
  have hst : (s ++ t).size = s.size + t.size := ByteArray.size_append
  rcases write_cases l q i a (s ++ t) with ⟨e1, e2⟩ | ⟨hc, _, _, h0, hf, e⟩
  · rcases e2 with e2 | ⟨hc, _, h0⟩
    · exact absurd h e2
    · rw [hst] at h0
      have es : (writeOf l q i a s).1 = l := by
        unfold writeOf
        rw [if_neg (fun h => h hc), if_neg (by omega), if_pos (by omega)]
      rw [e1, es]
      unfold writeOf
      rw [if_neg (fun h => h hc), if_neg (by omega), if_pos (by omega)]
  · rw [e]
    by_cases s0 : s.size = 0
    · have es : (writeOf l q i a s).1 = l := by
        unfold writeOf
        rw [if_neg (fun h => h hc), if_neg (by omega), if_pos s0]
      rw [es, nil_wr s t s0] at *
      rw [s0, show a + ((0 : Nat) : Int) = a by omega]
      exact e
    · have hf1 : ¬ full (rd_T59 l i).f6 (totalOf l) q (a.toNat + s.size) := fun f => hf ⟨by have := f.1; omega, by have := f.2; omega⟩
      have es : (writeOf l q i a s).1 = l.set i.toNat { rd_T59 l i with f6 := written (rd_T59 l i).f6 a.toNat (a.toNat + s.size) s } := by
        unfold writeOf
        rw [if_neg (fun h => h hc), if_neg (by omega), if_neg s0, if_neg (by omega), if_neg hf1]
      obtain ⟨f1, f2⟩ := file_set hc (written (rd_T59 l i).f6 a.toNat (a.toNat + s.size) s)
      have ft := total_set hc (written (rd_T59 l i).f6 a.toNat (a.toNat + s.size) s)
      have hsz := written_size (rd_T59 l i).f6 a.toNat s
      rw [es]
      by_cases t0 : t.size = 0
      · unfold writeOf
        rw [if_neg (fun h => h f1), if_neg (by omega), if_pos t0, wr_nil s t t0]
      · have en : (a + (s.size : Int)).toNat = a.toNat + s.size := by omega
        unfold writeOf
        rw [if_neg (fun h => h f1), if_neg (by omega), if_neg t0, if_neg (by omega), en, f2, ft]
        have hf2 : ¬ full (written (rd_T59 l i).f6 a.toNat (a.toNat + s.size) s) (totalOf l - ((rd_T59 l i).f6.size : Int) + ((written (rd_T59 l i).f6 a.toNat (a.toNat + s.size) s).size : Int)) q (a.toNat + s.size + t.size) := by
          intro f
          have g1 := f.1
          have g2 := f.2
          rw [hsz] at g1 g2
          exact hf ⟨by omega, by omega⟩
        rw [if_neg hf2, List.set_set]
        dsimp only
        rw [wr_two]
theorem parts_law (l : List S59) (m q i a : Int) (ha : 0 ≤ a ∧ a ≤ 255) (k : Int) (hk : 0 ≤ k ∧ k ≤ 255) (n : Int) (hn : 0 ≤ n ∧ n ≤ 255) (s t : ByteArray) : Ev (fun r => flagstonelaw09_ContentParts.f r l m q i a k n s t) true := by
  have out : Ev (fun r => flagstonelaw09_ContentParts.j0 r i a k n s t true l m q) true :=
    Ev.step (fun r => by rw [flagstonelaw09_ContentParts.j0]) (Ev.pos rfl (Ev.bind (Ev.is shown_ok) (Ev.now _)))
  obtain ⟨b, h1, h2⟩ := small_ev l m q
  refine Ev.congr (fun r => by rw [flagstonelaw09_ContentParts.f]) (Ev.bind h1 ?_)
  cases b with
  | false => exact Ev.neg (by decide) out
  | true =>
    have hS : Small l := Small.of (h2 rfl).1 (h2 rfl).2
    refine Ev.pos rfl ?_
    by_cases c1 : (s.size : Int) > 200
    · exact Ev.pos c1 out
    refine Ev.neg c1 ?_
    by_cases c2 : (t.size : Int) > 200
    · exact Ev.pos c2 out
    refine Ev.neg c2 (Ev.bind (Ev.is shown_ok) (Ev.step (fun r => by rw [flagstonelaw09_ContentParts.j0]) (Ev.neg (by decide) ?_)))
    have hst : (s ++ t).size = s.size + t.size := ByteArray.size_append
    have wa : wrap64 a = a := by unfold wrap64; omega
    have wk : wrap64 k = k := by unfold wrap64; omega
    have wn : wrap64 n = n := by unfold wrap64; omega
    have wkn : wrap64 (k + n) = k + n := by unfold wrap64; omega
    have wak : wrap64 (a + k) = a + k := by unfold wrap64; omega
    have was : wrap64 (a + (s.size : Int)) = a + (s.size : Int) := by unfold wrap64; omega
    rw [wa, wk, wn, wkn, wak]
    obtain ⟨p1, p2, p3, p4, p5⟩ := read_parts l i a k n ha.1 hk.1 hn.1
    refine Ev.bind (Ev.is (read_is l m q i a (k + n))) (Ev.bind (Ev.is (read_is l m q i a k)) (Ev.bind (Ev.is (read_is l m q i (a + k) n)) (Ev.pos p1 (Ev.pos p2 (Ev.pos (by omega) ?_)))))
    rw [p3]
    refine Ev.step (fun r => by rw [flagstonelaw09_ContentParts.j1]) (Ev.neg (by simp) (Ev.pos (by omega) ?_))
    have hB := write_small hS q i a s (by omega)
    rw [was]
    refine Ev.bind (Ev.is (write_is hS m q i a (s ++ t) (by omega))) (Ev.bind (Ev.is (write_is hS m q i a s (by omega))) (Ev.bind (Ev.is (write_is hB m q i (a + (s.size : Int)) t (by omega))) ?_))
    by_cases h : (writeOf l q i a (s ++ t)).2 = 0
    · have hA := write_small hS q i a (s ++ t) (by omega)
      rw [write_parts q i a s t (by omega) ha h]
      exact Ev.pos h (Ev.pos rfl (Ev.bind (hA.its m q) (Ev.bind (hA.its m q) (Ev.bind (same_ev hA m q) (Ev.now _)))))
    · exact Ev.neg h (Ev.now _)
end Go.Proofs.Ytpeelfambaedkaa.P
