/- The plain law of ContentBack: it answers true; no program in sight. -/
import Derived.Test.YtpeelfambaedkaaQf
import Derived.Test.YtpeelfambaedkaaQes
import Derived.Test.YtpeelfambaedkaaQs
import Derived.Test.YtpeelfambaedkaaPlaw09ContentBack
namespace Go.Proofs.Ytpeelfambaedkaa.P
open Go.RowKit Go.Proofs.YtpeelfambaedkaaW.PrintWords Go.Proofs.YtpeelfambaedkaaW.PrintLast Go.Proofs.YtpeelfambaedkaaW.PrintMore

theorem read_file {l : List S59} {i a n : Int} (c : fileCode l i = 0) (ha : 0 ≤ a) (hn : 0 ≤ n) : readOf l i a n = (⟨(((rd_T59 l i).f6.data.toList.drop a.toNat).take n.toNat).toArray⟩, 0) := by
  unfold readOf
  rw [if_neg (fun h => h c), if_neg (by omega)]
/-- the last test: what was read ahead of it is the front of what is read now -/
theorem front_ok (x y : ByteArray) (r : List UInt8) (h : y.data.toList = x.data.toList ++ r) : (y.size : Int) ≥ (x.size : Int) ∧ ((y.extract 0 ((x.size : Int) : Int).toNat).toList == x.toList) = true := by
  have hl := congrArg List.length h
  rw [List.length_append, bz_len, bz_len] at hl
  refine ⟨by omega, ?_⟩
  rw [ByteArray.toList_eq, ByteArray.toList_eq, bz_cut, Int.toNat_natCast, h, List.drop_zero, List.take_left' (bz_len x)]
  exact beq_self_eq_true _
theorem back_law (l : List S59) (m q i a : Int) (s : ByteArray) (u : Int) (hu : 0 ≤ u ∧ u ≤ 255) (v : Int) (hv : 0 ≤ v ∧ v ≤ 255) : Ev (fun k => flagstonelaw09_ContentBack.f k l m q i a s u v) true := by
  have out : Ev (fun k => flagstonelaw09_ContentBack.j0 k i a s u v true l m q) true :=
    Ev.step (fun k => by rw [flagstonelaw09_ContentBack.j0]) (Ev.pos rfl (Ev.bind (Ev.is shown_ok) (Ev.now _)))
  obtain ⟨b, h1, h2⟩ := small_ev l m q
  refine Ev.congr (fun k => by rw [flagstonelaw09_ContentBack.f]) (Ev.bind h1 ?_)
  cases b with
  | false => exact Ev.neg (by decide) out
  | true =>
    have hS : Small l := Small.of (h2 rfl).1 (h2 rfl).2
    refine Ev.pos rfl ?_
    by_cases c : (s.size : Int) > 300
    · exact Ev.pos c out
    refine Ev.neg c (Ev.bind (Ev.is shown_ok) (Ev.step (fun k => by rw [flagstonelaw09_ContentBack.j0]) (Ev.neg (by decide) ?_)))
    have hs : s.size ≤ 400 := by omega
    have wu : wrap64 u = u := by unfold wrap64; omega
    have wv : wrap64 v = v := by unfold wrap64; omega
    have wuv : wrap64 (u + v) = u + v := by unfold wrap64; omega
    rw [wu, wv]
    -- what is told of the reads, once it was written
    have told : fileCode l i = 0 → 0 ≤ a → ∀ (l' : List S59) (d' : ByteArray), writeOf l q i a s = (l', 0) → fileCode l' i = 0 → (rd_T59 l' i).f6 = d' →
        (d'.data.toList.drop a.toNat).take s.size = s.data.toList →
        ((s.size = 0 ∨ u + v ≤ a) → ∃ r, (d'.data.toList.drop u.toNat).take v.toNat = ((rd_T59 l i).f6.data.toList.drop u.toNat).take v.toNat ++ r) →
        (s.size ≠ 0 → 0 ≤ a → a ≤ 1000 ∧ (a + (s.size : Int) ≤ u → (d'.data.toList.drop u.toNat).take v.toNat = ((rd_T59 l i).f6.data.toList.drop u.toNat).take v.toNat)) →
        Ev (fun k => (content_Write.f l m q i a s).bind fun bt476 => (if bt476.2.2.2 = 0 then ((content_Read.f bt476.1 bt476.2.1 bt476.2.2.1 i a (s.size : Int)).bind fun bt494 => ((content_Read.f l m q i u v).bind fun bt496 => ((content_Read.f bt476.1 bt476.2.1 bt476.2.2.1 i u v).bind fun bt498 => (if bt494.2 = 0 then (if bt494.1.toList = s.toList then (if bt496.2 = 0 then (flagstonelaw09_ContentBack.j1 k a s u v bt496.1 bt498.1 (bt498.2 != 0)) else (flagstonelaw09_ContentBack.j1 k a s u v bt496.1 bt498.1 true)) else (flagstonelaw09_ContentBack.j1 k a s u v bt496.1 bt498.1 true)) else (flagstonelaw09_ContentBack.j1 k a s u v bt496.1 bt498.1 true))))) else ((flagstonelaw09_its.f k bt476.1 bt476.2.1 bt476.2.2.1).bind fun bt483 => ((flagstonelaw09_its.f k l m q).bind fun bt488 => ((flagstoneref06_Same.f k bt483.1 bt483.2.1 bt483.2.2 bt488.1 bt488.2.1 bt488.2.2).bind fun t493 => (some t493)))))) true := by
      intro hc ha l' d' hw hc' hd' t1 t2 t3
      have ew := write_is hS m q i a s hs
      rw [hw] at ew
      have r1 := read_is l' m q i a (s.size : Int)
      have r2 := read_is l m q i u v
      have r3 := read_is l' m q i u v
      rw [read_file hc' ha (by omega), hd', Int.toNat_natCast, t1] at r1
      rw [read_file hc hu.1 hv.1] at r2
      rw [read_file hc' hu.1 hv.1, hd'] at r3
      refine Ev.bind (Ev.is ew) (Ev.pos rfl (Ev.bind (Ev.is r1) (Ev.bind (Ev.is r2) (Ev.bind (Ev.is r3) (Ev.pos rfl (Ev.pos (show (⟨s.data.toList.toArray⟩ : ByteArray).toList = s.toList from congrArg ByteArray.toList (bz_ext rfl)) (Ev.pos rfl ?_)))))))
      refine Ev.step (fun k => by rw [flagstonelaw09_ContentBack.j1]) (Ev.neg (show ¬ ((0 : Int) != 0) = true by decide) ?_)
      by_cases c0 : s.size = 0
      · obtain ⟨r, hr⟩ := t2 (.inl c0)
        obtain ⟨f1, f2⟩ := front_ok ⟨((((rd_T59 l i).f6.data.toList.drop u.toNat).take v.toNat)).toArray⟩ ⟨((d'.data.toList.drop u.toNat).take v.toNat).toArray⟩ r hr
        exact Ev.pos ((bz_empty s).2 c0) (Ev.pos f1 (Ev.pos (by omega) (Ev.pos f1 (Ev.is (by rw [f2])))))
      · refine Ev.neg (fun h => c0 ((bz_empty s).1 h)) ?_
        rw [wu, wv, wuv]
        by_cases c1 : u + v ≤ a
        · obtain ⟨r, hr⟩ := t2 (.inr c1)
          obtain ⟨f1, f2⟩ := front_ok ⟨((((rd_T59 l i).f6.data.toList.drop u.toNat).take v.toNat)).toArray⟩ ⟨((d'.data.toList.drop u.toNat).take v.toNat).toArray⟩ r hr
          exact Ev.pos c1 (Ev.pos f1 (Ev.pos (by omega) (Ev.pos f1 (Ev.is (by rw [f2])))))
        · refine Ev.neg c1 ?_
          obtain ⟨g1, g2⟩ := t3 c0 ha
          have wa : wrap64 (a + (s.size : Int)) = a + (s.size : Int) := by unfold wrap64; omega
          rw [wa]
          by_cases c2 : u < a + (s.size : Int)
          · exact Ev.pos c2 (Ev.now _)
          · refine Ev.neg c2 (Ev.is ?_)
            rw [g2 (by omega), beq_self_eq_true]
    rcases write_cases l q i a s with ⟨e1, e2⟩ | ⟨hc, ha, ha2, hs0, _, e⟩
    · rcases e2 with e2 | ⟨hc, ha, h0⟩
      · have ew := write_is hS m q i a s hs
        rw [e1] at ew
        exact Ev.bind (Ev.is ew) (Ev.neg e2 (Ev.bind (hS.its m q) (Ev.bind (hS.its m q) (Ev.bind (same_ev hS m q) (Ev.now _)))))
      · refine told hc ha l (rd_T59 l i).f6 ?_ hc rfl ?_ (fun _ => ⟨[], by rw [List.append_nil]⟩) (fun h => absurd h0 h)
        · unfold writeOf
          rw [if_neg (fun h => h hc), if_neg (by omega), if_pos h0]
        · have e : s.data.toList = [] := List.length_eq_zero_iff.1 (by rw [bz_len]; exact h0)
          rw [h0, e, List.take_zero]
    · obtain ⟨f1, f2⟩ := file_set hc (written (rd_T59 l i).f6 a.toNat (a.toNat + s.size) s)
      refine told hc ha _ (written (rd_T59 l i).f6 a.toNat (a.toNat + s.size) s) e f1 (by rw [f2]) (wr_mid _ _ _) (fun h => ?_) (fun _ _ => ⟨ha2, fun h => ?_⟩)
      · rcases h with h | h
        · exact absurd h hs0
        · exact wr_ahead _ _ _ _ _ (by omega)
      · rw [wr_drop _ _ _ _ (by omega)]
end Go.Proofs.Ytpeelfambaedkaa.P
