/- The contracts of content.Write and content.Cut at a file, over what came in. -/
import Derived.Test.YtpeelfambaedkaaHm
namespace Go.Proofs.Ytpeelfambaedkaa.P
open Go.RowKit Go.Proofs.YtpeelfambaedkaaW.PrintWords Go.Proofs.YtpeelfambaedkaaW.PrintLast Go.Proofs.YtpeelfambaedkaaW.PrintMore

-- BY mkPn.py
/-- the bytes, and as many bytes 0 as are wanting -/
def padTo (d : ByteArray) (n : Nat) : List UInt8 := if d.size < n then d.data.toList ++ List.replicate (n - d.size) 0 else d.data.toList
def written (d : ByteArray) (k n : Nat) (s : ByteArray) : ByteArray := ⟨((padTo d n).take k ++ (s.data.toList ++ (padTo d n).drop n)).toArray⟩
def cutTo (d : ByteArray) (n : Nat) : ByteArray := ⟨((padTo d n).take n).toArray⟩
def full (d : ByteArray) (S q : Int) (n : Nat) : Prop := d.size < n ∧ q < S - (d.size : Int) + (n : Int)
instance (d : ByteArray) (S q : Int) (n : Nat) : Decidable (full d S q n) := inferInstanceAs (Decidable (_ ∧ _))
def codeOf (d : ByteArray) (S q : Int) (n : Nat) : Int := if full d S q n then 10 else 0
theorem Outcome_V {P0 : Nat → Prop} {ad : Addr} {c0 : Nat} {l0 : List S59} {w w' : World} (hs0 : Kd.V k59 59 w w.heap.size P0 (.slice (some ad) l0.length c0) l0) (i : Nat) (hi : i < l0.length) {A7 : Option Addr} {c7 : Nat} (nd : ByteArray) {cs : List Value} (h7 : (rd_T59 l0 (i : Int)).f7.length ≤ c7) (hF : Kd.F k76 w P0 A7 (rd_T59 l0 (i : Int)).f7.length (rd_T59 l0 (i : Int)).f7)
    (hl : cs.length = l0.length * 8) (hc : ∀ j u, cs[j]? = some u → w.cell? (ad.add j) = some u) {code : Int} {A' : Option Addr} {c' : Nat} (ho : Outcome w.heap.size l0.length (cs.take (i * 8) ++ ([.int .i64 (rd_T59 l0 (i : Int)).f0, .int .i64 (rd_T59 l0 (i : Int)).f1, .int .i64 (rd_T59 l0 (i : Int)).f2, .int .i64 (rd_T59 l0 (i : Int)).f3, .int .i64 (rd_T59 l0 (i : Int)).f4, .int .i64 (rd_T59 l0 (i : Int)).f5, .string nd, .slice A7 (rd_T59 l0 (i : Int)).f7.length c7] ++ cs.drop (i * 8 + 8))) ad c0 code A' c' w') (hb : Below w.heap.size w w') :
    Kd.V k59 59 w' w.heap.size (fun k_ => P0 k_ ∨ w.heap.size ≤ k_) (.slice A' l0.length c') (if code = 10 then l0 else l0.set i { (rd_T59 l0 (i : Int)) with f6 := nd }) := by
  rcases ho with ⟨rfl, rfl, rfl⟩ | ⟨rfl, g, cur, rfl, hg, hcap, hcur, htk⟩
  · exact Kd.V_mono (Kd.V_below hs0 hb) (fun _ hk => .inl hk)
  · exact V_node_set (okn := P0) (x := { (rd_T59 l0 (i : Int)) with f6 := nd }) i hi hs0 (fun k hk _ => .inl hk) (.inr hg) h7 (Kd.F_mono (Kd.F_below hF hb) (fun _ hk => .inl hk)) hl (fun _ => ⟨ad, rfl, hc⟩) (fun k _ hk => hb.block k hk) hcur htk hcap
theorem Write_low (ad : Addr) (c0 : Nat) (l0 : List S59) (m q : Int) (i : Nat) (A7 : Option Addr) (c7 : Nat) (cs : List Value) (w : World) (hr : Kd.C k59 w (some ad) l0.length l0) (hi : i < l0.length) (h0 : (rd_T59 l0 (i : Int)).f0 = 1) (h7 : w.cell? ⟨(ad.add (i * 8)).block, (ad.add (i * 8)).off + 7, none⟩ = some (.slice A7 (rd_T59 l0 (i : Int)).f7.length c7))
    (hn : l0.length ≤ 1000) (hl : cs.length = l0.length * 8) (hc : ∀ j u, cs[j]? = some u → w.cell? (ad.add j) = some u) (h1 : ∀ u ∈ cs, u.oneCell' = true) (was n : Nat) (hwas : (rd_T59 l0 (i : Int)).f6.size = was) (S : Int) (hS : bytesSum l0 0 = S) (hS0 : 0 ≤ S) (hS1 : S ≤ 1000000) (hw1 : was ≤ 5000) (hn1 : n ≤ 5000) (s : ByteArray) (k : Nat) (hs : s.toList ≠ ([] : List UInt8)) (hs0 : 0 < s.size) (hk : k ≤ 1000) (hsz : s.size ≤ 3000) (hkn : k + s.size = n) :
    Calls Try.prog 16 #[.agg #[.slice (some ad) l0.length c0, .int .i64 m, .int .i64 q], .int .i64 i, .int .i64 k, .string s] w fun e w' => ∃ (A' : Option Addr) (c' : Nat), e = .returned (.tuple #[.agg #[.slice A' l0.length c', .int .i64 m, .int .i64 q], .int .i64 (codeOf (rd_T59 l0 (i : Int)).f6 S q n)]) ∧ Outcome w.heap.size l0.length (cs.take (i * 8) ++ ([.int .i64 (rd_T59 l0 (i : Int)).f0, .int .i64 (rd_T59 l0 (i : Int)).f1, .int .i64 (rd_T59 l0 (i : Int)).f2, .int .i64 (rd_T59 l0 (i : Int)).f3, .int .i64 (rd_T59 l0 (i : Int)).f4, .int .i64 (rd_T59 l0 (i : Int)).f5, .string (written (rd_T59 l0 (i : Int)).f6 k n s), .slice A7 (rd_T59 l0 (i : Int)).f7.length c7] ++ cs.drop (i * 8 + 8))) ad c0 (codeOf (rd_T59 l0 (i : Int)).f6 S q n) A' c' w' ∧ Below w.heap.size w w' := by
  by_cases hlt : was < n
  · have hpad : padTo (rd_T59 l0 (i : Int)).f6 n = (rd_T59 l0 (i : Int)).f6.data.toList ++ List.replicate (n - was) 0 := by rw [padTo, hwas, if_pos hlt]
    by_cases hroom : q < S - (was : Int) + (n : Int)
    · rw [show codeOf (rd_T59 l0 (i : Int)).f6 S q n = 10 by rw [codeOf, if_pos (by unfold full; rw [hwas]; exact ⟨hlt, hroom⟩)]]
      refine Write_go ad c0 l0 m q i A7 c7 w hr hi h0 h7 k n s hs hk (by omega) hkn 10 _ (fun W hB hW ca cp => (turned_full (.func (.func 28) #[] #[.pointer (some ⟨w.heap.size + 1, 0, none⟩), .pointer (some ⟨w.heap.size + 1 + 1, 0, none⟩)]) ad c0 l0 m q i A7 c7 cs W (Kd.C_below hr hB) hi h0 (pw_cell_below hB h7) hn hl (fun j u hj => pw_cell_below hB (hc j u hj)) h1 was n hwas S hS hS0 hS1 hw1 hn1 hlt hroom).mono ?_)
      rintro e w' ⟨rfl, hb⟩
      exact ⟨some ad, c0, rfl, .inl ⟨rfl, rfl, rfl⟩, hb⟩
    · rw [show codeOf (rd_T59 l0 (i : Int)).f6 S q n = 0 by rw [codeOf, if_neg (by unfold full; rw [hwas]; exact fun h => hroom h.2)]]
      refine Write_go ad c0 l0 m q i A7 c7 w hr hi h0 h7 k n s hs hk (by omega) hkn 0 _ (fun W hB hW ca cp => (turned28_grown s k (w.heap.size + 1) (w.heap.size + 1 + 1) ad c0 l0 m q i A7 c7 cs W (Kd.C_below hr hB) hi h0 (pw_cell_below hB h7) hn hl (fun j u hj => pw_cell_below hB (hc j u hj)) h1 was n hwas S hS hS0 hS1 hw1 hn1 hs0 hkn ca cp hlt (by omega) (written (rd_T59 l0 (i : Int)).f6 k n s) (by simp only [written, hpad])).mono ?_)
      rintro e w' ⟨g, cap, cur, rfl, hg, hcap, hcur, htk, hb⟩
      exact ⟨some ⟨g, 0, none⟩, cap, rfl, .inr ⟨rfl, g, cur, rfl, Nat.le_trans hW hg, hcap, hcur, htk⟩, hb⟩
  · have hpad : padTo (rd_T59 l0 (i : Int)).f6 n = (rd_T59 l0 (i : Int)).f6.data.toList := by rw [padTo, hwas, if_neg hlt]
    rw [show codeOf (rd_T59 l0 (i : Int)).f6 S q n = 0 by rw [codeOf, if_neg (by unfold full; rw [hwas]; exact fun h => hlt h.1)]]
    refine Write_go ad c0 l0 m q i A7 c7 w hr hi h0 h7 k n s hs hk (by omega) hkn 0 _ (fun W hB hW ca cp => (turned28_kept s k (w.heap.size + 1) (w.heap.size + 1 + 1) ad c0 l0 m q i A7 c7 cs W (Kd.C_below hr hB) hi h0 (pw_cell_below hB h7) hn hl (fun j u hj => pw_cell_below hB (hc j u hj)) h1 was n hwas S hS hS0 hS1 hw1 hn1 hs0 hkn ca cp (by omega) (written (rd_T59 l0 (i : Int)).f6 k n s) (by simp only [written, hpad])).mono ?_)
    rintro e w' ⟨g, cap, cur, rfl, hg, hcap, hcur, htk, hb⟩
    exact ⟨some ⟨g, 0, none⟩, cap, rfl, .inr ⟨rfl, g, cur, rfl, Nat.le_trans hW hg, hcap, hcur, htk⟩, hb⟩
theorem Cut_low (ad : Addr) (c0 : Nat) (l0 : List S59) (m q : Int) (i : Nat) (A7 : Option Addr) (c7 : Nat) (cs : List Value) (w : World) (hr : Kd.C k59 w (some ad) l0.length l0) (hi : i < l0.length) (h0 : (rd_T59 l0 (i : Int)).f0 = 1) (h7 : w.cell? ⟨(ad.add (i * 8)).block, (ad.add (i * 8)).off + 7, none⟩ = some (.slice A7 (rd_T59 l0 (i : Int)).f7.length c7))
    (hn : l0.length ≤ 1000) (hl : cs.length = l0.length * 8) (hc : ∀ j u, cs[j]? = some u → w.cell? (ad.add j) = some u) (h1 : ∀ u ∈ cs, u.oneCell' = true) (was n : Nat) (hwas : (rd_T59 l0 (i : Int)).f6.size = was) (S : Int) (hS : bytesSum l0 0 = S) (hS0 : 0 ≤ S) (hS1 : S ≤ 1000000) (hw1 : was ≤ 5000) (hn1 : n ≤ 5000) (c1 : l0.length ≤ c0) (hf : content_Size.f l0 m q (i : Int) = some ((was : Int), 0)) (hk : ¬ ((was : Int) < (n : Int) ∧ 1000 < (n : Int))) :
    Calls Try.prog 18 #[.agg #[.slice (some ad) l0.length c0, .int .i64 m, .int .i64 q], .int .i64 i, .int .i64 n] w fun e w' => ∃ (A' : Option Addr) (c' : Nat), e = .returned (.tuple #[.agg #[.slice A' l0.length c', .int .i64 m, .int .i64 q], .int .i64 (codeOf (rd_T59 l0 (i : Int)).f6 S q n)]) ∧ Outcome w.heap.size l0.length (cs.take (i * 8) ++ ([.int .i64 (rd_T59 l0 (i : Int)).f0, .int .i64 (rd_T59 l0 (i : Int)).f1, .int .i64 (rd_T59 l0 (i : Int)).f2, .int .i64 (rd_T59 l0 (i : Int)).f3, .int .i64 (rd_T59 l0 (i : Int)).f4, .int .i64 (rd_T59 l0 (i : Int)).f5, .string (cutTo (rd_T59 l0 (i : Int)).f6 n), .slice A7 (rd_T59 l0 (i : Int)).f7.length c7] ++ cs.drop (i * 8 + 8))) ad c0 (codeOf (rd_T59 l0 (i : Int)).f6 S q n) A' c' w' ∧ Below w.heap.size w w' := by
  by_cases hlt : was < n
  · have hpad : padTo (rd_T59 l0 (i : Int)).f6 n = (rd_T59 l0 (i : Int)).f6.data.toList ++ List.replicate (n - was) 0 := by rw [padTo, hwas, if_pos hlt]
    by_cases hroom : q < S - (was : Int) + (n : Int)
    · rw [show codeOf (rd_T59 l0 (i : Int)).f6 S q n = 10 by rw [codeOf, if_pos (by unfold full; rw [hwas]; exact ⟨hlt, hroom⟩)]]
      refine Cut_go2 ad c0 l0 m q i w hr c1 (was : Int) hf n hk (by omega) 10 _ (fun W hB hW ca => (turned_full (.func (.func 31) #[] #[.pointer (some ⟨w.heap.size + 1, 0, none⟩)]) ad c0 l0 m q i A7 c7 cs W (Kd.C_below hr hB) hi h0 (pw_cell_below hB h7) hn hl (fun j u hj => pw_cell_below hB (hc j u hj)) h1 was n hwas S hS hS0 hS1 hw1 hn1 hlt hroom).mono ?_)
      rintro e w' ⟨rfl, hb⟩
      exact ⟨some ad, c0, rfl, .inl ⟨rfl, rfl, rfl⟩, hb⟩
    · rw [show codeOf (rd_T59 l0 (i : Int)).f6 S q n = 0 by rw [codeOf, if_neg (by unfold full; rw [hwas]; exact fun h => hroom h.2)]]
      refine Cut_go2 ad c0 l0 m q i w hr c1 (was : Int) hf n hk (by omega) 0 _ (fun W hB hW ca => (turned31_grown (w.heap.size + 1) ad c0 l0 m q i A7 c7 cs W (Kd.C_below hr hB) hi h0 (pw_cell_below hB h7) hn hl (fun j u hj => pw_cell_below hB (hc j u hj)) h1 was n hwas S hS hS0 hS1 hw1 hn1 ca hlt (by omega) (cutTo (rd_T59 l0 (i : Int)).f6 n) (by simp only [cutTo, hpad])).mono ?_)
      rintro e w' ⟨g, cap, cur, rfl, hg, hcap, hcur, htk, hb⟩
      exact ⟨some ⟨g, 0, none⟩, cap, rfl, .inr ⟨rfl, g, cur, rfl, Nat.le_trans hW hg, hcap, hcur, htk⟩, hb⟩
  · have hpad : padTo (rd_T59 l0 (i : Int)).f6 n = (rd_T59 l0 (i : Int)).f6.data.toList := by rw [padTo, hwas, if_neg hlt]
    rw [show codeOf (rd_T59 l0 (i : Int)).f6 S q n = 0 by rw [codeOf, if_neg (by unfold full; rw [hwas]; exact fun h => hlt h.1)]]
    refine Cut_go1 ad c0 l0 m q i w hr c1 (was : Int) hf n hk (by omega) 0 _ (fun W hB hW ca => (turned31_kept (w.heap.size + 1) ad c0 l0 m q i A7 c7 cs W (Kd.C_below hr hB) hi h0 (pw_cell_below hB h7) hn hl (fun j u hj => pw_cell_below hB (hc j u hj)) h1 was n hwas S hS hS0 hS1 hw1 hn1 ca (by omega) (cutTo (rd_T59 l0 (i : Int)).f6 n) (by simp only [cutTo, hpad])).mono ?_)
    rintro e w' ⟨g, cap, cur, rfl, hg, hcap, hcur, htk, hb⟩
    exact ⟨some ⟨g, 0, none⟩, cap, rfl, .inr ⟨rfl, g, cur, rfl, Nat.le_trans hW hg, hcap, hcur, htk⟩, hb⟩
end Go.Proofs.Ytpeelfambaedkaa.P
