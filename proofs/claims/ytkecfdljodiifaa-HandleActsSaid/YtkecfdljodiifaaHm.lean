/- Plain laws, by hand: a list of rows of which one is another one; a list whose block has room for more; no condition but what is named. -/
import Derived.Test.YtkecfdljodiifaaHl
namespace Go.Proofs.Ytkecfdljodiifaa.P
open Go.RowKit Go.Proofs.YtkecfdljodiifaaW.PrintWords Go.Proofs.YtkecfdljodiifaaW.PrintLast Go.Proofs.YtkecfdljodiifaaW.PrintMore

/-- What came in reads as it read, and its cells are the same, in every world that holds its blocks. -/
theorem V_reps {α : Type} (d : Kd α) {e base : Nat} {w W : World} {ok : Nat → Prop} {A : Option Addr} {c : Nat} {xs : List α} {cs : List Value} (h : Kd.V d e w base ok (.slice A xs.length c) xs)
    (hlen : cs.length = xs.length * d.sz) (hsrc : 0 < xs.length → ∃ ad, A = some ad ∧ ∀ j u, cs[j]? = some u → w.cell? (ad.add j) = some u) (hold : ∀ k, ok k → k < w.heap.size → W.heap[k]? = w.heap[k]?) : Reps (d.K W) d.sz xs cs := by
  have hF := Kd.V_F h
  have hC : d.C W A xs.length xs := hF W hold
  obtain ⟨cs2, l2, r2, _, s2⟩ := C_cells d hC
  have e : cs2 = cs := by
    rcases Nat.eq_zero_or_pos xs.length with h0 | h0
    · rw [h0] at l2 hlen
      rw [List.eq_nil_of_length_eq_zero (by omega : cs2.length = 0), List.eq_nil_of_length_eq_zero (by omega : cs.length = 0)]
    · obtain ⟨ad, rfl, hs⟩ := hsrc h0
      obtain ⟨ad2, e2, hs2⟩ := s2 h0
      injection e2 with e2
      subst e2
      rcases Nat.eq_zero_or_pos d.sz with hz | hz
      · rw [hz] at l2 hlen
        rw [List.eq_nil_of_length_eq_zero (by omega : cs2.length = 0), List.eq_nil_of_length_eq_zero (by omega : cs.length = 0)]
      have hin : ok ad.block := Kd.F_in hF rfl h0 hz
      have hlt : ad.block < w.heap.size := Kd.C_lt (Kd.F_now hF) h0 hz
      have hb : W.heap[ad.block]? = w.heap[ad.block]? := hold _ hin hlt
      apply List.ext_getElem?
      intro j
      rcases Nat.lt_or_ge j cs.length with hj | hj
      · have a1 := hs j _ (List.getElem?_eq_getElem hj)
        have a2 := hs2 j _ (List.getElem?_eq_getElem (by omega : j < cs2.length))
        have a3 : W.cell? (ad.add j) = w.cell? (ad.add j) := World.cell?_of_block (by rw [add_block]; exact hb)
        rw [List.getElem?_eq_getElem hj, List.getElem?_eq_getElem (by omega : j < cs2.length), ← a1, ← a2, a3]
      · rw [List.getElem?_eq_none hj, List.getElem?_eq_none (by omega)]
  exact e ▸ r2
theorem Reps_set1 {α : Type} {K : α → List Value → Prop} {xs : List α} {cs : List Value} (h : Reps K 1 xs cs) (k : Nat) (x : α) (v : Value) (hK : K x [v]) : Reps K 1 (xs.set k x) (cs.set k v) := by
  refine ⟨by simpa using h.1, fun j p hj => ?_⟩
  have hl : cs.length = xs.length * 1 := h.1
  rw [List.getElem?_set] at hj
  by_cases e : k = j
  · subst e
    rw [if_pos rfl] at hj
    split at hj
    · next hlt =>
      injection hj with hj
      subst hj
      have hlt2 : k < (cs.set k v).length := by rw [List.length_set]; omega
      rw [Nat.mul_one, List.drop_eq_getElem_cons hlt2]
      simpa using hK
    · cases hj
  · rw [if_neg e] at hj
    have hjl := (List.getElem?_eq_some_iff.1 hj).1
    have h2 := h.2 j p hj
    rw [Nat.mul_one] at h2 ⊢
    rw [List.drop_eq_getElem_cons (by omega : j < cs.length)] at h2
    rw [List.drop_eq_getElem_cons (by rw [List.length_set]; omega : j < (cs.set k v).length)]
    simp only [List.take_succ_cons, List.take_zero] at h2 ⊢
    rw [List.getElem_set_ne e]
    exact h2
theorem ints_reps (w : World) (l : List Int) : Reps ((Kd.int .i64).K w) (Kd.int .i64).sz l (l.map (Value.int .i64)) := by
  refine ⟨by rw [List.length_map]; exact (Nat.mul_one _).symm, fun j p hj => ?_⟩
  have hjl := (List.getElem?_eq_some_iff.1 hj).1
  show ((l.map (Value.int .i64)).drop (j * 1)).take 1 = [.int .i64 p]
  rw [Nat.mul_one, List.drop_eq_getElem_cons (by simpa using hjl)]
  simp only [List.take_succ_cons, List.take_zero, List.getElem_map]
  rw [(List.getElem?_eq_some_iff.1 hj).2]

/-- A list of rows of the call's own, that holds what came in but for one row: that one lies in another block of the call's own. -/
theorem V_row_set {e base base' : Nat} {w w' : World} {ok ok' : Nat → Prop} {A : Option Addr} {c gf gr k : Nat} {t t2 : TypeId} {xs : List (List Int)} {cs : List Value} {row : List Int} (h : Kd.V (Kd.slice 3 (Kd.int .i64)) e w base ok (.slice A xs.length c) xs) (hok : ∀ k, ok k → k < w.heap.size → ok' k) (hokf : ok' gf) (hokr : ok' gr)
    (hlen : cs.length = xs.length * 1) (hsrc : 0 < xs.length → ∃ ad, A = some ad ∧ ∀ j u, cs[j]? = some u → w.cell? (ad.add j) = some u)
    (hold : ∀ k, ok k → k < w.heap.size → w'.heap[k]? = w.heap[k]?) (hm : row.length ≤ 1000000) (hg : w'.heap[gf]? = some (.cells (cs.set k (.slice (some ⟨gr, 0, none⟩) row.length row.length)).toArray t (0, 0))) (hr : w'.heap[gr]? = some (.cells (row.map (Value.int .i64)).toArray t2 (0, 0))) :
    Kd.V (Kd.slice 3 (Kd.int .i64)) e w' base' ok' (.slice (some ⟨gf, 0, none⟩) xs.length xs.length) (xs.set k row) := by
  have e1 : xs.length = (xs.set k row).length := by simp
  have hx := Kd.F_max (Kd.V_F h)
  rw [e1]
  refine Kd.V_mk (Nat.le_refl _) fun W hW => ?_
  have hreps := V_reps (Kd.slice 3 (Kd.int .i64)) (W := W) h hlen hsrc (fun k hk hlt => (hW k (hok k hk hlt) (heap_lt (hold k hk hlt) hlt)).trans (hold k hk hlt))
  have hrW : W.heap[gr]? = some (.cells (row.map (Value.int .i64)).toArray t2 (0, 0)) := (hW gr hokr (blk_lt hr)).trans hr
  refine C_of_block (Kd.slice 3 (Kd.int .i64)) (Reps_set1 hreps k row (.slice (some ⟨gr, 0, none⟩) row.length row.length) ?_) (by rw [← e1]; exact hx) ((hW gf hokf (blk_lt hg)).trans hg)
  exact ⟨some ⟨gr, 0, none⟩, row.length, rfl, Nat.le_refl _, C_of_block (Kd.int .i64) (ints_reps W row) (by omega) hrW⟩
/-- A list of descriptions of the call's own, whose block may have room for more. -/
theorem V_prefix {e base : Nat} {w : World} {ok : Nat → Prop} {g cap : Nat} {t : TypeId} {l : List S38} {cur : Array Value} (hokg : ok g) (hm : l.length ≤ 1000000) (hc : l.length ≤ cap) (hg : w.heap[g]? = some (.cells cur t (0, 0))) (hp : cur.toList.take (l.length * 6) = cells38 l) :
    Kd.V k38 e w base ok (.slice (some ⟨g, 0, none⟩) l.length cap) l :=
  Kd.V_mk hc fun W hW => C_of_prefix k38 (cells38_reps W l) (by omega) ((hW g hokg (blk_lt hg)).trans hg) hp
theorem place_two (l : List S38) : (placeOf l < l.length ∧ placeAt l = (placeOf l : Int)) ∨ (placeOf l = l.length ∧ placeAt l = -1) := by
  unfold placeAt
  by_cases h : placeOf l < l.length
  · exact .inl ⟨h, if_pos h⟩
  · exact .inr ⟨Nat.le_antisymm List.findIdx_le_length (by omega), if_neg h⟩
/-- Where a row of a list of rows lies, if it has elements. -/
theorem row_cell {w : World} {xs : List (List Int)} {cs : List Value} (hl : cs.length = xs.length * 1) (hr : Reps ((Kd.slice 3 (Kd.int .i64)).K w) (Kd.slice 3 (Kd.int .i64)).sz xs cs) (k : Nat) (hk : k < xs.length) (row : List Int) (he : row = rd_L1 xs (k : Int)) (hp : 0 < row.length) :
    ∃ (ar : Addr) (cr : Nat), cs[k]? = some (.slice (some ar) row.length cr) ∧ row.length ≤ cr ∧ Kd.C (Kd.int .i64) w (some ar) row.length row := by
  have e : xs[k]? = some row := by rw [he]; simp [rd_L1, List.getD_eq_getElem?_getD, List.getElem?_eq_getElem hk]
  obtain ⟨A, c, hc, hle, hC⟩ := hr.2 k row e
  have hlt : k < cs.length := by omega
  have h1 : ((cs.drop (k * 1)).take 1) = [cs[k]] := by rw [Nat.mul_one, List.drop_eq_getElem_cons hlt]; rfl
  have h2 : [cs[k]] = [.slice A row.length c] := h1.symm.trans hc
  simp only [List.cons.injEq, and_true] at h2
  obtain ⟨ad, rfl, _⟩ := hC.2.2 hp
  exact ⟨ad, c, by rw [List.getElem?_eq_getElem hlt, h2], hle, hC⟩
end Go.Proofs.Ytkecfdljodiifaa.P
