/- Rows of bytes in memory: []byte(s), append, copy of a string, string(b); plain facts. -/
import Derived.Test.YtpeelfambaedkaaHf
import Derived.Lib.ConvBytes
import Derived.Lib.LazyBuf
import Derived.Laws.IdiomStrings
namespace Go.Proofs.Ytpeelfambaedkaa.P
open Go.RowKit Go.Proofs.YtpeelfambaedkaaW.PrintWords Go.Proofs.YtpeelfambaedkaaW.PrintLast Go.Proofs.YtpeelfambaedkaaW.PrintMore

abbrev byteV (x : UInt8) : Value := .int .u8 (x.toNat : Int)
/-- block g begins with these bytes, and they may be written -/
def Row (w : World) (g : Nat) (l : List UInt8) : Prop := ∀ j, j < l.length → w.cell? ⟨g, j, none⟩ = some (byteV (l.getD j 0)) ∧ w.frozen? ⟨g, j, none⟩ = false
/-- from byte n to byte m of block g there is room -/
def Room (w : World) (g n m : Nat) : Prop := ∀ j, n ≤ j → j < m → (w.cell? ⟨g, j, none⟩).isSome = true ∧ w.frozen? ⟨g, j, none⟩ = false
theorem Row_heap {w w' : World} {g : Nat} {l : List UInt8} (h : Row w g l) (e : w'.heap[g]? = w.heap[g]?) : Row w' g l := fun j hj => by
  have := h j hj
  simp only [World.cell?, World.frozen?, e] at this ⊢
  exact this
theorem Room_heap {w w' : World} {g n m : Nat} (h : Room w g n m) (e : w'.heap[g]? = w.heap[g]?) : Room w' g n m := fun j h1 h2 => by
  have := h j h1 h2
  simp only [World.cell?, World.frozen?, e] at this ⊢
  exact this
theorem Row_take {w : World} {g : Nat} {l : List UInt8} (h : Row w g l) (n : Nat) : Row w g (l.take n) := fun j hj => by
  rw [List.length_take] at hj
  have := h j (by omega)
  rw [List.getD_eq_getElem?_getD, List.getElem?_take_of_lt (by omega), ← List.getD_eq_getElem?_getD]
  exact this
theorem Row_bytes (w : World) (s : ByteArray) : Row (Lib.bytesWorld w 5 s) w.heap.size s.data.toList := fun j hj => by
  have hj' : j < s.size := by simpa using hj
  refine ⟨Lib.bytesWorld_cell w 5 s j hj', ?_⟩
  simp only [World.frozen?, Lib.bytesWorld_at_new, Lib.bytesCells, Array.size_append, Array.size_map, Array.size_replicate]
  have : s.data.size = s.size := rfl
  simp
  omega
theorem Room_bytes (w : World) (s : ByteArray) : Room (Lib.bytesWorld w 5 s) w.heap.size s.size (grownCap w s.size 0 5) := fun j h1 h2 => by
  have e : (Lib.bytesCells w 5 s).size = s.size + (grownCap w s.size 0 5 - s.size) := by
    simp only [Lib.bytesCells, Array.size_append, Array.size_map, Array.size_replicate]
    rfl
  constructor
  · simp only [World.cell?, Lib.bytesWorld_at_new]
    rw [if_neg (by decide), Array.getElem?_eq_getElem (by omega)]
    rfl
  · simp only [World.frozen?, Lib.bytesWorld_at_new, e]
    simp
    omega
/-- some bytes written into a row that is there -/
theorem Row_over {w : World} {g o : Nat} {n : List UInt8} (l l' : List UInt8) (h : Row w g l) (hr : ∀ j, j < n.length → (w.cell? ⟨g, o + j, none⟩).isSome = true ∧ w.frozen? ⟨g, o + j, none⟩ = false)
    (hout : ∀ j, j < l'.length → j < o ∨ o + n.length ≤ j → j < l.length ∧ l'.getD j 0 = l.getD j 0) (hin : ∀ j, j < n.length → l'.getD (o + j) 0 = n.getD j 0) : Row (w.setCells g o (n.map byteV)) g l' := fun j hj => by
  rw [World.frozen?_setCells]
  by_cases c : j < o ∨ o + n.length ≤ j
  · obtain ⟨h1, h2⟩ := hout j hj c
    rw [World.cell?_setCells_out _ _ _ _ _ (fun _ _ => by simpa using c), h2]
    exact h j h1
  · obtain ⟨k, rfl⟩ : ∃ k, j = o + k := ⟨j - o, by omega⟩
    have hk : k < n.length := by omega
    rw [World.cell?_setCells_in _ _ _ _ (fun j hj => (hr j (by simpa using hj)).1) k (by simpa using hk), hin k hk]
    refine ⟨?_, (hr k hk).2⟩
    rw [List.getElem_map, List.getD_eq_getElem?_getD, List.getElem?_eq_getElem hk]
    rfl
theorem Row_more {w : World} {g : Nat} {l n : List UInt8} (h : Row w g l) (hr : Room w g l.length (l.length + n.length)) : Row (w.setCells g l.length (n.map byteV)) g (l ++ n) := by
  refine Row_over l (l ++ n) h (fun j hj => hr _ (by omega) (by omega)) (fun j hj c => ?_) (fun j hj => ?_)
  · rw [List.length_append] at hj
    have : j < l.length := by omega
    refine ⟨this, ?_⟩
    rw [List.getD_eq_getElem?_getD, List.getElem?_append_left this, ← List.getD_eq_getElem?_getD]
  · rw [List.getD_eq_getElem?_getD, List.getElem?_append_right (by omega), Nat.add_sub_cancel_left, ← List.getD_eq_getElem?_getD]
theorem Row_mid {w : World} {g o : Nat} {l n : List UInt8} (h : Row w g l) (hr : o + n.length ≤ l.length) : Row (w.setCells g o (n.map byteV)) g (l.take o ++ (n ++ l.drop (o + n.length))) := by
  refine Row_over l _ h (fun j hj => ?_) (fun j hj c => ?_) (fun j hj => ?_)
  · have := h (o + j) (by omega)
    rw [this.1]
    exact ⟨rfl, this.2⟩
  · simp only [List.length_append, List.length_take, List.length_drop] at hj
    have hj2 : j < l.length := by omega
    refine ⟨hj2, ?_⟩
    simp only [List.getD_eq_getElem?_getD]
    rcases c with c | c
    · rw [List.getElem?_append_left (by simp; omega), List.getElem?_take_of_lt c]
    · rw [List.getElem?_append_right (by simp; omega), List.getElem?_append_right (by simp; omega), List.getElem?_drop]
      congr 2
      simp
      omega
  · simp only [List.getD_eq_getElem?_getD]
    rw [List.getElem?_append_right (by simp; omega), List.getElem?_append_left (by simp; omega)]
    congr 2
    simp
    omega
theorem Row_own {w : World} {base : Nat} {v : Value} {n : Nat} {l : List UInt8} (h : w.ownsRow base 5 1 v n (l.map byteV)) (hn : 0 < n) : ∃ g cap, v = .slice (some ⟨g, 0, none⟩) n cap ∧ base ≤ g ∧ n ≤ cap ∧ l.length = n ∧ Row w g l := by
  obtain ⟨hl, hv⟩ := h
  have hl2 : l.length = n := by simpa using hl
  rcases hv with ⟨_, h0⟩ | ⟨g, cap, cur, rfl, hb, hg, hc, _, _, ht⟩
  · omega
  refine ⟨g, cap, rfl, hb, hc, hl2, fun j hj => ?_⟩
  rw [blk_cell hg, blk_frozen hg]
  refine ⟨?_, rfl⟩
  have e : (cur.toList.take (n * 1))[j]? = (l.map byteV)[j]? := by rw [ht]
  rw [List.getElem?_take_of_lt (by omega), List.getElem?_map, List.getElem?_eq_getElem hj] at e
  rw [List.getD_eq_getElem?_getD, List.getElem?_eq_getElem hj]
  simpa using e
theorem Row_text {w : World} {g : Nat} {l : List UInt8} (cap : Nat) (h : Row w g l) : (convert 66 9 (.slice (some ⟨g, 0, none⟩) l.length cap)).run Try.prog w = .ok (.string ⟨l.toArray⟩) w := by
  refine run_convert_bytes_back w 66 9 5 ⟨g, 0, none⟩ cap l Try.underlying66 Try.underlying5 Try.underlying9 fun j hj => ?_
  rw [addr_plain]
  have := (h j hj).1
  rw [List.getD_eq_getElem?_getD, List.getElem?_eq_getElem hj] at this
  exact this
end Go.Proofs.Ytpeelfambaedkaa.P
