/- The contracts of Open and what it calls, by hand: a process opens a node; the table is short enough for memory. -/
import Derived.Test.YtkecfdljodiifaaHk
import Derived.Deep.LoopGhost
import Derived.Shelf.SlicesQ.IndexFunc
namespace Go.Proofs.Ytkecfdljodiifaa.P
open Go.RowKit Go.Proofs.YtkecfdljodiifaaW.PrintWords Go.Proofs.YtkecfdljodiifaaW.PrintLast Go.Proofs.YtkecfdljodiifaaW.PrintMore

def free38 (x : S38) : Bool := x.f4 == 0
def placeOf (l : List S38) : Nat := l.findIdx free38
def placeAt (l : List S38) : Int := if placeOf l < l.length then (placeOf l : Int) else -1
theorem placeAt_hit (l : List S38) (i : Nat) (hi : i < l.length) (h : (rd_T38 l (i : Int)).f4 = 0) (hn : ∀ j : Nat, j < i → (rd_T38 l (j : Int)).f4 ≠ 0) : placeAt l = (i : Int) := by
  have e : ∀ (j : Nat) (hj : j < l.length), rd_T38 l (j : Int) = l[j] := fun j hj => by simp [rd_T38, List.getD_eq_getElem?_getD, List.getElem?_eq_getElem hj]
  have h1 : placeOf l = i := (List.findIdx_eq hi).2 ⟨by simp [free38, ← e i hi, h], fun j hj => by simp [free38, ← e j (by omega), hn j hj]⟩
  unfold placeAt
  rw [h1, if_pos hi]
theorem placeAt_miss (l : List S38) (hn : ∀ j : Nat, j < l.length → (rd_T38 l (j : Int)).f4 ≠ 0) : placeAt l = -1 := by
  have e : ∀ (j : Nat) (hj : j < l.length), rd_T38 l (j : Int) = l[j] := fun j hj => by simp [rd_T38, List.getD_eq_getElem?_getD, List.getElem?_eq_getElem hj]
  have h1 : placeOf l = l.length := List.findIdx_eq_length.2 fun x hx => by
    obtain ⟨j, hj, rfl⟩ := List.getElem_of_mem hx
    simp [free38, ← e j hj, hn j hj]
  unfold placeAt
  rw [h1, if_neg (Nat.lt_irrefl _)]

set_option maxHeartbeats 400000 in
theorem pred_any (x : S38) (b : Bool) (w : World) (h : (x.f4 == 0) = b) : Calls Try.prog 36 #[.agg #[.int .i64 x.f0, .int .i64 x.f1, .bool x.f2, .bool x.f3, .int .i64 x.f4, .int .i64 x.f5]] w fun e w' => e = .returned (.bool b) ∧ Below w.heap.size w w' := by
  have hu38 := Try.underlying38
  have hB := below_alloc (Below.refl w.heap.size w) (.cells #[.int .i64 x.f0, .int .i64 x.f1, .bool x.f2, .bool x.f3, .int .i64 x.f4, .int .i64 x.f5] 38)
  go_enter Try.func36, Try.ntmps36
  go_wp2_with fail
  go_ret
  exact ⟨rfl, hB⟩

set_option maxHeartbeats 1000000 in
theorem IndexFunc_any (A0 : Option Addr) (c0 : Nat) (l0 : List S38) (w : World) (hr : Kd.C k38 w A0 l0.length l0) (hb : l0.length ≤ 1000) :
    Calls Try.prog 35 #[.slice A0 l0.length c0, .func (.func 36) #[] #[]] w fun e w' => e = .returned (.int .i64 (placeAt l0)) ∧ Below w.heap.size w w' := by
  have HR := Aside0.mk hr
  have HB := Aside0.mk hb
  have H9 := Aside0.mk (show l0.length ≤ 9223372036854775807 by omega)
  clear hr hb
  go_enter Try.func35, Try.ntmps35
  go_wp2_with fail
  go_loopg [5, 8] l0.length (fun gg _ s8 wr => ∃ kk : Nat, kk ≤ l0.length ∧ l0.length - kk ≤ gg ∧ s8 = .int .i64 kk ∧ Aside0 (Below w.heap.size w wr) ∧ Aside0 (∀ j : Nat, j < kk → (rd_T38 l0 (j : Int)).f4 ≠ 0))
  case atStart => exact ⟨0, Nat.zero_le _, by omega, rfl, ⟨Below.refl _ w⟩, ⟨fun j hj => absurd hj (Nat.not_lt_zero _)⟩⟩
  case round =>
    obtain ⟨kk, hkk, hg, rfl, BW, A⟩ := hrel
    have HB1 := HB.out
    by_cases hlt : kk < l0.length
    · have hltz : (kk : Int) < (l0.length : Int) := by omega
      obtain ⟨ad, rfl, x0, x1, x2, x3, x4, x5⟩ := at_T38 (Kd.C_below HR.out BW.out) (kk : Int) (by omega) (by omega)
      simp only [Int.toNat_natCast] at x0 x1 x2 x3 x4 x5
      by_cases hq : (rd_T38 l0 (kk : Int)).f4 = 0
      · have hq2 : ((rd_T38 l0 (kk : Int)).f4 == 0) = true := beq_iff_eq.2 hq
        have E := Aside0.mk (placeAt_hit l0 kk hlt hq A.out)
        clear hq
        go_wp2_with (go_at_call 36; refine (pred_any _ true _ hq2).mono ?_; rintro e w' ⟨rfl, hb'⟩)
        go_ret
        exact ⟨by rw [E.out]; rfl, below_step BW.out hb'⟩
      · have hq2 : ((rd_T38 l0 (kk : Int)).f4 == 0) = false := beq_eq_false_iff_ne.2 hq
        have HQ := Aside0.mk hq
        clear hq
        go_wp2_with (go_at_call 36; refine (pred_any _ false _ hq2).mono ?_; rintro e w' ⟨rfl, hb'⟩)
        go_roundg (l0.length - (kk + 1))
        case measure => omega
        case rel =>
          refine ⟨kk + 1, by omega, by omega, by go_num, ⟨below_step BW.out hb'⟩, ⟨fun j hj => ?_⟩⟩
          by_cases e : j = kk
          · subst e
            exact HQ.out
          · exact A.out j (by omega)
    · have hltz : ¬ (kk : Int) < (l0.length : Int) := by omega
      obtain rfl : kk = l0.length := by omega
      go_wp2_with fail
      go_ret
      exact ⟨by rw [placeAt_miss l0 A.out]; rfl, BW.out⟩
theorem IndexFunc_val (v : Int) (A0 : Option Addr) (c0 : Nat) (l0 : List S38) (w : World) (hr : Kd.C k38 w A0 l0.length l0) (hb : l0.length ≤ 1000) (hv : placeAt l0 = v) :
    Calls Try.prog 35 #[.slice A0 l0.length c0, .func (.func 36) #[] #[]] w fun e w' => e = .returned (.int .i64 v) ∧ Below w.heap.size w w' := hv ▸ IndexFunc_any A0 c0 l0 w hr hb

set_option maxHeartbeats 400000 in
theorem row_none (v0 : Value) (A1 : Option Addr) (n1 c1 : Nat) (p : Int) (w : World) (hm : n1 ≤ 9223372036854775807) (hp : p < 0 ∨ (n1 : Int) ≤ p) : Calls Try.prog 34 #[.agg #[v0, .slice A1 n1 c1], .int .i64 p] w fun e w' => e = .returned (.slice none 0 0) ∧ Below w.heap.size w w' := by
  have hu25 := Try.underlying25
  have hB := below_alloc (Below.refl w.heap.size w) (.cells #[v0, .slice A1 n1 c1] 25)
  by_cases h1 : p < 0
  · have t1 : decide (p < 0) = true := decide_eq_true h1
    clear hp h1
    go_enter Try.func34, Try.ntmps34
    go_wp2_with fail
    go_ret
    exact ⟨rfl, hB⟩
  · have t1 : decide (p < 0) = false := decide_eq_false h1
    have t2 : decide ((n1 : Int) ≤ p) = true := decide_eq_true (by omega)
    clear hp h1
    go_enter Try.func34, Try.ntmps34
    go_wp2_with fail
    go_ret
    exact ⟨rfl, hB⟩

set_option maxHeartbeats 1000000 in
set_option maxRecDepth 100000 in
theorem Open_none (A0 : Option Addr) (n0 c0 : Nat) (A1 : Option Addr) (n1 c1 : Nat) (p : Int) (x : S38) (w : World) (hm : n1 ≤ 9223372036854775807) (hp : p < 0 ∨ (n1 : Int) ≤ p) :
    Calls Try.prog 19 #[.agg #[.slice A0 n0 c0, .slice A1 n1 c1], .int .i64 p, .agg #[.int .i64 x.f0, .int .i64 x.f1, .bool x.f2, .bool x.f3, .int .i64 x.f4, .int .i64 x.f5]] w fun e w' =>
      e = .returned (.tuple #[.agg #[.slice A0 n0 c0, .slice A1 n1 c1], .int .i64 0, .int .i64 1]) ∧ Below w.heap.size w w' := by
  have hu25 := Try.underlying25
  have hu38 := Try.underlying38
  have HP := Aside0.mk hp
  have W3 : ∃ w3, w3 = ((w.alloc (.cells #[.slice A0 n0 c0, .slice A1 n1 c1] 25)).alloc (.cells #[.int .i64 x.f0, .int .i64 x.f1, .bool x.f2, .bool x.f3, .int .i64 x.f4, .int .i64 x.f5] 38)).alloc (.cells #[.slice none 0 0, .slice none 0 0] 25) := ⟨_, rfl⟩
  clear hp
  go_enter Try.func19, Try.ntmps19
  go_upto_region 1 with (fail)
  obtain ⟨w3, E3⟩ := W3
  have hB := Aside0.mk (show Below w.heap.size w w3 by rw [E3]; exact below_alloc (below_alloc (below_alloc (Below.refl _ _) _) _) _)
  have hT := Aside0.mk (show w3.heap[w.heap.size]? = some (.cells #[.slice A0 n0 c0, .slice A1 n1 c1] 25 (0, 0)) by rw [E3]; exact blk_alloc (blk_alloc (blk_new w _) _) _)
  have hR := Aside0.mk (show w3.heap[w.heap.size + 1 + 1]? = some (.cells #[.slice none 0 0, .slice none 0 0] 25 (0, 0)) by rw [E3]; simpa using blk_new ((w.alloc (.cells #[.slice A0 n0 c0, .slice A1 n1 c1] 25)).alloc (.cells #[.int .i64 x.f0, .int .i64 x.f1, .bool x.f2, .bool x.f3, .int .i64 x.f4, .int .i64 x.f5] 38)) (.cells #[.slice none 0 0, .slice none 0 0] 25))
  rw [← E3]
  clear E3
  have ht0 := (blk_cell hT.out 0).trans (show _ = some (Value.slice A0 n0 c0) from rfl)
  have ht1 := (blk_cell hT.out 1).trans (show _ = some (Value.slice A1 n1 c1) from rfl)
  have hnn := fun (W : World) => Lib.run_eql_slice_nil (P := Try.prog) W 64 3 none 0 0 0 0 Try.underlying64
  go_upto_region 2 with (first | (go_at_call 34; refine (row_none _ A1 n1 c1 p _ hm HP.out).mono ?_; rintro e w4 ⟨rfl, hb4⟩; have T4 := Aside0.mk (blk_below hT.out hb4); have R4 := Aside0.mk (blk_below hR.out hb4); have B4 := Aside0.mk (below_step hB.out hb4)))
  have q0 := blk_frozen R4.out 0
  have q1 := blk_frozen R4.out 1
  have hr0 := (blk_cell R4.out 0).trans (show _ = some (Value.slice none 0 0) from rfl)
  have hr1 := (blk_cell R4.out 1).trans (show _ = some (Value.slice none 0 0) from rfl)
  have hu0 := (blk_cell T4.out 0).trans (show _ = some (Value.slice A0 n0 c0) from rfl)
  have hu1 := (blk_cell T4.out 1).trans (show _ = some (Value.slice A1 n1 c1) from rfl)
  go_wp2_with fail
  have B := blk_set (blk_set R4.out 0 (.slice A0 n0 c0)) 1 (.slice A1 n1 c1)
  have r0 := (blk_cell B 0).trans (show _ = some (Value.slice A0 n0 c0) from rfl)
  have r1 := (blk_cell B 1).trans (show _ = some (Value.slice A1 n1 c1) from rfl)
  exact bodyPost_ret (v := .tuple #[.agg #[.slice A0 n0 c0, .slice A1 n1 c1], .int .i64 0, .int .i64 1]) (by simp [results, Try.results19, go_sem, r0, r1]) rfl ⟨rfl, below_set (below_set B4.out (by omega)) (by omega)⟩

-- BY mkHl.py
theorem size_alloc1 (w : World) (o : Obj) : (w.alloc o).heap.size = w.heap.size + 1 := by simp
set_option maxHeartbeats 2000000 in
set_option maxRecDepth 100000 in
theorem Open_many (x : S38) (i : Nat) (A0 : Option Addr) (c0 : Nat) (l0 : List S38) (ad1 ar : Addr) (c1 n1 k cr : Nat) (row : List Int) (q : Nat) (r : Int) (w : World) (hk : k < n1) (hm : n1 ≤ 9223372036854775807) (hI : (i < l0.length ∧ placeAt l0 = (i : Int)) ∨ (i = l0.length ∧ placeAt l0 = -1)) (hb0 : l0.length ≤ 1000) (hr0 : Kd.C k38 w A0 l0.length l0)
    (hu : w.cell? (ad1.add k) = some (.slice (some ar) row.length cr)) (hc : row.length ≤ cr) (hrow : Kd.C (Kd.int .i64) w (some ar) row.length row) (hi : slices_Index_int_int.f q row (-1) = some r) (hr : r < 0) :
    Calls Try.prog 19 #[.agg #[.slice A0 l0.length c0, .slice (some ad1) n1 c1], .int .i64 k, .agg #[.int .i64 x.f0, .int .i64 x.f1, .bool x.f2, .bool x.f3, .int .i64 x.f4, .int .i64 x.f5]] w fun e w' =>
      e = .returned (.tuple #[.agg #[.slice A0 l0.length c0, .slice (some ad1) n1 c1], .int .i64 0, .int .i64 13]) ∧ Below w.heap.size w w' := by
  have hu25 := Try.underlying25
  have hu38 := Try.underlying38
  have HI := Aside0.mk hi
  have HR := Aside0.mk hr
  have HU := Aside0.mk hu
  have HO := Aside0.mk hrow
  have HM := Aside0.mk hm
  clear hi hr hu hrow hm
  have HC0 := Aside0.mk hr0
  have HB0 := Aside0.mk hb0
  have HL := Aside0.mk (show l0.length ≤ 9223372036854775807 by omega)
  have HIX := Aside0.mk hI
  have HIL := Aside0.mk (show i ≤ l0.length by rcases hI with h | h <;> omega)
  have W3 : ∃ w3, w3 = ((w.alloc (.cells #[.slice A0 l0.length c0, .slice (some ad1) n1 c1] 25)).alloc (.cells #[.int .i64 x.f0, .int .i64 x.f1, .bool x.f2, .bool x.f3, .int .i64 x.f4, .int .i64 x.f5] 38)).alloc (.cells #[.slice none 0 0, .slice none 0 0] 25) := ⟨_, rfl⟩
  clear hr0 hb0 hI
  go_enter Try.func19, Try.ntmps19
  go_upto_region 1 with (fail)
  obtain ⟨w3, E3⟩ := W3
  have hB := Aside0.mk (show Below w.heap.size w w3 by rw [E3]; exact below_alloc (below_alloc (below_alloc (Below.refl _ _) _) _) _)
  have hT := Aside0.mk (show w3.heap[w.heap.size]? = some (.cells #[.slice A0 l0.length c0, .slice (some ad1) n1 c1] 25 (0, 0)) by rw [E3]; exact blk_alloc (blk_alloc (blk_new w _) _) _)
  have hX := Aside0.mk (show w3.heap[w.heap.size + 1]? = some (.cells #[.int .i64 x.f0, .int .i64 x.f1, .bool x.f2, .bool x.f3, .int .i64 x.f4, .int .i64 x.f5] 38 (0, 0)) by rw [E3]; exact blk_alloc (by simpa using blk_new (w.alloc (.cells #[.slice A0 l0.length c0, .slice (some ad1) n1 c1] 25)) (.cells #[.int .i64 x.f0, .int .i64 x.f1, .bool x.f2, .bool x.f3, .int .i64 x.f4, .int .i64 x.f5] 38)) _)
  have hR := Aside0.mk (show w3.heap[w.heap.size + 1 + 1]? = some (.cells #[.slice none 0 0, .slice none 0 0] 25 (0, 0)) by rw [E3]; simpa using blk_new ((w.alloc (.cells #[.slice A0 l0.length c0, .slice (some ad1) n1 c1] 25)).alloc (.cells #[.int .i64 x.f0, .int .i64 x.f1, .bool x.f2, .bool x.f3, .int .i64 x.f4, .int .i64 x.f5] 38)) (.cells #[.slice none 0 0, .slice none 0 0] 25))
  rw [← E3]
  clear E3
  have ht0 := (blk_cell hT.out 0).trans (show _ = some (Value.slice A0 l0.length c0) from rfl)
  have ht1 := (blk_cell hT.out 1).trans (show _ = some (Value.slice (some ad1) n1 c1) from rfl)
  have U3 := Aside0.mk (pw_cell_below hB.out HU.out)
  have hnn := fun (W : World) => Lib.run_eql_slice_nil (P := Try.prog) W 64 3 (some ar) row.length cr 0 0 Try.underlying64
  go_upto_region 3 with (first | (go_at_call 34; refine (row_at _ ad1 n1 c1 k _ _ hk HM.out U3.out).mono ?_; rintro e w4 ⟨rfl, hb4⟩))
  have T4 := Aside0.mk (blk_below hT.out hb4)
  have X4 := Aside0.mk (blk_below hX.out hb4)
  have R4 := Aside0.mk (blk_below hR.out hb4)
  have B4 := Aside0.mk (below_step hB.out hb4)
  clear hb4 hT hX hR hB ht0 ht1 U3
  have ht0 := (blk_cell T4.out 0).trans (show _ = some (Value.slice A0 l0.length c0) from rfl)
  go_upto_if 19 with (first | (go_at_call 35; refine (IndexFunc_any A0 c0 l0 _ (Kd.C_below HC0.out B4.out) HB0.out).mono ?_; rintro e w5 ⟨rfl, hb5⟩))
  have T5 := Aside0.mk (blk_below T4.out hb5)
  have X5 := Aside0.mk (blk_below X4.out hb5)
  have R5 := Aside0.mk (blk_below R4.out hb5)
  have B5 := Aside0.mk (below_step B4.out hb5)
  clear hb5 T4 X4 R4 B4 ht0
  go_cut [9] (fun v9 wc => v9 = .int .i64 (i : Int) ∧ Aside0 (wc = w5))
  case first =>
    rcases HIX.out with ⟨h1, h2⟩ | ⟨h1, h2⟩
    · have t7 : decide (placeAt l0 < 0) = false := decide_eq_false (by omega)
      have t8 : ¬ placeAt l0 < 0 := by omega
      have H2 := Aside0.mk h2
      clear h1 h2
      go_wp2_with fail
      go_meet
      case rel => exact ⟨by rw [H2.out], ⟨rfl⟩⟩
    · have t7 : decide (placeAt l0 < 0) = true := decide_eq_true (by omega)
      have t8 : placeAt l0 < 0 := by omega
      have H1 := Aside0.mk h1
      have ht0 := (blk_cell T5.out 0).trans (show _ = some (Value.slice A0 l0.length c0) from rfl)
      clear h1 h2
      go_wp2_with fail
      go_meet
      case rel => exact ⟨by rw [H1.out], ⟨rfl⟩⟩
  case rest =>
    obtain ⟨rfl, ⟨rfl⟩⟩ := hcut
    have y0 := fun j => blk_frozen X5.out j
    have y4 := (blk_cell X5.out 4).trans (show _ = some (Value.int .i64 x.f4) from rfl)
    go_upto_region 7 with (fail)
    have T6 := Aside0.mk (blk_far (p := ⟨w.heap.size + 1, 4, none⟩) T5.out (by dsimp only; omega) (.int .i64 0))
    have X6 := Aside0.mk (blk_put X5.out 4 (.int .i64 0) rfl)
    have R6 := Aside0.mk (blk_far (p := ⟨w.heap.size + 1, 4, none⟩) R5.out (by dsimp only; omega) (.int .i64 0))
    have B6 := Aside0.mk (below_set (g := w.heap.size + 1) B5.out (by omega) (j := 4) (v := .int .i64 0))
    clear T5 X5 R5 B5 y0 y4
    generalize wc.setCell ⟨w.heap.size + 1, 4, none⟩ (.int .i64 0) = w6 at T6 X6 R6 B6 ⊢
    have T7 := Aside0.mk (blk_alloc T6.out (.cells #[.int .i64 x.f0, .int .i64 x.f1, .bool x.f2, .bool x.f3, .int .i64 0, .int .i64 x.f5] 38))
    have A7 := Aside0.mk (blk_new w6 (.cells #[.int .i64 x.f0, .int .i64 x.f1, .bool x.f2, .bool x.f3, .int .i64 0, .int .i64 x.f5] 38))
    have R7 := Aside0.mk (blk_alloc R6.out (.cells #[.int .i64 x.f0, .int .i64 x.f1, .bool x.f2, .bool x.f3, .int .i64 0, .int .i64 x.f5] 38))
    have B7 := Aside0.mk (below_alloc B6.out (.cells #[.int .i64 x.f0, .int .i64 x.f1, .bool x.f2, .bool x.f3, .int .i64 0, .int .i64 x.f5] 38))
    have S6 := Aside0.mk (show w.heap.size + 2 < w6.heap.size from blk_lt R6.out)
    have ht0 := (blk_cell T6.out 0).trans (show _ = some (Value.slice A0 l0.length c0) from rfl)
    have ht1 := (blk_cell T6.out 1).trans (show _ = some (Value.slice (some ad1) n1 c1) from rfl)
    have m0 := (blk_cell X6.out 0).trans (show _ = some (Value.int .i64 x.f0) from rfl)
    have m1 := (blk_cell X6.out 1).trans (show _ = some (Value.int .i64 x.f1) from rfl)
    have m2 := (blk_cell X6.out 2).trans (show _ = some (Value.bool x.f2) from rfl)
    have m3 := (blk_cell X6.out 3).trans (show _ = some (Value.bool x.f3) from rfl)
    have m4 := (blk_cell X6.out 4).trans (show _ = some (Value.int .i64 0) from rfl)
    have m5 := (blk_cell X6.out 5).trans (show _ = some (Value.int .i64 x.f5) from rfl)
    have U7 := Aside0.mk (pw_cell_below B7.out HU.out)
    go_wp2_with (first
      | (go_at_call 37; refine (refer_many A0 c0 l0.length ad1 ar c1 n1 k cr row q r i _ _ hk HM.out U7.out hc (Kd.C_below HO.out B7.out) HI.out HR.out).mono ?_; rintro e w8 ⟨rfl, hb8⟩;
          have R8 := Aside0.mk (blk_below R7.out hb8); have B8 := Aside0.mk (below_step B7.out hb8);
          have q0 := blk_frozen R8.out 0; have q1 := blk_frozen R8.out 1; have z0 := (blk_cell R8.out 0).trans (show _ = some (Value.slice none 0 0) from rfl); have z1 := (blk_cell R8.out 1).trans (show _ = some (Value.slice none 0 0) from rfl)))
    have B := blk_set (blk_set R8.out 0 (.slice A0 l0.length c0)) 1 (.slice (some ad1) n1 c1)
    have r0 := (blk_cell B 0).trans (show _ = some (Value.slice A0 l0.length c0) from rfl)
    have r1 := (blk_cell B 1).trans (show _ = some (Value.slice (some ad1) n1 c1) from rfl)
    refine bodyPost_ret (v := .tuple #[.agg #[.slice A0 l0.length c0, .slice (some ad1) n1 c1], .int .i64 0, .int .i64 13]) (by simp [results, Try.results19, go_sem, r0, r1]) rfl ?_
    exact ⟨rfl, below_set (below_set B8.out (by omega)) (by omega)⟩

/-- what Open hands back where there is a descriptor: the place's description is another one, and refers once -/
def Opened (A : Nat) (l0 : List S38) (i fd k n1 : Nat) (x : S38) (cf : List Value) (row : List Int) (e : Ending) (w' : World) : Prop :=
  ∃ gd gf gr cap : Nat, ∃ cur : Array Value,
      e = .returned (.tuple #[.agg #[.slice (some ⟨gd, 0, none⟩) (placed l0 i x).length cap, .slice (some ⟨gf, 0, none⟩) n1 n1], .int .i64 fd, .int .i64 0]) ∧ (placed l0 i x).length ≤ cap ∧ A ≤ gd ∧ A ≤ gf ∧ A ≤ gr ∧
      w'.heap[gd]? = some (.cells cur 38 (0, 0)) ∧ cur.toList.take ((placed l0 i x).length * 6) = cells38 (placed l0 i { x with f4 := 1 }) ∧ w'.heap[gf]? = some (.cells (cf.set k (.slice (some ⟨gr, 0, none⟩) row.length row.length)).toArray 64 (0, 0)) ∧
      w'.heap[gr]? = some (.cells ((row.set fd (i : Int)).map (Value.int .i64)).toArray 3 (0, 0))
theorem refer_zero (ga : Nat) (x : S38) (A0 : Option Addr) (c0 : Nat) (l0 : List S38) (ad1 ar : Addr) (c1 n1 k cr : Nat) (cf : List Value) (row : List Int) (q fd i : Nat) (w : World) (hk : k < n1) (hi : i ≤ l0.length) (hmx : w.heap[ga]? = some (.cells #[.int .i64 x.f0, .int .i64 x.f1, .bool x.f2, .bool x.f3, .int .i64 0, .int .i64 x.f5] 38 (0, 0))) (hfd : fd < row.length)
    (hb0 : l0.length ≤ 1000) (hb1 : n1 ≤ 1000) (hbr : row.length ≤ 1000) (hr : Kd.C k38 w A0 l0.length l0) (hf : cf.length = n1 * 1) (sf : ∀ j u, cf[j]? = some u → w.cell? (ad1.add j) = some u) (of : ∀ u ∈ cf, u.oneCell' = true)
    (hck : cf[k]? = some (.slice (some ar) row.length cr)) (hc : row.length ≤ cr) (hrow : Kd.C (Kd.int .i64) w (some ar) row.length row) (hx : slices_Index_int_int.f q row (-1) = some (fd : Int)) :
    Calls Try.prog 37 #[.agg #[.slice A0 l0.length c0, .slice (some ad1) n1 c1], .int .i64 k, .int .i64 i, .slice (some ⟨ga, 0, none⟩) 1 1] w fun e w' => Opened w.heap.size l0 i fd k n1 x cf row e w' ∧ Below w.heap.size w w' :=
  (refer_one ga { x with f4 := 0 } A0 c0 l0 ad1 ar c1 n1 k cr cf row q fd i w hk hi hmx hfd hb0 hb1 hbr hr hf sf of hck hc hrow hx).mono (by
    rintro e w' ⟨gd, gf, gr, cap, cur, he, hcap, hgd, hgf, hgr, hcd, htk, hcf, hcr, hb⟩
    rw [placed_length l0 i { x with f4 := 0 } x] at he hcap htk
    simp only [show wrap64 (0 + 1) = 1 from by unfold wrap64; omega] at htk
    exact ⟨⟨gd, gf, gr, cap, cur, he, hcap, hgd, hgf, hgr, hcd, htk, hcf, hcr⟩, hb⟩)
set_option maxHeartbeats 4000000 in
set_option maxRecDepth 100000 in
theorem Open_ok (x : S38) (A0 : Option Addr) (c0 : Nat) (l0 : List S38) (ad1 ar : Addr) (c1 n1 k cr : Nat) (cf : List Value) (row : List Int) (q fd i : Nat) (w : World) (hk : k < n1) (hI : (i < l0.length ∧ placeAt l0 = (i : Int)) ∨ (i = l0.length ∧ placeAt l0 = -1)) (hfd : fd < row.length)
    (hb0 : l0.length ≤ 1000) (hb1 : n1 ≤ 1000) (hbr : row.length ≤ 1000) (hr0 : Kd.C k38 w A0 l0.length l0) (hf : cf.length = n1 * 1) (sf : ∀ j u, cf[j]? = some u → w.cell? (ad1.add j) = some u) (of : ∀ u ∈ cf, u.oneCell' = true)
    (hck : cf[k]? = some (.slice (some ar) row.length cr)) (hc : row.length ≤ cr) (hrow : Kd.C (Kd.int .i64) w (some ar) row.length row) (hx : slices_Index_int_int.f q row (-1) = some (fd : Int)) :
    Calls Try.prog 19 #[.agg #[.slice A0 l0.length c0, .slice (some ad1) n1 c1], .int .i64 k, .agg #[.int .i64 x.f0, .int .i64 x.f1, .bool x.f2, .bool x.f3, .int .i64 x.f4, .int .i64 x.f5]] w fun e w' => Opened w.heap.size l0 i fd k n1 x cf row e w' ∧ Below w.heap.size w w' := by
  have hu25 := Try.underlying25
  have hu38 := Try.underlying38
  have HU := Aside0.mk (sf k _ hck)
  have HO := Aside0.mk hrow
  have HM := Aside0.mk (show n1 ≤ 9223372036854775807 by omega)
  have HX := Aside0.mk hx
  have HF := Aside0.mk hf
  have SF := Aside0.mk sf
  have OF := Aside0.mk of
  have CK := Aside0.mk hck
  clear hx hf sf of hck hrow
  have HC0 := Aside0.mk hr0
  have HB0 := Aside0.mk hb0
  have HL := Aside0.mk (show l0.length ≤ 9223372036854775807 by omega)
  have HIX := Aside0.mk hI
  have HIL := Aside0.mk (show i ≤ l0.length by rcases hI with h | h <;> omega)
  have W3 : ∃ w3, w3 = ((w.alloc (.cells #[.slice A0 l0.length c0, .slice (some ad1) n1 c1] 25)).alloc (.cells #[.int .i64 x.f0, .int .i64 x.f1, .bool x.f2, .bool x.f3, .int .i64 x.f4, .int .i64 x.f5] 38)).alloc (.cells #[.slice none 0 0, .slice none 0 0] 25) := ⟨_, rfl⟩
  clear hr0 hb0 hI
  go_enter Try.func19, Try.ntmps19
  go_upto_region 1 with (fail)
  obtain ⟨w3, E3⟩ := W3
  have hB := Aside0.mk (show Below w.heap.size w w3 by rw [E3]; exact below_alloc (below_alloc (below_alloc (Below.refl _ _) _) _) _)
  have hT := Aside0.mk (show w3.heap[w.heap.size]? = some (.cells #[.slice A0 l0.length c0, .slice (some ad1) n1 c1] 25 (0, 0)) by rw [E3]; exact blk_alloc (blk_alloc (blk_new w _) _) _)
  have hX := Aside0.mk (show w3.heap[w.heap.size + 1]? = some (.cells #[.int .i64 x.f0, .int .i64 x.f1, .bool x.f2, .bool x.f3, .int .i64 x.f4, .int .i64 x.f5] 38 (0, 0)) by rw [E3]; exact blk_alloc (by simpa using blk_new (w.alloc (.cells #[.slice A0 l0.length c0, .slice (some ad1) n1 c1] 25)) (.cells #[.int .i64 x.f0, .int .i64 x.f1, .bool x.f2, .bool x.f3, .int .i64 x.f4, .int .i64 x.f5] 38)) _)
  have hR := Aside0.mk (show w3.heap[w.heap.size + 1 + 1]? = some (.cells #[.slice none 0 0, .slice none 0 0] 25 (0, 0)) by rw [E3]; simpa using blk_new ((w.alloc (.cells #[.slice A0 l0.length c0, .slice (some ad1) n1 c1] 25)).alloc (.cells #[.int .i64 x.f0, .int .i64 x.f1, .bool x.f2, .bool x.f3, .int .i64 x.f4, .int .i64 x.f5] 38)) (.cells #[.slice none 0 0, .slice none 0 0] 25))
  rw [← E3]
  clear E3
  have ht0 := (blk_cell hT.out 0).trans (show _ = some (Value.slice A0 l0.length c0) from rfl)
  have ht1 := (blk_cell hT.out 1).trans (show _ = some (Value.slice (some ad1) n1 c1) from rfl)
  have U3 := Aside0.mk (pw_cell_below hB.out HU.out)
  have hnn := fun (W : World) => Lib.run_eql_slice_nil (P := Try.prog) W 64 3 (some ar) row.length cr 0 0 Try.underlying64
  go_upto_region 3 with (first | (go_at_call 34; refine (row_at _ ad1 n1 c1 k _ _ hk HM.out U3.out).mono ?_; rintro e w4 ⟨rfl, hb4⟩))
  have T4 := Aside0.mk (blk_below hT.out hb4)
  have X4 := Aside0.mk (blk_below hX.out hb4)
  have R4 := Aside0.mk (blk_below hR.out hb4)
  have B4 := Aside0.mk (below_step hB.out hb4)
  clear hb4 hT hX hR hB ht0 ht1 U3
  have ht0 := (blk_cell T4.out 0).trans (show _ = some (Value.slice A0 l0.length c0) from rfl)
  go_upto_if 19 with (first | (go_at_call 35; refine (IndexFunc_any A0 c0 l0 _ (Kd.C_below HC0.out B4.out) HB0.out).mono ?_; rintro e w5 ⟨rfl, hb5⟩))
  have T5 := Aside0.mk (blk_below T4.out hb5)
  have X5 := Aside0.mk (blk_below X4.out hb5)
  have R5 := Aside0.mk (blk_below R4.out hb5)
  have B5 := Aside0.mk (below_step B4.out hb5)
  clear hb5 T4 X4 R4 B4 ht0
  go_cut [9] (fun v9 wc => v9 = .int .i64 (i : Int) ∧ Aside0 (wc = w5))
  case first =>
    rcases HIX.out with ⟨h1, h2⟩ | ⟨h1, h2⟩
    · have t7 : decide (placeAt l0 < 0) = false := decide_eq_false (by omega)
      have t8 : ¬ placeAt l0 < 0 := by omega
      have H2 := Aside0.mk h2
      clear h1 h2
      go_wp2_with fail
      go_meet
      case rel => exact ⟨by rw [H2.out], ⟨rfl⟩⟩
    · have t7 : decide (placeAt l0 < 0) = true := decide_eq_true (by omega)
      have t8 : placeAt l0 < 0 := by omega
      have H1 := Aside0.mk h1
      have ht0 := (blk_cell T5.out 0).trans (show _ = some (Value.slice A0 l0.length c0) from rfl)
      clear h1 h2
      go_wp2_with fail
      go_meet
      case rel => exact ⟨by rw [H1.out], ⟨rfl⟩⟩
  case rest =>
    obtain ⟨rfl, ⟨rfl⟩⟩ := hcut
    have y0 := fun j => blk_frozen X5.out j
    have y4 := (blk_cell X5.out 4).trans (show _ = some (Value.int .i64 x.f4) from rfl)
    go_upto_region 7 with (fail)
    have T6 := Aside0.mk (blk_far (p := ⟨w.heap.size + 1, 4, none⟩) T5.out (by dsimp only; omega) (.int .i64 0))
    have X6 := Aside0.mk (blk_put X5.out 4 (.int .i64 0) rfl)
    have R6 := Aside0.mk (blk_far (p := ⟨w.heap.size + 1, 4, none⟩) R5.out (by dsimp only; omega) (.int .i64 0))
    have B6 := Aside0.mk (below_set (g := w.heap.size + 1) B5.out (by omega) (j := 4) (v := .int .i64 0))
    clear T5 X5 R5 B5 y0 y4
    generalize wc.setCell ⟨w.heap.size + 1, 4, none⟩ (.int .i64 0) = w6 at T6 X6 R6 B6 ⊢
    have T7 := Aside0.mk (blk_alloc T6.out (.cells #[.int .i64 x.f0, .int .i64 x.f1, .bool x.f2, .bool x.f3, .int .i64 0, .int .i64 x.f5] 38))
    have A7 := Aside0.mk (blk_new w6 (.cells #[.int .i64 x.f0, .int .i64 x.f1, .bool x.f2, .bool x.f3, .int .i64 0, .int .i64 x.f5] 38))
    have R7 := Aside0.mk (blk_alloc R6.out (.cells #[.int .i64 x.f0, .int .i64 x.f1, .bool x.f2, .bool x.f3, .int .i64 0, .int .i64 x.f5] 38))
    have B7 := Aside0.mk (below_alloc B6.out (.cells #[.int .i64 x.f0, .int .i64 x.f1, .bool x.f2, .bool x.f3, .int .i64 0, .int .i64 x.f5] 38))
    have S6 := Aside0.mk (show w.heap.size + 2 < w6.heap.size from blk_lt R6.out)
    have ht0 := (blk_cell T6.out 0).trans (show _ = some (Value.slice A0 l0.length c0) from rfl)
    have ht1 := (blk_cell T6.out 1).trans (show _ = some (Value.slice (some ad1) n1 c1) from rfl)
    have m0 := (blk_cell X6.out 0).trans (show _ = some (Value.int .i64 x.f0) from rfl)
    have m1 := (blk_cell X6.out 1).trans (show _ = some (Value.int .i64 x.f1) from rfl)
    have m2 := (blk_cell X6.out 2).trans (show _ = some (Value.bool x.f2) from rfl)
    have m3 := (blk_cell X6.out 3).trans (show _ = some (Value.bool x.f3) from rfl)
    have m4 := (blk_cell X6.out 4).trans (show _ = some (Value.int .i64 0) from rfl)
    have m5 := (blk_cell X6.out 5).trans (show _ = some (Value.int .i64 x.f5) from rfl)
    have C7 := Aside0.mk (Kd.C_below HC0.out B7.out)
    have O7 := Aside0.mk (Kd.C_below HO.out B7.out)
    have SF7 := Aside0.mk (fun (j : Nat) (u : Value) (hj : cf[j]? = some u) => pw_cell_below B7.out (SF.out j u hj))
    go_wp2_with (first
      | (go_at_call 37; refine (refer_zero w6.heap.size x A0 c0 l0 ad1 ar c1 n1 k cr cf row q fd i _ hk HIL.out A7.out hfd HB0.out hb1 hbr C7.out HF.out SF7.out OF.out CK.out hc O7.out HX.out).mono ?_; rintro e w8 ⟨⟨gd, gf, gr, cap, cur, rfl, hcap, hgd, hgf, hgr, hcd, htk, hcf, hcr⟩, hb8⟩;
          have R8 := Aside0.mk (blk_below R7.out hb8); have B8 := Aside0.mk (below_step B7.out hb8);
          have D8 := Aside0.mk hcd; have K8 := Aside0.mk htk; have F8 := Aside0.mk hcf; have W8 := Aside0.mk hcr; have G8 := Aside0.mk (And.intro hcap (And.intro hgd (And.intro hgf hgr))); clear hcap hgd hgf hgr hcd htk hcf hcr hb8;
          have q0 := blk_frozen R8.out 0; have q1 := blk_frozen R8.out 1; have z0 := (blk_cell R8.out 0).trans (show _ = some (Value.slice none 0 0) from rfl); have z1 := (blk_cell R8.out 1).trans (show _ = some (Value.slice none 0 0) from rfl)))
    have B := blk_set (blk_set R8.out 0 (.slice (some ⟨gd, 0, none⟩) (placed l0 i x).length cap)) 1 (.slice (some ⟨gf, 0, none⟩) n1 n1)
    have r0 := (blk_cell B 0).trans (show _ = some (Value.slice (some ⟨gd, 0, none⟩) (placed l0 i x).length cap) from rfl)
    have r1 := (blk_cell B 1).trans (show _ = some (Value.slice (some ⟨gf, 0, none⟩) n1 n1) from rfl)
    refine bodyPost_ret (v := .tuple #[.agg #[.slice (some ⟨gd, 0, none⟩) (placed l0 i x).length cap, .slice (some ⟨gf, 0, none⟩) n1 n1], .int .i64 fd, .int .i64 0]) (by simp [results, Try.results19, go_sem, r0, r1]) rfl ?_
    have far : ∀ {g : Nat} {cs : Array Value} {t : TypeId}, w8.heap[g]? = some (.cells cs t (0, 0)) → g ≠ w.heap.size + 1 + 1 → ((w8.setCell ⟨w.heap.size + 1 + 1, 0, none⟩ (.slice (some ⟨gd, 0, none⟩) (placed l0 i x).length cap)).setCell ⟨w.heap.size + 1 + 1, 1, none⟩ (.slice (some ⟨gf, 0, none⟩) n1 n1)).heap[g]? = some (.cells cs t (0, 0)) :=
      fun h hne => blk_far (p := ⟨w.heap.size + 1 + 1, 1, none⟩) (blk_far (p := ⟨w.heap.size + 1 + 1, 0, none⟩) h hne (.slice (some ⟨gd, 0, none⟩) (placed l0 i x).length cap)) hne (.slice (some ⟨gf, 0, none⟩) n1 n1)
    have hs := S6.out
    have hg := G8.out
    simp only [size_alloc1] at hg
    exact ⟨⟨gd, gf, gr, cap, cur, rfl, hg.1, by omega, by omega, by omega, far D8.out (by omega), K8.out, far F8.out (by omega), far W8.out (by omega)⟩, below_set (below_set B8.out (by omega)) (by omega)⟩
end Go.Proofs.Ytkecfdljodiifaa.P
