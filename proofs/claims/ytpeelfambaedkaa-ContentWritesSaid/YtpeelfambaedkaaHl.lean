/- The contracts of content.Write and content.Cut: the ways that change nothing, by hand. -/
import Derived.Test.YtpeelfambaedkaaHk
import Derived.Test.YtpeelfambaedkaaPcontentSize
namespace Go.Proofs.Ytpeelfambaedkaa.P
open Go.RowKit Go.Proofs.YtpeelfambaedkaaW.PrintWords Go.Proofs.YtpeelfambaedkaaW.PrintLast Go.Proofs.YtpeelfambaedkaaW.PrintMore

-- BY mkPl.py
set_option maxHeartbeats 1000000 in
set_option maxRecDepth 100000 in
theorem Write_err (A0 : Option Addr) (c0 : Nat) (l0 : List S59) (m q ino : Int) (p : Int) (s : ByteArray) (r1 r2 r3 r4 r5 r6 : Int) (r7 : ByteArray) (r8 : List S76) (r9 : Int) (w : World) (hr : Kd.C k59 w A0 l0.length l0) (hc : l0.length ≤ c0) (h : content_file.f l0 m q ino = some (r1, r2, r3, r4, r5, r6, r7, r8, r9)) (h9 : r9 ≠ 0) :
    Calls Try.prog 16 #[.agg #[.slice A0 l0.length c0, .int .i64 m, .int .i64 q], .int .i64 ino, .int .i64 p, .string s] w fun e w' => e = .returned (.tuple #[.agg #[.slice A0 l0.length c0, .int .i64 m, .int .i64 q], .int .i64 r9]) ∧ Below w.heap.size w w' := by
  have e0 : (r9 != 0) = true := bne_iff_ne.2 h9
  have e1 : (r9 == 0) = false := beq_eq_false_iff_ne.2 h9
  have hu24 := Try.underlying24
  have hu59 := Try.underlying59
  have hB := Aside0.mk (show Below w.heap.size w ((((w.alloc (.cells #[.slice A0 l0.length c0, .int .i64 m, .int .i64 q] 24)).alloc (.cells #[.int .i64 p] 3)).alloc (.cells #[.string s] 9)).alloc (.cells #[.slice none 0 0, .int .i64 0, .int .i64 0] 24)) from below_alloc (below_alloc (below_alloc (below_alloc (Below.refl _ _) _) _) _) _)
  have hT := Aside0.mk (show ((((w.alloc (.cells #[.slice A0 l0.length c0, .int .i64 m, .int .i64 q] 24)).alloc (.cells #[.int .i64 p] 3)).alloc (.cells #[.string s] 9)).alloc (.cells #[.slice none 0 0, .int .i64 0, .int .i64 0] 24)).heap[w.heap.size]? = some (.cells #[.slice A0 l0.length c0, .int .i64 m, .int .i64 q] 24 (0, 0)) from blk_alloc (blk_alloc (blk_alloc (blk_new w _) _) _) _)
  have hA := Aside0.mk (show ((((w.alloc (.cells #[.slice A0 l0.length c0, .int .i64 m, .int .i64 q] 24)).alloc (.cells #[.int .i64 p] 3)).alloc (.cells #[.string s] 9)).alloc (.cells #[.slice none 0 0, .int .i64 0, .int .i64 0] 24)).heap[w.heap.size + 1]? = some (.cells #[.int .i64 p] 3 (0, 0)) from blk_alloc (blk_alloc (by simpa using blk_new (w.alloc (.cells #[.slice A0 l0.length c0, .int .i64 m, .int .i64 q] 24)) (.cells #[.int .i64 p] 3)) _) _)
  have hS := Aside0.mk (show ((((w.alloc (.cells #[.slice A0 l0.length c0, .int .i64 m, .int .i64 q] 24)).alloc (.cells #[.int .i64 p] 3)).alloc (.cells #[.string s] 9)).alloc (.cells #[.slice none 0 0, .int .i64 0, .int .i64 0] 24)).heap[w.heap.size + 1 + 1]? = some (.cells #[.string s] 9 (0, 0)) from blk_alloc (by simpa using blk_new ((w.alloc (.cells #[.slice A0 l0.length c0, .int .i64 m, .int .i64 q] 24)).alloc (.cells #[.int .i64 p] 3)) (.cells #[.string s] 9)) _)
  have hR := Aside0.mk (show ((((w.alloc (.cells #[.slice A0 l0.length c0, .int .i64 m, .int .i64 q] 24)).alloc (.cells #[.int .i64 p] 3)).alloc (.cells #[.string s] 9)).alloc (.cells #[.slice none 0 0, .int .i64 0, .int .i64 0] 24)).heap[w.heap.size + 1 + 1 + 1]? = some (.cells #[.slice none 0 0, .int .i64 0, .int .i64 0] 24 (0, 0)) from by simpa using blk_new (((w.alloc (.cells #[.slice A0 l0.length c0, .int .i64 m, .int .i64 q] 24)).alloc (.cells #[.int .i64 p] 3)).alloc (.cells #[.string s] 9)) (.cells #[.slice none 0 0, .int .i64 0, .int .i64 0] 24))
  have HR := Aside0.mk (Kd.C_below hr hB.out)
  have HC := Aside0.mk hc
  have HF := Aside0.mk h
  clear hr hc h
  go_enter Try.func16, Try.ntmps16
  go_upto_region 1 with (fail)
  generalize ((((w.alloc (.cells #[.slice A0 l0.length c0, .int .i64 m, .int .i64 q] 24)).alloc (.cells #[.int .i64 p] 3)).alloc (.cells #[.string s] 9)).alloc (.cells #[.slice none 0 0, .int .i64 0, .int .i64 0] 24)) = w2 at hB hT hA hS hR HR ⊢
  have t0 := (blk_cell hT.out 0).trans (show _ = some (Value.slice A0 l0.length c0) from rfl)
  have t1 := (blk_cell hT.out 1).trans (show _ = some (Value.int .i64 m) from rfl)
  have t2 := (blk_cell hT.out 2).trans (show _ = some (Value.int .i64 q) from rfl)
  go_upto_region 2 with (first
    | (go_at_call 24; refine (File_any A0 c0 l0 m q ino r1 r2 r3 r4 r5 r6 r7 r8 r9 _ HR.out HC.out HF.out).mono ?_; rintro e w3 ⟨A, n, c, rfl, hb⟩;
        have T3 := Aside0.mk (blk_below hT.out hb); have A3 := Aside0.mk (blk_below hA.out hb); have S3 := Aside0.mk (blk_below hS.out hb); have R3 := Aside0.mk (blk_below hR.out hb); have B3 := Aside0.mk (below_step hB.out hb)))
  have T4 := Aside0.mk (blk_alloc T3.out (.cells #[.int .i64 r1, .int .i64 r2, .int .i64 r3, .int .i64 r4, .int .i64 r5, .int .i64 r6, .string r7, .slice A n c] 59))
  have A4 := Aside0.mk (blk_alloc A3.out (.cells #[.int .i64 r1, .int .i64 r2, .int .i64 r3, .int .i64 r4, .int .i64 r5, .int .i64 r6, .string r7, .slice A n c] 59))
  have S4 := Aside0.mk (blk_alloc S3.out (.cells #[.int .i64 r1, .int .i64 r2, .int .i64 r3, .int .i64 r4, .int .i64 r5, .int .i64 r6, .string r7, .slice A n c] 59))
  have R4 := Aside0.mk (blk_alloc R3.out (.cells #[.int .i64 r1, .int .i64 r2, .int .i64 r3, .int .i64 r4, .int .i64 r5, .int .i64 r6, .string r7, .slice A n c] 59))
  have B4 := Aside0.mk (below_alloc B3.out (.cells #[.int .i64 r1, .int .i64 r2, .int .i64 r3, .int .i64 r4, .int .i64 r5, .int .i64 r6, .string r7, .slice A n c] 59))
  clear T3 A3 S3 R3 B3 hT hA hS hR hB HR t0 t1 t2 hb
  generalize w3.alloc (.cells #[.int .i64 r1, .int .i64 r2, .int .i64 r3, .int .i64 r4, .int .i64 r5, .int .i64 r6, .string r7, .slice A n c] 59) = w4 at T4 A4 S4 R4 B4 ⊢
  have t0 := (blk_cell T4.out 0).trans (show _ = some (Value.slice A0 l0.length c0) from rfl)
  have t1 := (blk_cell T4.out 1).trans (show _ = some (Value.int .i64 m) from rfl)
  have t2 := (blk_cell T4.out 2).trans (show _ = some (Value.int .i64 q) from rfl)
  have a0 := (blk_cell A4.out 0).trans (show _ = some (Value.int .i64 p) from rfl)
  have s0 := (blk_cell S4.out 0).trans (show _ = some (Value.string s) from rfl)
  have z0 := (blk_cell R4.out 0).trans (show _ = some (Value.slice none 0 0) from rfl)
  have z1 := (blk_cell R4.out 1).trans (show _ = some (Value.int .i64 0) from rfl)
  have z2 := (blk_cell R4.out 2).trans (show _ = some (Value.int .i64 0) from rfl)
  have qf := fun j => blk_frozen R4.out j
  go_wp2_with fail
  have B := blk_set (blk_set (blk_set R4.out 0 (.slice A0 l0.length c0)) 1 (.int .i64 m)) 2 (.int .i64 q)
  have r0_ := (blk_cell B 0).trans (show _ = some (Value.slice A0 l0.length c0) from rfl)
  have r1_ := (blk_cell B 1).trans (show _ = some (Value.int .i64 m) from rfl)
  have r2_ := (blk_cell B 2).trans (show _ = some (Value.int .i64 q) from rfl)
  exact bodyPost_ret (v := .tuple #[.agg #[.slice A0 l0.length c0, .int .i64 m, .int .i64 q], .int .i64 r9]) (by simp [results, Try.results16, go_sem, r0_, r1_, r2_]) rfl ⟨rfl, below_set (g := w.heap.size + 1 + 1 + 1) (below_set (g := w.heap.size + 1 + 1 + 1) (below_set (g := w.heap.size + 1 + 1 + 1) B4.out (by omega) (j := 0) (v := .slice A0 l0.length c0)) (by omega) (j := 1) (v := .int .i64 m)) (by omega) (j := 2) (v := .int .i64 q)⟩
set_option maxHeartbeats 1000000 in
set_option maxRecDepth 100000 in
theorem Write_neg (A0 : Option Addr) (c0 : Nat) (l0 : List S59) (m q ino : Int) (p : Int) (s : ByteArray) (r1 r2 r3 r4 r5 r6 : Int) (r7 : ByteArray) (r8 : List S76) (r9 : Int) (w : World) (hr : Kd.C k59 w A0 l0.length l0) (hc : l0.length ≤ c0) (h : content_file.f l0 m q ino = some (r1, r2, r3, r4, r5, r6, r7, r8, r9)) (h9 : r9 = 0) (hp : p < 0) :
    Calls Try.prog 16 #[.agg #[.slice A0 l0.length c0, .int .i64 m, .int .i64 q], .int .i64 ino, .int .i64 p, .string s] w fun e w' => e = .returned (.tuple #[.agg #[.slice A0 l0.length c0, .int .i64 m, .int .i64 q], .int .i64 1]) ∧ Below w.heap.size w w' := by
  have e0 : (r9 != 0) = false := bne_eq_false_iff_eq.2 h9
  have e1 : (r9 == 0) = true := beq_iff_eq.2 h9
  have e2 : decide (p < 0) = true := decide_eq_true hp
  have hu24 := Try.underlying24
  have hu59 := Try.underlying59
  have hB := Aside0.mk (show Below w.heap.size w ((((w.alloc (.cells #[.slice A0 l0.length c0, .int .i64 m, .int .i64 q] 24)).alloc (.cells #[.int .i64 p] 3)).alloc (.cells #[.string s] 9)).alloc (.cells #[.slice none 0 0, .int .i64 0, .int .i64 0] 24)) from below_alloc (below_alloc (below_alloc (below_alloc (Below.refl _ _) _) _) _) _)
  have hT := Aside0.mk (show ((((w.alloc (.cells #[.slice A0 l0.length c0, .int .i64 m, .int .i64 q] 24)).alloc (.cells #[.int .i64 p] 3)).alloc (.cells #[.string s] 9)).alloc (.cells #[.slice none 0 0, .int .i64 0, .int .i64 0] 24)).heap[w.heap.size]? = some (.cells #[.slice A0 l0.length c0, .int .i64 m, .int .i64 q] 24 (0, 0)) from blk_alloc (blk_alloc (blk_alloc (blk_new w _) _) _) _)
  have hA := Aside0.mk (show ((((w.alloc (.cells #[.slice A0 l0.length c0, .int .i64 m, .int .i64 q] 24)).alloc (.cells #[.int .i64 p] 3)).alloc (.cells #[.string s] 9)).alloc (.cells #[.slice none 0 0, .int .i64 0, .int .i64 0] 24)).heap[w.heap.size + 1]? = some (.cells #[.int .i64 p] 3 (0, 0)) from blk_alloc (blk_alloc (by simpa using blk_new (w.alloc (.cells #[.slice A0 l0.length c0, .int .i64 m, .int .i64 q] 24)) (.cells #[.int .i64 p] 3)) _) _)
  have hS := Aside0.mk (show ((((w.alloc (.cells #[.slice A0 l0.length c0, .int .i64 m, .int .i64 q] 24)).alloc (.cells #[.int .i64 p] 3)).alloc (.cells #[.string s] 9)).alloc (.cells #[.slice none 0 0, .int .i64 0, .int .i64 0] 24)).heap[w.heap.size + 1 + 1]? = some (.cells #[.string s] 9 (0, 0)) from blk_alloc (by simpa using blk_new ((w.alloc (.cells #[.slice A0 l0.length c0, .int .i64 m, .int .i64 q] 24)).alloc (.cells #[.int .i64 p] 3)) (.cells #[.string s] 9)) _)
  have hR := Aside0.mk (show ((((w.alloc (.cells #[.slice A0 l0.length c0, .int .i64 m, .int .i64 q] 24)).alloc (.cells #[.int .i64 p] 3)).alloc (.cells #[.string s] 9)).alloc (.cells #[.slice none 0 0, .int .i64 0, .int .i64 0] 24)).heap[w.heap.size + 1 + 1 + 1]? = some (.cells #[.slice none 0 0, .int .i64 0, .int .i64 0] 24 (0, 0)) from by simpa using blk_new (((w.alloc (.cells #[.slice A0 l0.length c0, .int .i64 m, .int .i64 q] 24)).alloc (.cells #[.int .i64 p] 3)).alloc (.cells #[.string s] 9)) (.cells #[.slice none 0 0, .int .i64 0, .int .i64 0] 24))
  have HR := Aside0.mk (Kd.C_below hr hB.out)
  have HC := Aside0.mk hc
  have HF := Aside0.mk h
  clear hr hc h
  go_enter Try.func16, Try.ntmps16
  go_upto_region 1 with (fail)
  generalize ((((w.alloc (.cells #[.slice A0 l0.length c0, .int .i64 m, .int .i64 q] 24)).alloc (.cells #[.int .i64 p] 3)).alloc (.cells #[.string s] 9)).alloc (.cells #[.slice none 0 0, .int .i64 0, .int .i64 0] 24)) = w2 at hB hT hA hS hR HR ⊢
  have t0 := (blk_cell hT.out 0).trans (show _ = some (Value.slice A0 l0.length c0) from rfl)
  have t1 := (blk_cell hT.out 1).trans (show _ = some (Value.int .i64 m) from rfl)
  have t2 := (blk_cell hT.out 2).trans (show _ = some (Value.int .i64 q) from rfl)
  go_upto_region 2 with (first
    | (go_at_call 24; refine (File_any A0 c0 l0 m q ino r1 r2 r3 r4 r5 r6 r7 r8 r9 _ HR.out HC.out HF.out).mono ?_; rintro e w3 ⟨A, n, c, rfl, hb⟩;
        have T3 := Aside0.mk (blk_below hT.out hb); have A3 := Aside0.mk (blk_below hA.out hb); have S3 := Aside0.mk (blk_below hS.out hb); have R3 := Aside0.mk (blk_below hR.out hb); have B3 := Aside0.mk (below_step hB.out hb)))
  have T4 := Aside0.mk (blk_alloc T3.out (.cells #[.int .i64 r1, .int .i64 r2, .int .i64 r3, .int .i64 r4, .int .i64 r5, .int .i64 r6, .string r7, .slice A n c] 59))
  have A4 := Aside0.mk (blk_alloc A3.out (.cells #[.int .i64 r1, .int .i64 r2, .int .i64 r3, .int .i64 r4, .int .i64 r5, .int .i64 r6, .string r7, .slice A n c] 59))
  have S4 := Aside0.mk (blk_alloc S3.out (.cells #[.int .i64 r1, .int .i64 r2, .int .i64 r3, .int .i64 r4, .int .i64 r5, .int .i64 r6, .string r7, .slice A n c] 59))
  have R4 := Aside0.mk (blk_alloc R3.out (.cells #[.int .i64 r1, .int .i64 r2, .int .i64 r3, .int .i64 r4, .int .i64 r5, .int .i64 r6, .string r7, .slice A n c] 59))
  have B4 := Aside0.mk (below_alloc B3.out (.cells #[.int .i64 r1, .int .i64 r2, .int .i64 r3, .int .i64 r4, .int .i64 r5, .int .i64 r6, .string r7, .slice A n c] 59))
  clear T3 A3 S3 R3 B3 hT hA hS hR hB HR t0 t1 t2 hb
  generalize w3.alloc (.cells #[.int .i64 r1, .int .i64 r2, .int .i64 r3, .int .i64 r4, .int .i64 r5, .int .i64 r6, .string r7, .slice A n c] 59) = w4 at T4 A4 S4 R4 B4 ⊢
  have t0 := (blk_cell T4.out 0).trans (show _ = some (Value.slice A0 l0.length c0) from rfl)
  have t1 := (blk_cell T4.out 1).trans (show _ = some (Value.int .i64 m) from rfl)
  have t2 := (blk_cell T4.out 2).trans (show _ = some (Value.int .i64 q) from rfl)
  have a0 := (blk_cell A4.out 0).trans (show _ = some (Value.int .i64 p) from rfl)
  have s0 := (blk_cell S4.out 0).trans (show _ = some (Value.string s) from rfl)
  have z0 := (blk_cell R4.out 0).trans (show _ = some (Value.slice none 0 0) from rfl)
  have z1 := (blk_cell R4.out 1).trans (show _ = some (Value.int .i64 0) from rfl)
  have z2 := (blk_cell R4.out 2).trans (show _ = some (Value.int .i64 0) from rfl)
  have qf := fun j => blk_frozen R4.out j
  go_wp2_with fail
  have B := blk_set (blk_set (blk_set R4.out 0 (.slice A0 l0.length c0)) 1 (.int .i64 m)) 2 (.int .i64 q)
  have r0_ := (blk_cell B 0).trans (show _ = some (Value.slice A0 l0.length c0) from rfl)
  have r1_ := (blk_cell B 1).trans (show _ = some (Value.int .i64 m) from rfl)
  have r2_ := (blk_cell B 2).trans (show _ = some (Value.int .i64 q) from rfl)
  exact bodyPost_ret (v := .tuple #[.agg #[.slice A0 l0.length c0, .int .i64 m, .int .i64 q], .int .i64 1]) (by simp [results, Try.results16, go_sem, r0_, r1_, r2_]) rfl ⟨rfl, below_set (g := w.heap.size + 1 + 1 + 1) (below_set (g := w.heap.size + 1 + 1 + 1) (below_set (g := w.heap.size + 1 + 1 + 1) B4.out (by omega) (j := 0) (v := .slice A0 l0.length c0)) (by omega) (j := 1) (v := .int .i64 m)) (by omega) (j := 2) (v := .int .i64 q)⟩
set_option maxHeartbeats 1000000 in
set_option maxRecDepth 100000 in
theorem Write_nil (A0 : Option Addr) (c0 : Nat) (l0 : List S59) (m q ino : Int) (p : Int) (s : ByteArray) (r1 r2 r3 r4 r5 r6 : Int) (r7 : ByteArray) (r8 : List S76) (r9 : Int) (w : World) (hr : Kd.C k59 w A0 l0.length l0) (hc : l0.length ≤ c0) (h : content_file.f l0 m q ino = some (r1, r2, r3, r4, r5, r6, r7, r8, r9)) (h9 : r9 = 0) (hp : ¬ p < 0) (hs : s.toList = ([] : List UInt8)) :
    Calls Try.prog 16 #[.agg #[.slice A0 l0.length c0, .int .i64 m, .int .i64 q], .int .i64 ino, .int .i64 p, .string s] w fun e w' => e = .returned (.tuple #[.agg #[.slice A0 l0.length c0, .int .i64 m, .int .i64 q], .int .i64 0]) ∧ Below w.heap.size w w' := by
  have e0 : (r9 != 0) = false := bne_eq_false_iff_eq.2 h9
  have e1 : (r9 == 0) = true := beq_iff_eq.2 h9
  have e2 : decide (p < 0) = false := decide_eq_false hp
  have e3 : (s.toList == ([] : List UInt8)) = true := beq_iff_eq.2 hs
  clear hs
  have hu24 := Try.underlying24
  have hu59 := Try.underlying59
  have hB := Aside0.mk (show Below w.heap.size w ((((w.alloc (.cells #[.slice A0 l0.length c0, .int .i64 m, .int .i64 q] 24)).alloc (.cells #[.int .i64 p] 3)).alloc (.cells #[.string s] 9)).alloc (.cells #[.slice none 0 0, .int .i64 0, .int .i64 0] 24)) from below_alloc (below_alloc (below_alloc (below_alloc (Below.refl _ _) _) _) _) _)
  have hT := Aside0.mk (show ((((w.alloc (.cells #[.slice A0 l0.length c0, .int .i64 m, .int .i64 q] 24)).alloc (.cells #[.int .i64 p] 3)).alloc (.cells #[.string s] 9)).alloc (.cells #[.slice none 0 0, .int .i64 0, .int .i64 0] 24)).heap[w.heap.size]? = some (.cells #[.slice A0 l0.length c0, .int .i64 m, .int .i64 q] 24 (0, 0)) from blk_alloc (blk_alloc (blk_alloc (blk_new w _) _) _) _)
  have hA := Aside0.mk (show ((((w.alloc (.cells #[.slice A0 l0.length c0, .int .i64 m, .int .i64 q] 24)).alloc (.cells #[.int .i64 p] 3)).alloc (.cells #[.string s] 9)).alloc (.cells #[.slice none 0 0, .int .i64 0, .int .i64 0] 24)).heap[w.heap.size + 1]? = some (.cells #[.int .i64 p] 3 (0, 0)) from blk_alloc (blk_alloc (by simpa using blk_new (w.alloc (.cells #[.slice A0 l0.length c0, .int .i64 m, .int .i64 q] 24)) (.cells #[.int .i64 p] 3)) _) _)
  have hS := Aside0.mk (show ((((w.alloc (.cells #[.slice A0 l0.length c0, .int .i64 m, .int .i64 q] 24)).alloc (.cells #[.int .i64 p] 3)).alloc (.cells #[.string s] 9)).alloc (.cells #[.slice none 0 0, .int .i64 0, .int .i64 0] 24)).heap[w.heap.size + 1 + 1]? = some (.cells #[.string s] 9 (0, 0)) from blk_alloc (by simpa using blk_new ((w.alloc (.cells #[.slice A0 l0.length c0, .int .i64 m, .int .i64 q] 24)).alloc (.cells #[.int .i64 p] 3)) (.cells #[.string s] 9)) _)
  have hR := Aside0.mk (show ((((w.alloc (.cells #[.slice A0 l0.length c0, .int .i64 m, .int .i64 q] 24)).alloc (.cells #[.int .i64 p] 3)).alloc (.cells #[.string s] 9)).alloc (.cells #[.slice none 0 0, .int .i64 0, .int .i64 0] 24)).heap[w.heap.size + 1 + 1 + 1]? = some (.cells #[.slice none 0 0, .int .i64 0, .int .i64 0] 24 (0, 0)) from by simpa using blk_new (((w.alloc (.cells #[.slice A0 l0.length c0, .int .i64 m, .int .i64 q] 24)).alloc (.cells #[.int .i64 p] 3)).alloc (.cells #[.string s] 9)) (.cells #[.slice none 0 0, .int .i64 0, .int .i64 0] 24))
  have HR := Aside0.mk (Kd.C_below hr hB.out)
  have HC := Aside0.mk hc
  have HF := Aside0.mk h
  clear hr hc h
  go_enter Try.func16, Try.ntmps16
  go_upto_region 1 with (fail)
  generalize ((((w.alloc (.cells #[.slice A0 l0.length c0, .int .i64 m, .int .i64 q] 24)).alloc (.cells #[.int .i64 p] 3)).alloc (.cells #[.string s] 9)).alloc (.cells #[.slice none 0 0, .int .i64 0, .int .i64 0] 24)) = w2 at hB hT hA hS hR HR ⊢
  have t0 := (blk_cell hT.out 0).trans (show _ = some (Value.slice A0 l0.length c0) from rfl)
  have t1 := (blk_cell hT.out 1).trans (show _ = some (Value.int .i64 m) from rfl)
  have t2 := (blk_cell hT.out 2).trans (show _ = some (Value.int .i64 q) from rfl)
  go_upto_region 2 with (first
    | (go_at_call 24; refine (File_any A0 c0 l0 m q ino r1 r2 r3 r4 r5 r6 r7 r8 r9 _ HR.out HC.out HF.out).mono ?_; rintro e w3 ⟨A, n, c, rfl, hb⟩;
        have T3 := Aside0.mk (blk_below hT.out hb); have A3 := Aside0.mk (blk_below hA.out hb); have S3 := Aside0.mk (blk_below hS.out hb); have R3 := Aside0.mk (blk_below hR.out hb); have B3 := Aside0.mk (below_step hB.out hb)))
  have T4 := Aside0.mk (blk_alloc T3.out (.cells #[.int .i64 r1, .int .i64 r2, .int .i64 r3, .int .i64 r4, .int .i64 r5, .int .i64 r6, .string r7, .slice A n c] 59))
  have A4 := Aside0.mk (blk_alloc A3.out (.cells #[.int .i64 r1, .int .i64 r2, .int .i64 r3, .int .i64 r4, .int .i64 r5, .int .i64 r6, .string r7, .slice A n c] 59))
  have S4 := Aside0.mk (blk_alloc S3.out (.cells #[.int .i64 r1, .int .i64 r2, .int .i64 r3, .int .i64 r4, .int .i64 r5, .int .i64 r6, .string r7, .slice A n c] 59))
  have R4 := Aside0.mk (blk_alloc R3.out (.cells #[.int .i64 r1, .int .i64 r2, .int .i64 r3, .int .i64 r4, .int .i64 r5, .int .i64 r6, .string r7, .slice A n c] 59))
  have B4 := Aside0.mk (below_alloc B3.out (.cells #[.int .i64 r1, .int .i64 r2, .int .i64 r3, .int .i64 r4, .int .i64 r5, .int .i64 r6, .string r7, .slice A n c] 59))
  clear T3 A3 S3 R3 B3 hT hA hS hR hB HR t0 t1 t2 hb
  generalize w3.alloc (.cells #[.int .i64 r1, .int .i64 r2, .int .i64 r3, .int .i64 r4, .int .i64 r5, .int .i64 r6, .string r7, .slice A n c] 59) = w4 at T4 A4 S4 R4 B4 ⊢
  have t0 := (blk_cell T4.out 0).trans (show _ = some (Value.slice A0 l0.length c0) from rfl)
  have t1 := (blk_cell T4.out 1).trans (show _ = some (Value.int .i64 m) from rfl)
  have t2 := (blk_cell T4.out 2).trans (show _ = some (Value.int .i64 q) from rfl)
  have a0 := (blk_cell A4.out 0).trans (show _ = some (Value.int .i64 p) from rfl)
  have s0 := (blk_cell S4.out 0).trans (show _ = some (Value.string s) from rfl)
  have z0 := (blk_cell R4.out 0).trans (show _ = some (Value.slice none 0 0) from rfl)
  have z1 := (blk_cell R4.out 1).trans (show _ = some (Value.int .i64 0) from rfl)
  have z2 := (blk_cell R4.out 2).trans (show _ = some (Value.int .i64 0) from rfl)
  have qf := fun j => blk_frozen R4.out j
  go_wp2_with fail
  have B := blk_set (blk_set (blk_set R4.out 0 (.slice A0 l0.length c0)) 1 (.int .i64 m)) 2 (.int .i64 q)
  have r0_ := (blk_cell B 0).trans (show _ = some (Value.slice A0 l0.length c0) from rfl)
  have r1_ := (blk_cell B 1).trans (show _ = some (Value.int .i64 m) from rfl)
  have r2_ := (blk_cell B 2).trans (show _ = some (Value.int .i64 q) from rfl)
  exact bodyPost_ret (v := .tuple #[.agg #[.slice A0 l0.length c0, .int .i64 m, .int .i64 q], .int .i64 0]) (by simp [results, Try.results16, go_sem, r0_, r1_, r2_]) rfl ⟨rfl, below_set (g := w.heap.size + 1 + 1 + 1) (below_set (g := w.heap.size + 1 + 1 + 1) (below_set (g := w.heap.size + 1 + 1 + 1) B4.out (by omega) (j := 0) (v := .slice A0 l0.length c0)) (by omega) (j := 1) (v := .int .i64 m)) (by omega) (j := 2) (v := .int .i64 q)⟩
set_option maxHeartbeats 1000000 in
set_option maxRecDepth 100000 in
theorem Write_far (A0 : Option Addr) (c0 : Nat) (l0 : List S59) (m q ino : Int) (p : Int) (s : ByteArray) (r1 r2 r3 r4 r5 r6 : Int) (r7 : ByteArray) (r8 : List S76) (r9 : Int) (w : World) (hr : Kd.C k59 w A0 l0.length l0) (hc : l0.length ≤ c0) (h : content_file.f l0 m q ino = some (r1, r2, r3, r4, r5, r6, r7, r8, r9)) (h9 : r9 = 0) (hp : ¬ p < 0) (hs : s.toList ≠ ([] : List UInt8)) (hf : 1000 < p) :
    Calls Try.prog 16 #[.agg #[.slice A0 l0.length c0, .int .i64 m, .int .i64 q], .int .i64 ino, .int .i64 p, .string s] w fun e w' => e = .returned (.tuple #[.agg #[.slice A0 l0.length c0, .int .i64 m, .int .i64 q], .int .i64 10]) ∧ Below w.heap.size w w' := by
  have e0 : (r9 != 0) = false := bne_eq_false_iff_eq.2 h9
  have e1 : (r9 == 0) = true := beq_iff_eq.2 h9
  have e2 : decide (p < 0) = false := decide_eq_false hp
  have e3 : (s.toList == ([] : List UInt8)) = false := beq_eq_false_iff_ne.2 hs
  clear hs
  have e4 : decide (1000 < p) = true := decide_eq_true hf
  have hu24 := Try.underlying24
  have hu59 := Try.underlying59
  have hB := Aside0.mk (show Below w.heap.size w ((((w.alloc (.cells #[.slice A0 l0.length c0, .int .i64 m, .int .i64 q] 24)).alloc (.cells #[.int .i64 p] 3)).alloc (.cells #[.string s] 9)).alloc (.cells #[.slice none 0 0, .int .i64 0, .int .i64 0] 24)) from below_alloc (below_alloc (below_alloc (below_alloc (Below.refl _ _) _) _) _) _)
  have hT := Aside0.mk (show ((((w.alloc (.cells #[.slice A0 l0.length c0, .int .i64 m, .int .i64 q] 24)).alloc (.cells #[.int .i64 p] 3)).alloc (.cells #[.string s] 9)).alloc (.cells #[.slice none 0 0, .int .i64 0, .int .i64 0] 24)).heap[w.heap.size]? = some (.cells #[.slice A0 l0.length c0, .int .i64 m, .int .i64 q] 24 (0, 0)) from blk_alloc (blk_alloc (blk_alloc (blk_new w _) _) _) _)
  have hA := Aside0.mk (show ((((w.alloc (.cells #[.slice A0 l0.length c0, .int .i64 m, .int .i64 q] 24)).alloc (.cells #[.int .i64 p] 3)).alloc (.cells #[.string s] 9)).alloc (.cells #[.slice none 0 0, .int .i64 0, .int .i64 0] 24)).heap[w.heap.size + 1]? = some (.cells #[.int .i64 p] 3 (0, 0)) from blk_alloc (blk_alloc (by simpa using blk_new (w.alloc (.cells #[.slice A0 l0.length c0, .int .i64 m, .int .i64 q] 24)) (.cells #[.int .i64 p] 3)) _) _)
  have hS := Aside0.mk (show ((((w.alloc (.cells #[.slice A0 l0.length c0, .int .i64 m, .int .i64 q] 24)).alloc (.cells #[.int .i64 p] 3)).alloc (.cells #[.string s] 9)).alloc (.cells #[.slice none 0 0, .int .i64 0, .int .i64 0] 24)).heap[w.heap.size + 1 + 1]? = some (.cells #[.string s] 9 (0, 0)) from blk_alloc (by simpa using blk_new ((w.alloc (.cells #[.slice A0 l0.length c0, .int .i64 m, .int .i64 q] 24)).alloc (.cells #[.int .i64 p] 3)) (.cells #[.string s] 9)) _)
  have hR := Aside0.mk (show ((((w.alloc (.cells #[.slice A0 l0.length c0, .int .i64 m, .int .i64 q] 24)).alloc (.cells #[.int .i64 p] 3)).alloc (.cells #[.string s] 9)).alloc (.cells #[.slice none 0 0, .int .i64 0, .int .i64 0] 24)).heap[w.heap.size + 1 + 1 + 1]? = some (.cells #[.slice none 0 0, .int .i64 0, .int .i64 0] 24 (0, 0)) from by simpa using blk_new (((w.alloc (.cells #[.slice A0 l0.length c0, .int .i64 m, .int .i64 q] 24)).alloc (.cells #[.int .i64 p] 3)).alloc (.cells #[.string s] 9)) (.cells #[.slice none 0 0, .int .i64 0, .int .i64 0] 24))
  have HR := Aside0.mk (Kd.C_below hr hB.out)
  have HC := Aside0.mk hc
  have HF := Aside0.mk h
  clear hr hc h
  go_enter Try.func16, Try.ntmps16
  go_upto_region 1 with (fail)
  generalize ((((w.alloc (.cells #[.slice A0 l0.length c0, .int .i64 m, .int .i64 q] 24)).alloc (.cells #[.int .i64 p] 3)).alloc (.cells #[.string s] 9)).alloc (.cells #[.slice none 0 0, .int .i64 0, .int .i64 0] 24)) = w2 at hB hT hA hS hR HR ⊢
  have t0 := (blk_cell hT.out 0).trans (show _ = some (Value.slice A0 l0.length c0) from rfl)
  have t1 := (blk_cell hT.out 1).trans (show _ = some (Value.int .i64 m) from rfl)
  have t2 := (blk_cell hT.out 2).trans (show _ = some (Value.int .i64 q) from rfl)
  go_upto_region 2 with (first
    | (go_at_call 24; refine (File_any A0 c0 l0 m q ino r1 r2 r3 r4 r5 r6 r7 r8 r9 _ HR.out HC.out HF.out).mono ?_; rintro e w3 ⟨A, n, c, rfl, hb⟩;
        have T3 := Aside0.mk (blk_below hT.out hb); have A3 := Aside0.mk (blk_below hA.out hb); have S3 := Aside0.mk (blk_below hS.out hb); have R3 := Aside0.mk (blk_below hR.out hb); have B3 := Aside0.mk (below_step hB.out hb)))
  have T4 := Aside0.mk (blk_alloc T3.out (.cells #[.int .i64 r1, .int .i64 r2, .int .i64 r3, .int .i64 r4, .int .i64 r5, .int .i64 r6, .string r7, .slice A n c] 59))
  have A4 := Aside0.mk (blk_alloc A3.out (.cells #[.int .i64 r1, .int .i64 r2, .int .i64 r3, .int .i64 r4, .int .i64 r5, .int .i64 r6, .string r7, .slice A n c] 59))
  have S4 := Aside0.mk (blk_alloc S3.out (.cells #[.int .i64 r1, .int .i64 r2, .int .i64 r3, .int .i64 r4, .int .i64 r5, .int .i64 r6, .string r7, .slice A n c] 59))
  have R4 := Aside0.mk (blk_alloc R3.out (.cells #[.int .i64 r1, .int .i64 r2, .int .i64 r3, .int .i64 r4, .int .i64 r5, .int .i64 r6, .string r7, .slice A n c] 59))
  have B4 := Aside0.mk (below_alloc B3.out (.cells #[.int .i64 r1, .int .i64 r2, .int .i64 r3, .int .i64 r4, .int .i64 r5, .int .i64 r6, .string r7, .slice A n c] 59))
  clear T3 A3 S3 R3 B3 hT hA hS hR hB HR t0 t1 t2 hb
  generalize w3.alloc (.cells #[.int .i64 r1, .int .i64 r2, .int .i64 r3, .int .i64 r4, .int .i64 r5, .int .i64 r6, .string r7, .slice A n c] 59) = w4 at T4 A4 S4 R4 B4 ⊢
  have t0 := (blk_cell T4.out 0).trans (show _ = some (Value.slice A0 l0.length c0) from rfl)
  have t1 := (blk_cell T4.out 1).trans (show _ = some (Value.int .i64 m) from rfl)
  have t2 := (blk_cell T4.out 2).trans (show _ = some (Value.int .i64 q) from rfl)
  have a0 := (blk_cell A4.out 0).trans (show _ = some (Value.int .i64 p) from rfl)
  have s0 := (blk_cell S4.out 0).trans (show _ = some (Value.string s) from rfl)
  have z0 := (blk_cell R4.out 0).trans (show _ = some (Value.slice none 0 0) from rfl)
  have z1 := (blk_cell R4.out 1).trans (show _ = some (Value.int .i64 0) from rfl)
  have z2 := (blk_cell R4.out 2).trans (show _ = some (Value.int .i64 0) from rfl)
  have qf := fun j => blk_frozen R4.out j
  go_wp2_with fail
  have B := blk_set (blk_set (blk_set R4.out 0 (.slice A0 l0.length c0)) 1 (.int .i64 m)) 2 (.int .i64 q)
  have r0_ := (blk_cell B 0).trans (show _ = some (Value.slice A0 l0.length c0) from rfl)
  have r1_ := (blk_cell B 1).trans (show _ = some (Value.int .i64 m) from rfl)
  have r2_ := (blk_cell B 2).trans (show _ = some (Value.int .i64 q) from rfl)
  exact bodyPost_ret (v := .tuple #[.agg #[.slice A0 l0.length c0, .int .i64 m, .int .i64 q], .int .i64 10]) (by simp [results, Try.results16, go_sem, r0_, r1_, r2_]) rfl ⟨rfl, below_set (g := w.heap.size + 1 + 1 + 1) (below_set (g := w.heap.size + 1 + 1 + 1) (below_set (g := w.heap.size + 1 + 1 + 1) B4.out (by omega) (j := 0) (v := .slice A0 l0.length c0)) (by omega) (j := 1) (v := .int .i64 m)) (by omega) (j := 2) (v := .int .i64 q)⟩
set_option maxHeartbeats 1000000 in
set_option maxRecDepth 100000 in
theorem Cut_err (A0 : Option Addr) (c0 : Nat) (l0 : List S59) (m q ino : Int) (p : Int) (r8 r9 : Int) (w : World) (hr : Kd.C k59 w A0 l0.length l0) (hc : l0.length ≤ c0) (h : content_Size.f l0 m q ino = some (r8, r9)) (h9 : r9 ≠ 0) :
    Calls Try.prog 18 #[.agg #[.slice A0 l0.length c0, .int .i64 m, .int .i64 q], .int .i64 ino, .int .i64 p] w fun e w' => e = .returned (.tuple #[.agg #[.slice A0 l0.length c0, .int .i64 m, .int .i64 q], .int .i64 r9]) ∧ Below w.heap.size w w' := by
  have e0 : (r9 != 0) = true := bne_iff_ne.2 h9
  have e1 : (r9 == 0) = false := beq_eq_false_iff_ne.2 h9
  have hu24 := Try.underlying24
  have hu59 := Try.underlying59
  have hB := Aside0.mk (show Below w.heap.size w (((w.alloc (.cells #[.slice A0 l0.length c0, .int .i64 m, .int .i64 q] 24)).alloc (.cells #[.int .i64 p] 3)).alloc (.cells #[.slice none 0 0, .int .i64 0, .int .i64 0] 24)) from below_alloc (below_alloc (below_alloc (Below.refl _ _) _) _) _)
  have hT := Aside0.mk (show (((w.alloc (.cells #[.slice A0 l0.length c0, .int .i64 m, .int .i64 q] 24)).alloc (.cells #[.int .i64 p] 3)).alloc (.cells #[.slice none 0 0, .int .i64 0, .int .i64 0] 24)).heap[w.heap.size]? = some (.cells #[.slice A0 l0.length c0, .int .i64 m, .int .i64 q] 24 (0, 0)) from blk_alloc (blk_alloc (blk_new w _) _) _)
  have hA := Aside0.mk (show (((w.alloc (.cells #[.slice A0 l0.length c0, .int .i64 m, .int .i64 q] 24)).alloc (.cells #[.int .i64 p] 3)).alloc (.cells #[.slice none 0 0, .int .i64 0, .int .i64 0] 24)).heap[w.heap.size + 1]? = some (.cells #[.int .i64 p] 3 (0, 0)) from blk_alloc (by simpa using blk_new (w.alloc (.cells #[.slice A0 l0.length c0, .int .i64 m, .int .i64 q] 24)) (.cells #[.int .i64 p] 3)) _)
  have hR := Aside0.mk (show (((w.alloc (.cells #[.slice A0 l0.length c0, .int .i64 m, .int .i64 q] 24)).alloc (.cells #[.int .i64 p] 3)).alloc (.cells #[.slice none 0 0, .int .i64 0, .int .i64 0] 24)).heap[w.heap.size + 1 + 1]? = some (.cells #[.slice none 0 0, .int .i64 0, .int .i64 0] 24 (0, 0)) from by simpa using blk_new ((w.alloc (.cells #[.slice A0 l0.length c0, .int .i64 m, .int .i64 q] 24)).alloc (.cells #[.int .i64 p] 3)) (.cells #[.slice none 0 0, .int .i64 0, .int .i64 0] 24))
  have HR := Aside0.mk (Kd.C_below hr hB.out)
  have HC := Aside0.mk hc
  have HF := Aside0.mk h
  clear hr hc h
  go_enter Try.func18, Try.ntmps18
  go_upto_region 1 with (fail)
  generalize (((w.alloc (.cells #[.slice A0 l0.length c0, .int .i64 m, .int .i64 q] 24)).alloc (.cells #[.int .i64 p] 3)).alloc (.cells #[.slice none 0 0, .int .i64 0, .int .i64 0] 24)) = w2 at hB hT hA hR HR ⊢
  have t0 := (blk_cell hT.out 0).trans (show _ = some (Value.slice A0 l0.length c0) from rfl)
  have t1 := (blk_cell hT.out 1).trans (show _ = some (Value.int .i64 m) from rfl)
  have t2 := (blk_cell hT.out 2).trans (show _ = some (Value.int .i64 q) from rfl)
  go_upto_region 2 with (first
    | (go_at_call 14; refine (content_Size.calls A0 c0 l0 m q ino r8 r9 _ HR.out HC.out HF.out).mono ?_; rintro e w4 ⟨rfl, hb⟩;
        have T4 := Aside0.mk (blk_below hT.out hb); have A4 := Aside0.mk (blk_below hA.out hb); have R4 := Aside0.mk (blk_below hR.out hb); have B4 := Aside0.mk (below_step hB.out hb); clear hb))
  clear hT hA hR hB HR t0 t1 t2
  have t0 := (blk_cell T4.out 0).trans (show _ = some (Value.slice A0 l0.length c0) from rfl)
  have t1 := (blk_cell T4.out 1).trans (show _ = some (Value.int .i64 m) from rfl)
  have t2 := (blk_cell T4.out 2).trans (show _ = some (Value.int .i64 q) from rfl)
  have a0 := (blk_cell A4.out 0).trans (show _ = some (Value.int .i64 p) from rfl)
  have z0 := (blk_cell R4.out 0).trans (show _ = some (Value.slice none 0 0) from rfl)
  have z1 := (blk_cell R4.out 1).trans (show _ = some (Value.int .i64 0) from rfl)
  have z2 := (blk_cell R4.out 2).trans (show _ = some (Value.int .i64 0) from rfl)
  have qf := fun j => blk_frozen R4.out j
  go_wp2_with fail
  have B := blk_set (blk_set (blk_set R4.out 0 (.slice A0 l0.length c0)) 1 (.int .i64 m)) 2 (.int .i64 q)
  have r0_ := (blk_cell B 0).trans (show _ = some (Value.slice A0 l0.length c0) from rfl)
  have r1_ := (blk_cell B 1).trans (show _ = some (Value.int .i64 m) from rfl)
  have r2_ := (blk_cell B 2).trans (show _ = some (Value.int .i64 q) from rfl)
  exact bodyPost_ret (v := .tuple #[.agg #[.slice A0 l0.length c0, .int .i64 m, .int .i64 q], .int .i64 r9]) (by simp [results, Try.results18, go_sem, r0_, r1_, r2_]) rfl ⟨rfl, below_set (g := w.heap.size + 1 + 1) (below_set (g := w.heap.size + 1 + 1) (below_set (g := w.heap.size + 1 + 1) B4.out (by omega) (j := 0) (v := .slice A0 l0.length c0)) (by omega) (j := 1) (v := .int .i64 m)) (by omega) (j := 2) (v := .int .i64 q)⟩
set_option maxHeartbeats 1000000 in
set_option maxRecDepth 100000 in
theorem Cut_neg (A0 : Option Addr) (c0 : Nat) (l0 : List S59) (m q ino : Int) (p : Int) (r8 r9 : Int) (w : World) (hr : Kd.C k59 w A0 l0.length l0) (hc : l0.length ≤ c0) (h : content_Size.f l0 m q ino = some (r8, r9)) (h9 : r9 = 0) (hp : p < 0) :
    Calls Try.prog 18 #[.agg #[.slice A0 l0.length c0, .int .i64 m, .int .i64 q], .int .i64 ino, .int .i64 p] w fun e w' => e = .returned (.tuple #[.agg #[.slice A0 l0.length c0, .int .i64 m, .int .i64 q], .int .i64 1]) ∧ Below w.heap.size w w' := by
  have e0 : (r9 != 0) = false := bne_eq_false_iff_eq.2 h9
  have e1 : (r9 == 0) = true := beq_iff_eq.2 h9
  have e2 : decide (p < 0) = true := decide_eq_true hp
  have hu24 := Try.underlying24
  have hu59 := Try.underlying59
  have hB := Aside0.mk (show Below w.heap.size w (((w.alloc (.cells #[.slice A0 l0.length c0, .int .i64 m, .int .i64 q] 24)).alloc (.cells #[.int .i64 p] 3)).alloc (.cells #[.slice none 0 0, .int .i64 0, .int .i64 0] 24)) from below_alloc (below_alloc (below_alloc (Below.refl _ _) _) _) _)
  have hT := Aside0.mk (show (((w.alloc (.cells #[.slice A0 l0.length c0, .int .i64 m, .int .i64 q] 24)).alloc (.cells #[.int .i64 p] 3)).alloc (.cells #[.slice none 0 0, .int .i64 0, .int .i64 0] 24)).heap[w.heap.size]? = some (.cells #[.slice A0 l0.length c0, .int .i64 m, .int .i64 q] 24 (0, 0)) from blk_alloc (blk_alloc (blk_new w _) _) _)
  have hA := Aside0.mk (show (((w.alloc (.cells #[.slice A0 l0.length c0, .int .i64 m, .int .i64 q] 24)).alloc (.cells #[.int .i64 p] 3)).alloc (.cells #[.slice none 0 0, .int .i64 0, .int .i64 0] 24)).heap[w.heap.size + 1]? = some (.cells #[.int .i64 p] 3 (0, 0)) from blk_alloc (by simpa using blk_new (w.alloc (.cells #[.slice A0 l0.length c0, .int .i64 m, .int .i64 q] 24)) (.cells #[.int .i64 p] 3)) _)
  have hR := Aside0.mk (show (((w.alloc (.cells #[.slice A0 l0.length c0, .int .i64 m, .int .i64 q] 24)).alloc (.cells #[.int .i64 p] 3)).alloc (.cells #[.slice none 0 0, .int .i64 0, .int .i64 0] 24)).heap[w.heap.size + 1 + 1]? = some (.cells #[.slice none 0 0, .int .i64 0, .int .i64 0] 24 (0, 0)) from by simpa using blk_new ((w.alloc (.cells #[.slice A0 l0.length c0, .int .i64 m, .int .i64 q] 24)).alloc (.cells #[.int .i64 p] 3)) (.cells #[.slice none 0 0, .int .i64 0, .int .i64 0] 24))
  have HR := Aside0.mk (Kd.C_below hr hB.out)
  have HC := Aside0.mk hc
  have HF := Aside0.mk h
  clear hr hc h
  go_enter Try.func18, Try.ntmps18
  go_upto_region 1 with (fail)
  generalize (((w.alloc (.cells #[.slice A0 l0.length c0, .int .i64 m, .int .i64 q] 24)).alloc (.cells #[.int .i64 p] 3)).alloc (.cells #[.slice none 0 0, .int .i64 0, .int .i64 0] 24)) = w2 at hB hT hA hR HR ⊢
  have t0 := (blk_cell hT.out 0).trans (show _ = some (Value.slice A0 l0.length c0) from rfl)
  have t1 := (blk_cell hT.out 1).trans (show _ = some (Value.int .i64 m) from rfl)
  have t2 := (blk_cell hT.out 2).trans (show _ = some (Value.int .i64 q) from rfl)
  go_upto_region 2 with (first
    | (go_at_call 14; refine (content_Size.calls A0 c0 l0 m q ino r8 r9 _ HR.out HC.out HF.out).mono ?_; rintro e w4 ⟨rfl, hb⟩;
        have T4 := Aside0.mk (blk_below hT.out hb); have A4 := Aside0.mk (blk_below hA.out hb); have R4 := Aside0.mk (blk_below hR.out hb); have B4 := Aside0.mk (below_step hB.out hb); clear hb))
  clear hT hA hR hB HR t0 t1 t2
  have t0 := (blk_cell T4.out 0).trans (show _ = some (Value.slice A0 l0.length c0) from rfl)
  have t1 := (blk_cell T4.out 1).trans (show _ = some (Value.int .i64 m) from rfl)
  have t2 := (blk_cell T4.out 2).trans (show _ = some (Value.int .i64 q) from rfl)
  have a0 := (blk_cell A4.out 0).trans (show _ = some (Value.int .i64 p) from rfl)
  have z0 := (blk_cell R4.out 0).trans (show _ = some (Value.slice none 0 0) from rfl)
  have z1 := (blk_cell R4.out 1).trans (show _ = some (Value.int .i64 0) from rfl)
  have z2 := (blk_cell R4.out 2).trans (show _ = some (Value.int .i64 0) from rfl)
  have qf := fun j => blk_frozen R4.out j
  go_wp2_with fail
  have B := blk_set (blk_set (blk_set R4.out 0 (.slice A0 l0.length c0)) 1 (.int .i64 m)) 2 (.int .i64 q)
  have r0_ := (blk_cell B 0).trans (show _ = some (Value.slice A0 l0.length c0) from rfl)
  have r1_ := (blk_cell B 1).trans (show _ = some (Value.int .i64 m) from rfl)
  have r2_ := (blk_cell B 2).trans (show _ = some (Value.int .i64 q) from rfl)
  exact bodyPost_ret (v := .tuple #[.agg #[.slice A0 l0.length c0, .int .i64 m, .int .i64 q], .int .i64 1]) (by simp [results, Try.results18, go_sem, r0_, r1_, r2_]) rfl ⟨rfl, below_set (g := w.heap.size + 1 + 1) (below_set (g := w.heap.size + 1 + 1) (below_set (g := w.heap.size + 1 + 1) B4.out (by omega) (j := 0) (v := .slice A0 l0.length c0)) (by omega) (j := 1) (v := .int .i64 m)) (by omega) (j := 2) (v := .int .i64 q)⟩
set_option maxHeartbeats 1000000 in
set_option maxRecDepth 100000 in
theorem Cut_far (A0 : Option Addr) (c0 : Nat) (l0 : List S59) (m q ino : Int) (p : Int) (r8 r9 : Int) (w : World) (hr : Kd.C k59 w A0 l0.length l0) (hc : l0.length ≤ c0) (h : content_Size.f l0 m q ino = some (r8, r9)) (h9 : r9 = 0) (hp : ¬ p < 0) (hf : r8 < p) (hf2 : 1000 < p) :
    Calls Try.prog 18 #[.agg #[.slice A0 l0.length c0, .int .i64 m, .int .i64 q], .int .i64 ino, .int .i64 p] w fun e w' => e = .returned (.tuple #[.agg #[.slice A0 l0.length c0, .int .i64 m, .int .i64 q], .int .i64 10]) ∧ Below w.heap.size w w' := by
  have e0 : (r9 != 0) = false := bne_eq_false_iff_eq.2 h9
  have e1 : (r9 == 0) = true := beq_iff_eq.2 h9
  have e2 : decide (p < 0) = false := decide_eq_false hp
  have e3 : decide (r8 < p) = true := decide_eq_true hf
  have e4 : decide (1000 < p) = true := decide_eq_true hf2
  have hu24 := Try.underlying24
  have hu59 := Try.underlying59
  have hB := Aside0.mk (show Below w.heap.size w (((w.alloc (.cells #[.slice A0 l0.length c0, .int .i64 m, .int .i64 q] 24)).alloc (.cells #[.int .i64 p] 3)).alloc (.cells #[.slice none 0 0, .int .i64 0, .int .i64 0] 24)) from below_alloc (below_alloc (below_alloc (Below.refl _ _) _) _) _)
  have hT := Aside0.mk (show (((w.alloc (.cells #[.slice A0 l0.length c0, .int .i64 m, .int .i64 q] 24)).alloc (.cells #[.int .i64 p] 3)).alloc (.cells #[.slice none 0 0, .int .i64 0, .int .i64 0] 24)).heap[w.heap.size]? = some (.cells #[.slice A0 l0.length c0, .int .i64 m, .int .i64 q] 24 (0, 0)) from blk_alloc (blk_alloc (blk_new w _) _) _)
  have hA := Aside0.mk (show (((w.alloc (.cells #[.slice A0 l0.length c0, .int .i64 m, .int .i64 q] 24)).alloc (.cells #[.int .i64 p] 3)).alloc (.cells #[.slice none 0 0, .int .i64 0, .int .i64 0] 24)).heap[w.heap.size + 1]? = some (.cells #[.int .i64 p] 3 (0, 0)) from blk_alloc (by simpa using blk_new (w.alloc (.cells #[.slice A0 l0.length c0, .int .i64 m, .int .i64 q] 24)) (.cells #[.int .i64 p] 3)) _)
  have hR := Aside0.mk (show (((w.alloc (.cells #[.slice A0 l0.length c0, .int .i64 m, .int .i64 q] 24)).alloc (.cells #[.int .i64 p] 3)).alloc (.cells #[.slice none 0 0, .int .i64 0, .int .i64 0] 24)).heap[w.heap.size + 1 + 1]? = some (.cells #[.slice none 0 0, .int .i64 0, .int .i64 0] 24 (0, 0)) from by simpa using blk_new ((w.alloc (.cells #[.slice A0 l0.length c0, .int .i64 m, .int .i64 q] 24)).alloc (.cells #[.int .i64 p] 3)) (.cells #[.slice none 0 0, .int .i64 0, .int .i64 0] 24))
  have HR := Aside0.mk (Kd.C_below hr hB.out)
  have HC := Aside0.mk hc
  have HF := Aside0.mk h
  clear hr hc h
  go_enter Try.func18, Try.ntmps18
  go_upto_region 1 with (fail)
  generalize (((w.alloc (.cells #[.slice A0 l0.length c0, .int .i64 m, .int .i64 q] 24)).alloc (.cells #[.int .i64 p] 3)).alloc (.cells #[.slice none 0 0, .int .i64 0, .int .i64 0] 24)) = w2 at hB hT hA hR HR ⊢
  have t0 := (blk_cell hT.out 0).trans (show _ = some (Value.slice A0 l0.length c0) from rfl)
  have t1 := (blk_cell hT.out 1).trans (show _ = some (Value.int .i64 m) from rfl)
  have t2 := (blk_cell hT.out 2).trans (show _ = some (Value.int .i64 q) from rfl)
  go_upto_region 2 with (first
    | (go_at_call 14; refine (content_Size.calls A0 c0 l0 m q ino r8 r9 _ HR.out HC.out HF.out).mono ?_; rintro e w4 ⟨rfl, hb⟩;
        have T4 := Aside0.mk (blk_below hT.out hb); have A4 := Aside0.mk (blk_below hA.out hb); have R4 := Aside0.mk (blk_below hR.out hb); have B4 := Aside0.mk (below_step hB.out hb); clear hb))
  clear hT hA hR hB HR t0 t1 t2
  have t0 := (blk_cell T4.out 0).trans (show _ = some (Value.slice A0 l0.length c0) from rfl)
  have t1 := (blk_cell T4.out 1).trans (show _ = some (Value.int .i64 m) from rfl)
  have t2 := (blk_cell T4.out 2).trans (show _ = some (Value.int .i64 q) from rfl)
  have a0 := (blk_cell A4.out 0).trans (show _ = some (Value.int .i64 p) from rfl)
  have z0 := (blk_cell R4.out 0).trans (show _ = some (Value.slice none 0 0) from rfl)
  have z1 := (blk_cell R4.out 1).trans (show _ = some (Value.int .i64 0) from rfl)
  have z2 := (blk_cell R4.out 2).trans (show _ = some (Value.int .i64 0) from rfl)
  have qf := fun j => blk_frozen R4.out j
  go_wp2_with fail
  have B := blk_set (blk_set (blk_set R4.out 0 (.slice A0 l0.length c0)) 1 (.int .i64 m)) 2 (.int .i64 q)
  have r0_ := (blk_cell B 0).trans (show _ = some (Value.slice A0 l0.length c0) from rfl)
  have r1_ := (blk_cell B 1).trans (show _ = some (Value.int .i64 m) from rfl)
  have r2_ := (blk_cell B 2).trans (show _ = some (Value.int .i64 q) from rfl)
  exact bodyPost_ret (v := .tuple #[.agg #[.slice A0 l0.length c0, .int .i64 m, .int .i64 q], .int .i64 10]) (by simp [results, Try.results18, go_sem, r0_, r1_, r2_]) rfl ⟨rfl, below_set (g := w.heap.size + 1 + 1) (below_set (g := w.heap.size + 1 + 1) (below_set (g := w.heap.size + 1 + 1) B4.out (by omega) (j := 0) (v := .slice A0 l0.length c0)) (by omega) (j := 1) (v := .int .i64 m)) (by omega) (j := 2) (v := .int .i64 q)⟩
end Go.Proofs.Ytpeelfambaedkaa.P
