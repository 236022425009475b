/- The contracts of content.Write and content.Cut: the way to turned, by hand. -/
import Derived.Test.YtpeelfambaedkaaHl
namespace Go.Proofs.Ytpeelfambaedkaa.P
open Go.RowKit Go.Proofs.YtpeelfambaedkaaW.PrintWords Go.Proofs.YtpeelfambaedkaaW.PrintLast Go.Proofs.YtpeelfambaedkaaW.PrintMore

-- BY mkPm.py
theorem Outcome_low {base base' len : Nat} {want : List Value} {ad : Addr} {c0 : Nat} {code : Int} {A : Option Addr} {c : Nat} {w : World} (h : Outcome base len want ad c0 code A c w) (hb : base' ≤ base) : Outcome base' len want ad c0 code A c w := by
  rcases h with h | ⟨h0, g, cur, h1, h2, h3, h4, h5⟩
  · exact .inl h
  · exact .inr ⟨h0, g, cur, h1, Nat.le_trans hb h2, h3, h4, h5⟩
set_option maxHeartbeats 1000000 in
set_option maxRecDepth 100000 in
theorem Write_go (ad : Addr) (c0 : Nat) (l0 : List S59) (m q : Int) (i : Nat) (A7 : Option Addr) (c7 : Nat) (w : World) (hr : Kd.C k59 w (some ad) l0.length l0) (hi : i < l0.length) (h0 : (rd_T59 l0 (i : Int)).f0 = 1) (h7 : w.cell? ⟨(ad.add (i * 8)).block, (ad.add (i * 8)).off + 7, none⟩ = some (.slice A7 (rd_T59 l0 (i : Int)).f7.length c7)) (p n : Nat) (s : ByteArray) (hs : s.toList ≠ ([] : List UInt8)) (hp : p ≤ 1000) (hsz : s.size ≤ 5000) (hn : p + s.size = n) (code : Int) (want : List Value)
    (hturn : ∀ W : World, Below w.heap.size w W → w.heap.size + 1 + 1 + 1 + 1 ≤ W.heap.size → W.cell? ⟨w.heap.size + 1, 0, none⟩ = some (.int .i64 p) → W.cell? ⟨w.heap.size + 1 + 1, 0, none⟩ = some (.string s) → Calls Try.prog 27 #[.agg #[.slice (some ad) l0.length c0, .int .i64 m, .int .i64 q], .int .i64 i, .int .i64 n, .func (.func 28) #[] #[.pointer (some ⟨w.heap.size + 1, 0, none⟩), .pointer (some ⟨w.heap.size + 1 + 1, 0, none⟩)]] W fun e w' => ∃ (A' : Option Addr) (c' : Nat), e = .returned (.tuple #[.agg #[.slice A' l0.length c', .int .i64 m, .int .i64 q], .int .i64 code]) ∧ Outcome (w.heap.size + 1 + 1 + 1 + 1) l0.length want ad c0 code A' c' w' ∧ Below W.heap.size W w') :
    Calls Try.prog 16 #[.agg #[.slice (some ad) l0.length c0, .int .i64 m, .int .i64 q], .int .i64 i, .int .i64 p, .string s] w fun e w' => ∃ (A' : Option Addr) (c' : Nat), e = .returned (.tuple #[.agg #[.slice A' l0.length c', .int .i64 m, .int .i64 q], .int .i64 code]) ∧ Outcome w.heap.size l0.length want ad c0 code A' c' w' ∧ Below w.heap.size w w' := by
  have e2 : decide ((p : Int) < 0) = false := decide_eq_false (by omega)
  have e3 : (s.toList == ([] : List UInt8)) = false := beq_eq_false_iff_ne.2 hs
  have e4 : decide (1000 < (p : Int)) = false := decide_eq_false (by omega)
  have e5 : (p : Int) + (s.size : Int) = (n : Int) := by omega
  have e6 : IntKind.i64.wrap ((p : Int) + (s.size : Int)) = (n : Int) := by rw [IntKind.wrap_i64]; omega
  clear hs
  have hu24 := Try.underlying24
  have hu59 := Try.underlying59
  have hB := Aside0.mk (show Below w.heap.size w ((((w.alloc (.cells #[.slice (some ad) l0.length c0, .int .i64 m, .int .i64 q] 24)).alloc (.cells #[.int .i64 p] 3)).alloc (.cells #[.string s] 9)).alloc (.cells #[.slice none 0 0, .int .i64 0, .int .i64 0] 24)) from below_alloc (below_alloc (below_alloc (below_alloc (Below.refl _ _) _) _) _) _)
  have hT := Aside0.mk (show ((((w.alloc (.cells #[.slice (some ad) l0.length c0, .int .i64 m, .int .i64 q] 24)).alloc (.cells #[.int .i64 p] 3)).alloc (.cells #[.string s] 9)).alloc (.cells #[.slice none 0 0, .int .i64 0, .int .i64 0] 24)).heap[w.heap.size]? = some (.cells #[.slice (some ad) l0.length c0, .int .i64 m, .int .i64 q] 24 (0, 0)) from blk_alloc (blk_alloc (blk_alloc (blk_new w _) _) _) _)
  have hA := Aside0.mk (show ((((w.alloc (.cells #[.slice (some ad) l0.length c0, .int .i64 m, .int .i64 q] 24)).alloc (.cells #[.int .i64 p] 3)).alloc (.cells #[.string s] 9)).alloc (.cells #[.slice none 0 0, .int .i64 0, .int .i64 0] 24)).heap[w.heap.size + 1]? = some (.cells #[.int .i64 p] 3 (0, 0)) from blk_alloc (blk_alloc (by simpa using blk_new (w.alloc (.cells #[.slice (some ad) l0.length c0, .int .i64 m, .int .i64 q] 24)) (.cells #[.int .i64 p] 3)) _) _)
  have hS := Aside0.mk (show ((((w.alloc (.cells #[.slice (some ad) l0.length c0, .int .i64 m, .int .i64 q] 24)).alloc (.cells #[.int .i64 p] 3)).alloc (.cells #[.string s] 9)).alloc (.cells #[.slice none 0 0, .int .i64 0, .int .i64 0] 24)).heap[w.heap.size + 1 + 1]? = some (.cells #[.string s] 9 (0, 0)) from blk_alloc (by simpa using blk_new ((w.alloc (.cells #[.slice (some ad) l0.length c0, .int .i64 m, .int .i64 q] 24)).alloc (.cells #[.int .i64 p] 3)) (.cells #[.string s] 9)) _)
  have hR := Aside0.mk (show ((((w.alloc (.cells #[.slice (some ad) l0.length c0, .int .i64 m, .int .i64 q] 24)).alloc (.cells #[.int .i64 p] 3)).alloc (.cells #[.string s] 9)).alloc (.cells #[.slice none 0 0, .int .i64 0, .int .i64 0] 24)).heap[w.heap.size + 1 + 1 + 1]? = some (.cells #[.slice none 0 0, .int .i64 0, .int .i64 0] 24 (0, 0)) from by simpa using blk_new (((w.alloc (.cells #[.slice (some ad) l0.length c0, .int .i64 m, .int .i64 q] 24)).alloc (.cells #[.int .i64 p] 3)).alloc (.cells #[.string s] 9)) (.cells #[.slice none 0 0, .int .i64 0, .int .i64 0] 24))
  have HR := Aside0.mk (Kd.C_below hr hB.out)
  have HU := Aside0.mk hturn
  have H7 := Aside0.mk (pw_cell_below hB.out h7)
  have H0 := Aside0.mk h0
  clear hr h7 h0 hturn
  go_enter Try.func16, Try.ntmps16
  go_upto_region 1 with (fail)
  generalize ((((w.alloc (.cells #[.slice (some ad) l0.length c0, .int .i64 m, .int .i64 q] 24)).alloc (.cells #[.int .i64 p] 3)).alloc (.cells #[.string s] 9)).alloc (.cells #[.slice none 0 0, .int .i64 0, .int .i64 0] 24)) = w2 at hB hT hA hS hR HR H7 ⊢
  have t0 := (blk_cell hT.out 0).trans (show _ = some (Value.slice (some ad) l0.length c0) from rfl)
  have t1 := (blk_cell hT.out 1).trans (show _ = some (Value.int .i64 m) from rfl)
  have t2 := (blk_cell hT.out 2).trans (show _ = some (Value.int .i64 q) from rfl)
  go_upto_region 2 with (first
    | (go_at_call 24; refine (File_at ad c0 l0 m q i A7 c7 _ HR.out hi H0.out H7.out).mono ?_; rintro e w3 ⟨rfl, hb⟩;
        have T3 := Aside0.mk (blk_below hT.out hb); have A3 := Aside0.mk (blk_below hA.out hb); have S3 := Aside0.mk (blk_below hS.out hb); have R3 := Aside0.mk (blk_below hR.out hb); have B3 := Aside0.mk (below_step hB.out hb)))
  have T4 := Aside0.mk (blk_alloc T3.out (.cells #[.int .i64 (rd_T59 l0 (i : Int)).f0, .int .i64 (rd_T59 l0 (i : Int)).f1, .int .i64 (rd_T59 l0 (i : Int)).f2, .int .i64 (rd_T59 l0 (i : Int)).f3, .int .i64 (rd_T59 l0 (i : Int)).f4, .int .i64 (rd_T59 l0 (i : Int)).f5, .string (rd_T59 l0 (i : Int)).f6, .slice A7 (rd_T59 l0 (i : Int)).f7.length c7] 59))
  have A4 := Aside0.mk (blk_alloc A3.out (.cells #[.int .i64 (rd_T59 l0 (i : Int)).f0, .int .i64 (rd_T59 l0 (i : Int)).f1, .int .i64 (rd_T59 l0 (i : Int)).f2, .int .i64 (rd_T59 l0 (i : Int)).f3, .int .i64 (rd_T59 l0 (i : Int)).f4, .int .i64 (rd_T59 l0 (i : Int)).f5, .string (rd_T59 l0 (i : Int)).f6, .slice A7 (rd_T59 l0 (i : Int)).f7.length c7] 59))
  have S4 := Aside0.mk (blk_alloc S3.out (.cells #[.int .i64 (rd_T59 l0 (i : Int)).f0, .int .i64 (rd_T59 l0 (i : Int)).f1, .int .i64 (rd_T59 l0 (i : Int)).f2, .int .i64 (rd_T59 l0 (i : Int)).f3, .int .i64 (rd_T59 l0 (i : Int)).f4, .int .i64 (rd_T59 l0 (i : Int)).f5, .string (rd_T59 l0 (i : Int)).f6, .slice A7 (rd_T59 l0 (i : Int)).f7.length c7] 59))
  have R4 := Aside0.mk (blk_alloc R3.out (.cells #[.int .i64 (rd_T59 l0 (i : Int)).f0, .int .i64 (rd_T59 l0 (i : Int)).f1, .int .i64 (rd_T59 l0 (i : Int)).f2, .int .i64 (rd_T59 l0 (i : Int)).f3, .int .i64 (rd_T59 l0 (i : Int)).f4, .int .i64 (rd_T59 l0 (i : Int)).f5, .string (rd_T59 l0 (i : Int)).f6, .slice A7 (rd_T59 l0 (i : Int)).f7.length c7] 59))
  have B4 := Aside0.mk (below_alloc B3.out (.cells #[.int .i64 (rd_T59 l0 (i : Int)).f0, .int .i64 (rd_T59 l0 (i : Int)).f1, .int .i64 (rd_T59 l0 (i : Int)).f2, .int .i64 (rd_T59 l0 (i : Int)).f3, .int .i64 (rd_T59 l0 (i : Int)).f4, .int .i64 (rd_T59 l0 (i : Int)).f5, .string (rd_T59 l0 (i : Int)).f6, .slice A7 (rd_T59 l0 (i : Int)).f7.length c7] 59))
  clear T3 A3 S3 R3 B3 hT hA hS hR hB HR H7 H0 t0 t1 t2 hb
  generalize w3.alloc (.cells #[.int .i64 (rd_T59 l0 (i : Int)).f0, .int .i64 (rd_T59 l0 (i : Int)).f1, .int .i64 (rd_T59 l0 (i : Int)).f2, .int .i64 (rd_T59 l0 (i : Int)).f3, .int .i64 (rd_T59 l0 (i : Int)).f4, .int .i64 (rd_T59 l0 (i : Int)).f5, .string (rd_T59 l0 (i : Int)).f6, .slice A7 (rd_T59 l0 (i : Int)).f7.length c7] 59) = w4 at T4 A4 S4 R4 B4 ⊢
  have t0 := (blk_cell T4.out 0).trans (show _ = some (Value.slice (some ad) l0.length c0) from rfl)
  have t1 := (blk_cell T4.out 1).trans (show _ = some (Value.int .i64 m) from rfl)
  have t2 := (blk_cell T4.out 2).trans (show _ = some (Value.int .i64 q) from rfl)
  have a0 := (blk_cell A4.out 0).trans (show _ = some (Value.int .i64 p) from rfl)
  have s0 := (blk_cell S4.out 0).trans (show _ = some (Value.string s) from rfl)
  have L4 := Aside0.mk (show w.heap.size + 1 + 1 + 1 + 1 ≤ w4.heap.size from blk_lt R4.out)
  go_wp2_with (first
    | (go_at_call 27; refine (HU.out _ B4.out L4.out a0 s0).mono ?_; rintro e w5 ⟨A', c', rfl, ho, hb⟩;
        have R5 := Aside0.mk (blk_below R4.out hb); have O5 := Aside0.mk ho; have B5 := Aside0.mk (below_step B4.out hb); clear ho hb;
        have z0 := (blk_cell R5.out 0).trans (show _ = some (Value.slice none 0 0) from rfl);
        have z1 := (blk_cell R5.out 1).trans (show _ = some (Value.int .i64 0) from rfl);
        have z2 := (blk_cell R5.out 2).trans (show _ = some (Value.int .i64 0) from rfl);
        have qf := fun j => blk_frozen R5.out j))
  have B := blk_set (blk_set (blk_set R5.out 0 (.slice A' l0.length c')) 1 (.int .i64 m)) 2 (.int .i64 q)
  have r0_ := (blk_cell B 0).trans (show _ = some (Value.slice A' l0.length c') from rfl)
  have r1_ := (blk_cell B 1).trans (show _ = some (Value.int .i64 m) from rfl)
  have r2_ := (blk_cell B 2).trans (show _ = some (Value.int .i64 q) from rfl)
  exact bodyPost_ret (v := .tuple #[.agg #[.slice A' l0.length c', .int .i64 m, .int .i64 q], .int .i64 code]) (by simp [results, Try.results16, go_sem, r0_, r1_, r2_]) rfl ⟨A', c', rfl, Outcome_low (Outcome_far (p := ⟨w.heap.size + 1 + 1 + 1, 2, none⟩) (Outcome_far (p := ⟨w.heap.size + 1 + 1 + 1, 1, none⟩) (Outcome_far (p := ⟨w.heap.size + 1 + 1 + 1, 0, none⟩) O5.out (Nat.lt_succ_self _) _) (Nat.lt_succ_self _) _) (Nat.lt_succ_self _) _) (by omega), below_set (g := w.heap.size + 1 + 1 + 1) (below_set (g := w.heap.size + 1 + 1 + 1) (below_set (g := w.heap.size + 1 + 1 + 1) B5.out (by omega) (j := 0) (v := .slice A' l0.length c')) (by omega) (j := 1) (v := .int .i64 m)) (by omega) (j := 2) (v := .int .i64 q)⟩
set_option maxHeartbeats 1000000 in
set_option maxRecDepth 100000 in
theorem Cut_go1 (ad : Addr) (c0 : Nat) (l0 : List S59) (m q : Int) (i : Nat) (w : World) (hr : Kd.C k59 w (some ad) l0.length l0) (hc : l0.length ≤ c0) (r8 : Int) (h : content_Size.f l0 m q (i : Int) = some (r8, 0)) (n : Nat) (hp : ¬ (r8 < (n : Int) ∧ 1000 < (n : Int))) (hp1 : ¬ r8 < (n : Int)) (code : Int) (want : List Value)
    (hturn : ∀ W : World, Below w.heap.size w W → w.heap.size + 1 + 1 + 1 ≤ W.heap.size → W.cell? ⟨w.heap.size + 1, 0, none⟩ = some (.int .i64 n) → Calls Try.prog 27 #[.agg #[.slice (some ad) l0.length c0, .int .i64 m, .int .i64 q], .int .i64 i, .int .i64 n, .func (.func 31) #[] #[.pointer (some ⟨w.heap.size + 1, 0, none⟩)]] W fun e w' => ∃ (A' : Option Addr) (c' : Nat), e = .returned (.tuple #[.agg #[.slice A' l0.length c', .int .i64 m, .int .i64 q], .int .i64 code]) ∧ Outcome (w.heap.size + 1 + 1 + 1) l0.length want ad c0 code A' c' w' ∧ Below W.heap.size W w') :
    Calls Try.prog 18 #[.agg #[.slice (some ad) l0.length c0, .int .i64 m, .int .i64 q], .int .i64 i, .int .i64 n] w fun e w' => ∃ (A' : Option Addr) (c' : Nat), e = .returned (.tuple #[.agg #[.slice A' l0.length c', .int .i64 m, .int .i64 q], .int .i64 code]) ∧ Outcome w.heap.size l0.length want ad c0 code A' c' w' ∧ Below w.heap.size w w' := by
  have e2 : decide ((n : Int) < 0) = false := decide_eq_false (by omega)
  have e3 : decide (r8 < (n : Int)) = false := decide_eq_false hp1
  have hu24 := Try.underlying24
  have hu59 := Try.underlying59
  have hB := Aside0.mk (show Below w.heap.size w (((w.alloc (.cells #[.slice (some ad) l0.length c0, .int .i64 m, .int .i64 q] 24)).alloc (.cells #[.int .i64 (n : Int)] 3)).alloc (.cells #[.slice none 0 0, .int .i64 0, .int .i64 0] 24)) from below_alloc (below_alloc (below_alloc (Below.refl _ _) _) _) _)
  have hT := Aside0.mk (show (((w.alloc (.cells #[.slice (some ad) l0.length c0, .int .i64 m, .int .i64 q] 24)).alloc (.cells #[.int .i64 (n : Int)] 3)).alloc (.cells #[.slice none 0 0, .int .i64 0, .int .i64 0] 24)).heap[w.heap.size]? = some (.cells #[.slice (some ad) l0.length c0, .int .i64 m, .int .i64 q] 24 (0, 0)) from blk_alloc (blk_alloc (blk_new w _) _) _)
  have hA := Aside0.mk (show (((w.alloc (.cells #[.slice (some ad) l0.length c0, .int .i64 m, .int .i64 q] 24)).alloc (.cells #[.int .i64 (n : Int)] 3)).alloc (.cells #[.slice none 0 0, .int .i64 0, .int .i64 0] 24)).heap[w.heap.size + 1]? = some (.cells #[.int .i64 (n : Int)] 3 (0, 0)) from blk_alloc (by simpa using blk_new (w.alloc (.cells #[.slice (some ad) l0.length c0, .int .i64 m, .int .i64 q] 24)) (.cells #[.int .i64 (n : Int)] 3)) _)
  have hR := Aside0.mk (show (((w.alloc (.cells #[.slice (some ad) l0.length c0, .int .i64 m, .int .i64 q] 24)).alloc (.cells #[.int .i64 (n : Int)] 3)).alloc (.cells #[.slice none 0 0, .int .i64 0, .int .i64 0] 24)).heap[w.heap.size + 1 + 1]? = some (.cells #[.slice none 0 0, .int .i64 0, .int .i64 0] 24 (0, 0)) from by simpa using blk_new ((w.alloc (.cells #[.slice (some ad) l0.length c0, .int .i64 m, .int .i64 q] 24)).alloc (.cells #[.int .i64 (n : Int)] 3)) (.cells #[.slice none 0 0, .int .i64 0, .int .i64 0] 24))
  have HR := Aside0.mk (Kd.C_below hr hB.out)
  have HU := Aside0.mk hturn
  have HC := Aside0.mk hc
  have HF := Aside0.mk h
  clear hr hc h hturn
  go_enter Try.func18, Try.ntmps18
  go_upto_region 1 with (fail)
  generalize (((w.alloc (.cells #[.slice (some ad) l0.length c0, .int .i64 m, .int .i64 q] 24)).alloc (.cells #[.int .i64 (n : Int)] 3)).alloc (.cells #[.slice none 0 0, .int .i64 0, .int .i64 0] 24)) = w2 at hB hT hA hR HR ⊢
  have t0 := (blk_cell hT.out 0).trans (show _ = some (Value.slice (some ad) l0.length c0) from rfl)
  have t1 := (blk_cell hT.out 1).trans (show _ = some (Value.int .i64 m) from rfl)
  have t2 := (blk_cell hT.out 2).trans (show _ = some (Value.int .i64 q) from rfl)
  go_upto_region 2 with (first
    | (go_at_call 14; refine (content_Size.calls (some ad) c0 l0 m q (i : Int) r8 0 _ HR.out HC.out HF.out).mono ?_; rintro e w4 ⟨rfl, hb⟩;
        have T4 := Aside0.mk (blk_below hT.out hb); have A4 := Aside0.mk (blk_below hA.out hb); have R4 := Aside0.mk (blk_below hR.out hb); have B4 := Aside0.mk (below_step hB.out hb); clear hb))
  clear hT hA hR hB HR t0 t1 t2
  have t0 := (blk_cell T4.out 0).trans (show _ = some (Value.slice (some ad) l0.length c0) from rfl)
  have t1 := (blk_cell T4.out 1).trans (show _ = some (Value.int .i64 m) from rfl)
  have t2 := (blk_cell T4.out 2).trans (show _ = some (Value.int .i64 q) from rfl)
  have a0 := (blk_cell A4.out 0).trans (show _ = some (Value.int .i64 n) from rfl)
  have L4 := Aside0.mk (show w.heap.size + 1 + 1 + 1 ≤ w4.heap.size from blk_lt R4.out)
  go_wp2_with (first
    | (go_at_call 27; refine (HU.out _ B4.out L4.out a0).mono ?_; rintro e w5 ⟨A', c', rfl, ho, hb⟩;
        have R5 := Aside0.mk (blk_below R4.out hb); have O5 := Aside0.mk ho; have B5 := Aside0.mk (below_step B4.out hb); clear ho hb;
        have z0 := (blk_cell R5.out 0).trans (show _ = some (Value.slice none 0 0) from rfl);
        have z1 := (blk_cell R5.out 1).trans (show _ = some (Value.int .i64 0) from rfl);
        have z2 := (blk_cell R5.out 2).trans (show _ = some (Value.int .i64 0) from rfl);
        have qf := fun j => blk_frozen R5.out j))
  have B := blk_set (blk_set (blk_set R5.out 0 (.slice A' l0.length c')) 1 (.int .i64 m)) 2 (.int .i64 q)
  have r0_ := (blk_cell B 0).trans (show _ = some (Value.slice A' l0.length c') from rfl)
  have r1_ := (blk_cell B 1).trans (show _ = some (Value.int .i64 m) from rfl)
  have r2_ := (blk_cell B 2).trans (show _ = some (Value.int .i64 q) from rfl)
  exact bodyPost_ret (v := .tuple #[.agg #[.slice A' l0.length c', .int .i64 m, .int .i64 q], .int .i64 code]) (by simp [results, Try.results18, go_sem, r0_, r1_, r2_]) rfl ⟨A', c', rfl, Outcome_low (Outcome_far (p := ⟨w.heap.size + 1 + 1, 2, none⟩) (Outcome_far (p := ⟨w.heap.size + 1 + 1, 1, none⟩) (Outcome_far (p := ⟨w.heap.size + 1 + 1, 0, none⟩) O5.out (Nat.lt_succ_self _) _) (Nat.lt_succ_self _) _) (Nat.lt_succ_self _) _) (by omega), below_set (g := w.heap.size + 1 + 1) (below_set (g := w.heap.size + 1 + 1) (below_set (g := w.heap.size + 1 + 1) B5.out (by omega) (j := 0) (v := .slice A' l0.length c')) (by omega) (j := 1) (v := .int .i64 m)) (by omega) (j := 2) (v := .int .i64 q)⟩
set_option maxHeartbeats 1000000 in
set_option maxRecDepth 100000 in
theorem Cut_go2 (ad : Addr) (c0 : Nat) (l0 : List S59) (m q : Int) (i : Nat) (w : World) (hr : Kd.C k59 w (some ad) l0.length l0) (hc : l0.length ≤ c0) (r8 : Int) (h : content_Size.f l0 m q (i : Int) = some (r8, 0)) (n : Nat) (hp : ¬ (r8 < (n : Int) ∧ 1000 < (n : Int))) (hp1 : r8 < (n : Int)) (code : Int) (want : List Value)
    (hturn : ∀ W : World, Below w.heap.size w W → w.heap.size + 1 + 1 + 1 ≤ W.heap.size → W.cell? ⟨w.heap.size + 1, 0, none⟩ = some (.int .i64 n) → Calls Try.prog 27 #[.agg #[.slice (some ad) l0.length c0, .int .i64 m, .int .i64 q], .int .i64 i, .int .i64 n, .func (.func 31) #[] #[.pointer (some ⟨w.heap.size + 1, 0, none⟩)]] W fun e w' => ∃ (A' : Option Addr) (c' : Nat), e = .returned (.tuple #[.agg #[.slice A' l0.length c', .int .i64 m, .int .i64 q], .int .i64 code]) ∧ Outcome (w.heap.size + 1 + 1 + 1) l0.length want ad c0 code A' c' w' ∧ Below W.heap.size W w') :
    Calls Try.prog 18 #[.agg #[.slice (some ad) l0.length c0, .int .i64 m, .int .i64 q], .int .i64 i, .int .i64 n] w fun e w' => ∃ (A' : Option Addr) (c' : Nat), e = .returned (.tuple #[.agg #[.slice A' l0.length c', .int .i64 m, .int .i64 q], .int .i64 code]) ∧ Outcome w.heap.size l0.length want ad c0 code A' c' w' ∧ Below w.heap.size w w' := by
  have e2 : decide ((n : Int) < 0) = false := decide_eq_false (by omega)
  have e3 : decide (r8 < (n : Int)) = true := decide_eq_true hp1
  have e4 : decide (1000 < (n : Int)) = false := decide_eq_false (fun h => hp ⟨hp1, h⟩)
  have hu24 := Try.underlying24
  have hu59 := Try.underlying59
  have hB := Aside0.mk (show Below w.heap.size w (((w.alloc (.cells #[.slice (some ad) l0.length c0, .int .i64 m, .int .i64 q] 24)).alloc (.cells #[.int .i64 (n : Int)] 3)).alloc (.cells #[.slice none 0 0, .int .i64 0, .int .i64 0] 24)) from below_alloc (below_alloc (below_alloc (Below.refl _ _) _) _) _)
  have hT := Aside0.mk (show (((w.alloc (.cells #[.slice (some ad) l0.length c0, .int .i64 m, .int .i64 q] 24)).alloc (.cells #[.int .i64 (n : Int)] 3)).alloc (.cells #[.slice none 0 0, .int .i64 0, .int .i64 0] 24)).heap[w.heap.size]? = some (.cells #[.slice (some ad) l0.length c0, .int .i64 m, .int .i64 q] 24 (0, 0)) from blk_alloc (blk_alloc (blk_new w _) _) _)
  have hA := Aside0.mk (show (((w.alloc (.cells #[.slice (some ad) l0.length c0, .int .i64 m, .int .i64 q] 24)).alloc (.cells #[.int .i64 (n : Int)] 3)).alloc (.cells #[.slice none 0 0, .int .i64 0, .int .i64 0] 24)).heap[w.heap.size + 1]? = some (.cells #[.int .i64 (n : Int)] 3 (0, 0)) from blk_alloc (by simpa using blk_new (w.alloc (.cells #[.slice (some ad) l0.length c0, .int .i64 m, .int .i64 q] 24)) (.cells #[.int .i64 (n : Int)] 3)) _)
  have hR := Aside0.mk (show (((w.alloc (.cells #[.slice (some ad) l0.length c0, .int .i64 m, .int .i64 q] 24)).alloc (.cells #[.int .i64 (n : Int)] 3)).alloc (.cells #[.slice none 0 0, .int .i64 0, .int .i64 0] 24)).heap[w.heap.size + 1 + 1]? = some (.cells #[.slice none 0 0, .int .i64 0, .int .i64 0] 24 (0, 0)) from by simpa using blk_new ((w.alloc (.cells #[.slice (some ad) l0.length c0, .int .i64 m, .int .i64 q] 24)).alloc (.cells #[.int .i64 (n : Int)] 3)) (.cells #[.slice none 0 0, .int .i64 0, .int .i64 0] 24))
  have HR := Aside0.mk (Kd.C_below hr hB.out)
  have HU := Aside0.mk hturn
  have HC := Aside0.mk hc
  have HF := Aside0.mk h
  clear hr hc h hturn
  go_enter Try.func18, Try.ntmps18
  go_upto_region 1 with (fail)
  generalize (((w.alloc (.cells #[.slice (some ad) l0.length c0, .int .i64 m, .int .i64 q] 24)).alloc (.cells #[.int .i64 (n : Int)] 3)).alloc (.cells #[.slice none 0 0, .int .i64 0, .int .i64 0] 24)) = w2 at hB hT hA hR HR ⊢
  have t0 := (blk_cell hT.out 0).trans (show _ = some (Value.slice (some ad) l0.length c0) from rfl)
  have t1 := (blk_cell hT.out 1).trans (show _ = some (Value.int .i64 m) from rfl)
  have t2 := (blk_cell hT.out 2).trans (show _ = some (Value.int .i64 q) from rfl)
  go_upto_region 2 with (first
    | (go_at_call 14; refine (content_Size.calls (some ad) c0 l0 m q (i : Int) r8 0 _ HR.out HC.out HF.out).mono ?_; rintro e w4 ⟨rfl, hb⟩;
        have T4 := Aside0.mk (blk_below hT.out hb); have A4 := Aside0.mk (blk_below hA.out hb); have R4 := Aside0.mk (blk_below hR.out hb); have B4 := Aside0.mk (below_step hB.out hb); clear hb))
  clear hT hA hR hB HR t0 t1 t2
  have t0 := (blk_cell T4.out 0).trans (show _ = some (Value.slice (some ad) l0.length c0) from rfl)
  have t1 := (blk_cell T4.out 1).trans (show _ = some (Value.int .i64 m) from rfl)
  have t2 := (blk_cell T4.out 2).trans (show _ = some (Value.int .i64 q) from rfl)
  have a0 := (blk_cell A4.out 0).trans (show _ = some (Value.int .i64 n) from rfl)
  have L4 := Aside0.mk (show w.heap.size + 1 + 1 + 1 ≤ w4.heap.size from blk_lt R4.out)
  go_wp2_with (first
    | (go_at_call 27; refine (HU.out _ B4.out L4.out a0).mono ?_; rintro e w5 ⟨A', c', rfl, ho, hb⟩;
        have R5 := Aside0.mk (blk_below R4.out hb); have O5 := Aside0.mk ho; have B5 := Aside0.mk (below_step B4.out hb); clear ho hb;
        have z0 := (blk_cell R5.out 0).trans (show _ = some (Value.slice none 0 0) from rfl);
        have z1 := (blk_cell R5.out 1).trans (show _ = some (Value.int .i64 0) from rfl);
        have z2 := (blk_cell R5.out 2).trans (show _ = some (Value.int .i64 0) from rfl);
        have qf := fun j => blk_frozen R5.out j))
  have B := blk_set (blk_set (blk_set R5.out 0 (.slice A' l0.length c')) 1 (.int .i64 m)) 2 (.int .i64 q)
  have r0_ := (blk_cell B 0).trans (show _ = some (Value.slice A' l0.length c') from rfl)
  have r1_ := (blk_cell B 1).trans (show _ = some (Value.int .i64 m) from rfl)
  have r2_ := (blk_cell B 2).trans (show _ = some (Value.int .i64 q) from rfl)
  exact bodyPost_ret (v := .tuple #[.agg #[.slice A' l0.length c', .int .i64 m, .int .i64 q], .int .i64 code]) (by simp [results, Try.results18, go_sem, r0_, r1_, r2_]) rfl ⟨A', c', rfl, Outcome_low (Outcome_far (p := ⟨w.heap.size + 1 + 1, 2, none⟩) (Outcome_far (p := ⟨w.heap.size + 1 + 1, 1, none⟩) (Outcome_far (p := ⟨w.heap.size + 1 + 1, 0, none⟩) O5.out (Nat.lt_succ_self _) _) (Nat.lt_succ_self _) _) (Nat.lt_succ_self _) _) (by omega), below_set (g := w.heap.size + 1 + 1) (below_set (g := w.heap.size + 1 + 1) (below_set (g := w.heap.size + 1 + 1) B5.out (by omega) (j := 0) (v := .slice A' l0.length c')) (by omega) (j := 1) (v := .int .i64 m)) (by omega) (j := 2) (v := .int .i64 q)⟩
end Go.Proofs.Ytpeelfambaedkaa.P
