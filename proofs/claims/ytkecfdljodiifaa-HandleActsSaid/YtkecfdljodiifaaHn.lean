/- The contracts of Dup, by hand: a descriptor is doubled; the table is short enough for memory. -/
import Derived.Test.YtkecfdljodiifaaHm
import Derived.Test.YtkecfdljodiifaaPhandleGet
namespace Go.Proofs.Ytkecfdljodiifaa.P
open Go.RowKit Go.Proofs.YtkecfdljodiifaaW.PrintWords Go.Proofs.YtkecfdljodiifaaW.PrintLast Go.Proofs.YtkecfdljodiifaaW.PrintMore

theorem get_true {l0 : List S38} {l1 : List (List Int)} {p d r1 r2 r3 : Int} {r4 r5 : Bool} {r6 r7 : Int} (h : handle_Get.f l0 l1 p d = some (r1, r2, r3, r4, r5, r6, r7, true)) :
    0 ≤ p ∧ p < (l1.length : Int) ∧ 0 ≤ d ∧ d < ((rd_L1 l1 p).length : Int) ∧ 0 ≤ r1 ∧ r1 < (l0.length : Int) ∧ r1 = rd (rd_L1 l1 p) d ∧ rd_T38 l0 r1 = ⟨r2, r3, r4, r5, r6, r7⟩ := by
  unfold handle_Get.f handle_Table_row.f at h
  by_cases c1 : p < 0
  · rw [if_pos c1, Option.bind_some] at h
    exfalso
    repeat (split at h <;> try (simp at h; done))
    all_goals (rename_i h1 h2 h3 h4 h5 h6 h7; simp at h4; omega)
  · rw [if_neg c1] at h
    by_cases c2 : p ≥ (l1.length : Int)
    · rw [if_pos c2, Option.bind_some] at h
      exfalso
      repeat (split at h <;> try (simp at h; done))
      all_goals (rename_i h1 h2 h3 h4 h5 h6 h7; simp at h4; omega)
    · rw [if_neg c2, if_pos (by omega), if_pos (by omega), Option.bind_some] at h
      repeat (split at h <;> try (simp at h; done))
      rename_i h1 h2 h3 h4 h5 h6 h7
      simp only [Option.some.injEq, Prod.mk.injEq] at h
      obtain ⟨rfl, rfl, rfl, rfl, rfl, rfl, rfl, _⟩ := h
      exact ⟨by omega, by omega, h3, h4, h6, h7, rfl, rfl⟩
theorem get_nat {l0 : List S38} {l1 : List (List Int)} {p d r1 r2 r3 : Int} {r4 r5 : Bool} {r6 r7 : Int} (h : handle_Get.f l0 l1 p d = some (r1, r2, r3, r4, r5, r6, r7, true)) : ∃ i : Nat, r1 = (i : Int) :=
  ⟨r1.toNat, by have := get_true h; omega⟩

set_option maxHeartbeats 1000000 in
set_option maxRecDepth 100000 in
theorem Dup_bad (A0 : Option Addr) (c0 : Nat) (l0 : List S38) (A1 : Option Addr) (c1 : Nat) (l1 : List (List Int)) (p d r1 r2 r3 : Int) (r4 r5 : Bool) (r6 r7 : Int) (w : World) (hr0 : Kd.C k38 w A0 l0.length l0) (hc0 : l0.length ≤ c0) (hr1 : Kd.C (Kd.slice 3 (Kd.int .i64)) w A1 l1.length l1) (hc1 : l1.length ≤ c1) (hg : handle_Get.f l0 l1 p d = some (r1, r2, r3, r4, r5, r6, r7, false)) :
    Calls Try.prog 24 #[.agg #[.slice A0 l0.length c0, .slice A1 l1.length c1], .int .i64 p, .int .i64 d] w fun e w' =>
      e = .returned (.tuple #[.agg #[.slice A0 l0.length c0, .slice A1 l1.length c1], .int .i64 0, .int .i64 12]) ∧ Below w.heap.size w w' := by
  have hu25 := Try.underlying25
  have hu38 := Try.underlying38
  have HR0 := Aside0.mk hr0
  have HR1 := Aside0.mk hr1
  have HC0 := Aside0.mk hc0
  have HC1 := Aside0.mk hc1
  have HG := Aside0.mk hg
  have W3 : ∃ w3, w3 = (w.alloc (.cells #[.slice A0 l0.length c0, .slice A1 l1.length c1] 25)).alloc (.cells #[.slice none 0 0, .slice none 0 0] 25) := ⟨_, rfl⟩
  clear hr0 hr1 hc0 hc1 hg
  go_enter Try.func24, Try.ntmps24
  go_upto_region 1 with (fail)
  obtain ⟨w3, E3⟩ := W3
  have hB := Aside0.mk (show Below w.heap.size w w3 by rw [E3]; exact below_alloc (below_alloc (Below.refl _ _) _) _)
  have hT := Aside0.mk (show w3.heap[w.heap.size]? = some (.cells #[.slice A0 l0.length c0, .slice A1 l1.length c1] 25 (0, 0)) by rw [E3]; exact blk_alloc (blk_new w _) _)
  have hR := Aside0.mk (show w3.heap[w.heap.size + 1]? = some (.cells #[.slice none 0 0, .slice none 0 0] 25 (0, 0)) by rw [E3]; simpa using blk_new (w.alloc (.cells #[.slice A0 l0.length c0, .slice A1 l1.length c1] 25)) (.cells #[.slice none 0 0, .slice none 0 0] 25))
  rw [← E3]
  clear E3
  have ht0 := (blk_cell hT.out 0).trans (show _ = some (Value.slice A0 l0.length c0) from rfl)
  have ht1 := (blk_cell hT.out 1).trans (show _ = some (Value.slice A1 l1.length c1) from rfl)
  go_upto_region 2 with (first | (go_at_call 20; refine (handle_Get.calls A0 c0 l0 A1 c1 l1 p d r1 r2 r3 r4 r5 r6 r7 false _ (Kd.C_below HR0.out hB.out) HC0.out (Kd.C_below HR1.out hB.out) HC1.out HG.out).mono ?_; rintro e w4 ⟨rfl, hb4⟩))
  have T4 := Aside0.mk (blk_below hT.out hb4)
  have R4 := Aside0.mk (blk_below hR.out hb4)
  have B4 := Aside0.mk (below_step hB.out hb4)
  clear hb4 hT hR hB ht0 ht1
  have T5 := Aside0.mk (blk_alloc T4.out (.cells #[.int .i64 r2, .int .i64 r3, .bool r4, .bool r5, .int .i64 r6, .int .i64 r7] 38))
  have R5 := Aside0.mk (blk_alloc R4.out (.cells #[.int .i64 r2, .int .i64 r3, .bool r4, .bool r5, .int .i64 r6, .int .i64 r7] 38))
  have B5 := Aside0.mk (below_alloc B4.out (.cells #[.int .i64 r2, .int .i64 r3, .bool r4, .bool r5, .int .i64 r6, .int .i64 r7] 38))
  clear T4 R4 B4
  generalize (w4.alloc (.cells #[.int .i64 r2, .int .i64 r3, .bool r4, .bool r5, .int .i64 r6, .int .i64 r7] 38)) = w5 at T5 R5 B5 ⊢
  generalize w4.heap.size = gx
  have ht0 := (blk_cell T5.out 0).trans (show _ = some (Value.slice A0 l0.length c0) from rfl)
  have ht1 := (blk_cell T5.out 1).trans (show _ = some (Value.slice A1 l1.length c1) from rfl)
  have q0 := blk_frozen R5.out 0
  have q1 := blk_frozen R5.out 1
  have z0 := (blk_cell R5.out 0).trans (show _ = some (Value.slice none 0 0) from rfl)
  have z1 := (blk_cell R5.out 1).trans (show _ = some (Value.slice none 0 0) from rfl)
  go_wp2_with fail
  have B := blk_set (blk_set R5.out 0 (.slice A0 l0.length c0)) 1 (.slice A1 l1.length c1)
  have r0_ := (blk_cell B 0).trans (show _ = some (Value.slice A0 l0.length c0) from rfl)
  have r1_ := (blk_cell B 1).trans (show _ = some (Value.slice A1 l1.length c1) from rfl)
  refine bodyPost_ret (v := .tuple #[.agg #[.slice A0 l0.length c0, .slice A1 l1.length c1], .int .i64 0, .int .i64 12]) (by simp [results, Try.results24, go_sem, r0_, r1_]) rfl ?_
  exact ⟨rfl, below_set (below_set B5.out (by omega)) (by omega)⟩

set_option maxHeartbeats 1000000 in
set_option maxRecDepth 100000 in
theorem Dup_many (ad1 ar : Addr) (k cr : Nat) (row : List Int) (q : Nat) (r : Int) (A0 : Option Addr) (c0 : Nat) (l0 : List S38) (c1 : Nat) (l1 : List (List Int)) (d r1 r2 r3 : Int) (r4 r5 : Bool) (r6 r7 : Int) (w : World) (hr0 : Kd.C k38 w A0 l0.length l0) (hc0 : l0.length ≤ c0) (hr1 : Kd.C (Kd.slice 3 (Kd.int .i64)) w (some ad1) l1.length l1) (hc1 : l1.length ≤ c1) (hg : handle_Get.f l0 l1 (k : Int) d = some (r1, r2, r3, r4, r5, r6, r7, true)) (hk : k < l1.length)
    (hu : w.cell? (ad1.add k) = some (.slice (some ar) row.length cr)) (hc : row.length ≤ cr) (hrow : Kd.C (Kd.int .i64) w (some ar) row.length row) (hi : slices_Index_int_int.f q row (-1) = some r) (hr : r < 0) :
    Calls Try.prog 24 #[.agg #[.slice A0 l0.length c0, .slice (some ad1) l1.length c1], .int .i64 k, .int .i64 d] w fun e w' =>
      e = .returned (.tuple #[.agg #[.slice A0 l0.length c0, .slice (some ad1) l1.length c1], .int .i64 0, .int .i64 13]) ∧ Below w.heap.size w w' := by
  have hu25 := Try.underlying25
  have hu38 := Try.underlying38
  have HR0 := Aside0.mk hr0
  have HR1 := Aside0.mk hr1
  have HC0 := Aside0.mk hc0
  have HC1 := Aside0.mk hc1
  have HG := Aside0.mk hg
  have HU := Aside0.mk hu
  have HRW := Aside0.mk hrow
  have HX := Aside0.mk hi
  have HQ := Aside0.mk hr
  have HM := Aside0.mk hr1.2.1
  clear hu hrow hi hr
  have W3 : ∃ w3, w3 = (w.alloc (.cells #[.slice A0 l0.length c0, .slice (some ad1) l1.length c1] 25)).alloc (.cells #[.slice none 0 0, .slice none 0 0] 25) := ⟨_, rfl⟩
  clear hr0 hr1 hc0 hc1 hg
  go_enter Try.func24, Try.ntmps24
  go_upto_region 1 with (fail)
  obtain ⟨w3, E3⟩ := W3
  have hB := Aside0.mk (show Below w.heap.size w w3 by rw [E3]; exact below_alloc (below_alloc (Below.refl _ _) _) _)
  have hT := Aside0.mk (show w3.heap[w.heap.size]? = some (.cells #[.slice A0 l0.length c0, .slice (some ad1) l1.length c1] 25 (0, 0)) by rw [E3]; exact blk_alloc (blk_new w _) _)
  have hR := Aside0.mk (show w3.heap[w.heap.size + 1]? = some (.cells #[.slice none 0 0, .slice none 0 0] 25 (0, 0)) by rw [E3]; simpa using blk_new (w.alloc (.cells #[.slice A0 l0.length c0, .slice (some ad1) l1.length c1] 25)) (.cells #[.slice none 0 0, .slice none 0 0] 25))
  rw [← E3]
  clear E3
  have ht0 := (blk_cell hT.out 0).trans (show _ = some (Value.slice A0 l0.length c0) from rfl)
  have ht1 := (blk_cell hT.out 1).trans (show _ = some (Value.slice (some ad1) l1.length c1) from rfl)
  go_upto_region 2 with (first | (go_at_call 20; refine (handle_Get.calls A0 c0 l0 (some ad1) c1 l1 k d r1 r2 r3 r4 r5 r6 r7 true _ (Kd.C_below HR0.out hB.out) HC0.out (Kd.C_below HR1.out hB.out) HC1.out HG.out).mono ?_; rintro e w4 ⟨rfl, hb4⟩))
  have T4 := Aside0.mk (blk_below hT.out hb4)
  have R4 := Aside0.mk (blk_below hR.out hb4)
  have B4 := Aside0.mk (below_step hB.out hb4)
  clear hb4 hT hR hB ht0 ht1
  have T5 := Aside0.mk (blk_alloc T4.out (.cells #[.int .i64 r2, .int .i64 r3, .bool r4, .bool r5, .int .i64 r6, .int .i64 r7] 38))
  have R5 := Aside0.mk (blk_alloc R4.out (.cells #[.int .i64 r2, .int .i64 r3, .bool r4, .bool r5, .int .i64 r6, .int .i64 r7] 38))
  have B5 := Aside0.mk (below_alloc B4.out (.cells #[.int .i64 r2, .int .i64 r3, .bool r4, .bool r5, .int .i64 r6, .int .i64 r7] 38))
  clear T4 R4 B4
  generalize (w4.alloc (.cells #[.int .i64 r2, .int .i64 r3, .bool r4, .bool r5, .int .i64 r6, .int .i64 r7] 38)) = w5 at T5 R5 B5 ⊢
  generalize w4.heap.size = gx
  have ht0 := (blk_cell T5.out 0).trans (show _ = some (Value.slice A0 l0.length c0) from rfl)
  have ht1 := (blk_cell T5.out 1).trans (show _ = some (Value.slice (some ad1) l1.length c1) from rfl)
  have U5 := Aside0.mk (pw_cell_below B5.out HU.out)
  have hneg : ∃ i : Nat, r1 = (i : Int) := get_nat HG.out
  obtain ⟨i, rfl⟩ := hneg
  go_wp2_with (first
    | (go_at_call 37; refine (refer_many A0 c0 l0.length ad1 ar c1 l1.length k cr row q r (i : Int) _ _ hk HM.out U5.out hc (Kd.C_below HRW.out B5.out) HX.out HQ.out).mono ?_; rintro e w8 ⟨rfl, hb8⟩;
        have R8 := Aside0.mk (blk_below R5.out hb8); have B8 := Aside0.mk (below_step B5.out hb8);
        have q0 := blk_frozen R8.out 0; have q1 := blk_frozen R8.out 1; have z0 := (blk_cell R8.out 0).trans (show _ = some (Value.slice none 0 0) from rfl); have z1 := (blk_cell R8.out 1).trans (show _ = some (Value.slice none 0 0) from rfl)))
  have B := blk_set (blk_set R8.out 0 (.slice A0 l0.length c0)) 1 (.slice (some ad1) l1.length c1)
  have r0_ := (blk_cell B 0).trans (show _ = some (Value.slice A0 l0.length c0) from rfl)
  have r1_ := (blk_cell B 1).trans (show _ = some (Value.slice (some ad1) l1.length c1) from rfl)
  refine bodyPost_ret (v := .tuple #[.agg #[.slice A0 l0.length c0, .slice (some ad1) l1.length c1], .int .i64 0, .int .i64 13]) (by simp [results, Try.results24, go_sem, r0_, r1_]) rfl ?_
  exact ⟨rfl, below_set (below_set B8.out (by omega)) (by omega)⟩

/-- what Dup hands back where there is a descriptor: the description refers once more -/
def Doubled (A : Nat) (l0 : List S38) (i fd k n1 : Nat) (cf : List Value) (row : List Int) (e : Ending) (w' : World) : Prop :=
  ∃ gd gf gr : Nat,
      e = .returned (.tuple #[.agg #[.slice (some ⟨gd, 0, none⟩) l0.length l0.length, .slice (some ⟨gf, 0, none⟩) n1 n1], .int .i64 fd, .int .i64 0]) ∧ A ≤ gd ∧ A ≤ gf ∧ A ≤ gr ∧
      w'.heap[gd]? = some (.cells (cells38 (l0.set i { rd_T38 l0 (i : Int) with f4 := wrap64 ((rd_T38 l0 (i : Int)).f4 + 1) })).toArray 38 (0, 0)) ∧ w'.heap[gf]? = some (.cells (cf.set k (.slice (some ⟨gr, 0, none⟩) row.length row.length)).toArray 64 (0, 0)) ∧
      w'.heap[gr]? = some (.cells ((row.set fd (i : Int)).map (Value.int .i64)).toArray 3 (0, 0))
set_option maxHeartbeats 2000000 in
set_option maxRecDepth 100000 in
theorem Dup_ok (ad1 ar : Addr) (k cr : Nat) (cf : List Value) (row : List Int) (q fd i : Nat) (A0 : Option Addr) (c0 : Nat) (l0 : List S38) (c1 : Nat) (l1 : List (List Int)) (d r2 r3 : Int) (r4 r5 : Bool) (r6 r7 : Int) (w : World) (hr0 : Kd.C k38 w A0 l0.length l0) (hc0 : l0.length ≤ c0) (hr1 : Kd.C (Kd.slice 3 (Kd.int .i64)) w (some ad1) l1.length l1) (hc1 : l1.length ≤ c1) (hg : handle_Get.f l0 l1 (k : Int) d = some ((i : Int), r2, r3, r4, r5, r6, r7, true)) (hk : k < l1.length) (hi : i < l0.length) (hfd : fd < row.length)
    (hb0 : l0.length ≤ 1000) (hb1 : l1.length ≤ 1000) (hbr : row.length ≤ 1000) (hf : cf.length = l1.length * 1) (sf : ∀ j u, cf[j]? = some u → w.cell? (ad1.add j) = some u) (of : ∀ u ∈ cf, u.oneCell' = true)
    (hck : cf[k]? = some (.slice (some ar) row.length cr)) (hc : row.length ≤ cr) (hrow : Kd.C (Kd.int .i64) w (some ar) row.length row) (hx : slices_Index_int_int.f q row (-1) = some (fd : Int)) :
    Calls Try.prog 24 #[.agg #[.slice A0 l0.length c0, .slice (some ad1) l1.length c1], .int .i64 k, .int .i64 d] w fun e w' => Doubled w.heap.size l0 i fd k l1.length cf row e w' ∧ Below w.heap.size w w' := by
  have hu25 := Try.underlying25
  have hu38 := Try.underlying38
  have HR0 := Aside0.mk hr0
  have HR1 := Aside0.mk hr1
  have HC0 := Aside0.mk hc0
  have HC1 := Aside0.mk hc1
  have HG := Aside0.mk hg
  have HRW := Aside0.mk hrow
  have HX := Aside0.mk hx
  have HF := Aside0.mk hf
  have SF := Aside0.mk sf
  have OF := Aside0.mk of
  have CK := Aside0.mk hck
  have HB0 := Aside0.mk hb0
  clear hrow hx hf sf of hck hb0
  have W3 : ∃ w3, w3 = (w.alloc (.cells #[.slice A0 l0.length c0, .slice (some ad1) l1.length c1] 25)).alloc (.cells #[.slice none 0 0, .slice none 0 0] 25) := ⟨_, rfl⟩
  clear hr0 hr1 hc0 hc1 hg
  go_enter Try.func24, Try.ntmps24
  go_upto_region 1 with (fail)
  obtain ⟨w3, E3⟩ := W3
  have hB := Aside0.mk (show Below w.heap.size w w3 by rw [E3]; exact below_alloc (below_alloc (Below.refl _ _) _) _)
  have hT := Aside0.mk (show w3.heap[w.heap.size]? = some (.cells #[.slice A0 l0.length c0, .slice (some ad1) l1.length c1] 25 (0, 0)) by rw [E3]; exact blk_alloc (blk_new w _) _)
  have hR := Aside0.mk (show w3.heap[w.heap.size + 1]? = some (.cells #[.slice none 0 0, .slice none 0 0] 25 (0, 0)) by rw [E3]; simpa using blk_new (w.alloc (.cells #[.slice A0 l0.length c0, .slice (some ad1) l1.length c1] 25)) (.cells #[.slice none 0 0, .slice none 0 0] 25))
  rw [← E3]
  clear E3
  have ht0 := (blk_cell hT.out 0).trans (show _ = some (Value.slice A0 l0.length c0) from rfl)
  have ht1 := (blk_cell hT.out 1).trans (show _ = some (Value.slice (some ad1) l1.length c1) from rfl)
  go_upto_region 2 with (first | (go_at_call 20; refine (handle_Get.calls A0 c0 l0 (some ad1) c1 l1 k d i r2 r3 r4 r5 r6 r7 true _ (Kd.C_below HR0.out hB.out) HC0.out (Kd.C_below HR1.out hB.out) HC1.out HG.out).mono ?_; rintro e w4 ⟨rfl, hb4⟩))
  have T4 := Aside0.mk (blk_below hT.out hb4)
  have R4 := Aside0.mk (blk_below hR.out hb4)
  have B4 := Aside0.mk (below_step hB.out hb4)
  clear hb4 hT hR hB ht0 ht1
  have T5 := Aside0.mk (blk_alloc T4.out (.cells #[.int .i64 r2, .int .i64 r3, .bool r4, .bool r5, .int .i64 r6, .int .i64 r7] 38))
  have R5 := Aside0.mk (blk_alloc R4.out (.cells #[.int .i64 r2, .int .i64 r3, .bool r4, .bool r5, .int .i64 r6, .int .i64 r7] 38))
  have B5 := Aside0.mk (below_alloc B4.out (.cells #[.int .i64 r2, .int .i64 r3, .bool r4, .bool r5, .int .i64 r6, .int .i64 r7] 38))
  clear T4 R4 B4
  generalize (w4.alloc (.cells #[.int .i64 r2, .int .i64 r3, .bool r4, .bool r5, .int .i64 r6, .int .i64 r7] 38)) = w5 at T5 R5 B5 ⊢
  generalize w4.heap.size = gx
  have ht0 := (blk_cell T5.out 0).trans (show _ = some (Value.slice A0 l0.length c0) from rfl)
  have ht1 := (blk_cell T5.out 1).trans (show _ = some (Value.slice (some ad1) l1.length c1) from rfl)
  have C5 := Aside0.mk (Kd.C_below HR0.out B5.out)
  have O5 := Aside0.mk (Kd.C_below HRW.out B5.out)
  have SF5 := Aside0.mk (fun (j : Nat) (u : Value) (hj : cf[j]? = some u) => pw_cell_below B5.out (SF.out j u hj))
  have S5 := Aside0.mk (show w.heap.size + 1 < w5.heap.size from blk_lt R5.out)
  go_wp2_with (first
    | (go_at_call 37; refine (refer_none A0 c0 l0 ad1 ar c1 l1.length k cr cf row q fd i _ hk hi hfd HB0.out hb1 hbr C5.out HF.out SF5.out OF.out CK.out hc O5.out HX.out).mono ?_; rintro e w8 ⟨gd, gf, gr, rfl, hgd, hgf, hgr, hcd, hcf, hcr, hb8⟩;
        have R8 := Aside0.mk (blk_below R5.out hb8); have B8 := Aside0.mk (below_step B5.out hb8);
        have D8 := Aside0.mk hcd; have F8 := Aside0.mk hcf; have W8 := Aside0.mk hcr; have G8 := Aside0.mk (And.intro hgd (And.intro hgf hgr)); clear hgd hgf hgr hcd hcf hcr hb8;
        have q0 := blk_frozen R8.out 0; have q1 := blk_frozen R8.out 1; have z0 := (blk_cell R8.out 0).trans (show _ = some (Value.slice none 0 0) from rfl); have z1 := (blk_cell R8.out 1).trans (show _ = some (Value.slice none 0 0) from rfl)))
  have B := blk_set (blk_set R8.out 0 (.slice (some ⟨gd, 0, none⟩) l0.length l0.length)) 1 (.slice (some ⟨gf, 0, none⟩) l1.length l1.length)
  have r0_ := (blk_cell B 0).trans (show _ = some (Value.slice (some ⟨gd, 0, none⟩) l0.length l0.length) from rfl)
  have r1_ := (blk_cell B 1).trans (show _ = some (Value.slice (some ⟨gf, 0, none⟩) l1.length l1.length) from rfl)
  refine bodyPost_ret (v := .tuple #[.agg #[.slice (some ⟨gd, 0, none⟩) l0.length l0.length, .slice (some ⟨gf, 0, none⟩) l1.length l1.length], .int .i64 fd, .int .i64 0]) (by simp [results, Try.results24, go_sem, r0_, r1_]) rfl ?_
  have far : ∀ {g : Nat} {cs : Array Value} {t : TypeId}, w8.heap[g]? = some (.cells cs t (0, 0)) → g ≠ w.heap.size + 1 → ((w8.setCell ⟨w.heap.size + 1, 0, none⟩ (.slice (some ⟨gd, 0, none⟩) l0.length l0.length)).setCell ⟨w.heap.size + 1, 1, none⟩ (.slice (some ⟨gf, 0, none⟩) l1.length l1.length)).heap[g]? = some (.cells cs t (0, 0)) :=
    fun h hne => blk_far (p := ⟨w.heap.size + 1, 1, none⟩) (blk_far (p := ⟨w.heap.size + 1, 0, none⟩) h hne (.slice (some ⟨gd, 0, none⟩) l0.length l0.length)) hne (.slice (some ⟨gf, 0, none⟩) l1.length l1.length)
  have hs := S5.out
  have hg := G8.out
  exact ⟨⟨gd, gf, gr, rfl, by omega, by omega, by omega, far D8.out (by omega), far F8.out (by omega), far W8.out (by omega)⟩, below_set (below_set B8.out (by omega)) (by omega)⟩
end Go.Proofs.Ytkecfdljodiifaa.P
