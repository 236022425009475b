/- Contracts of Lock where it is refused for another one's sake, and where it is granted, by hand; the lists are short enough for memory. -/
import Derived.Test.YtbfjakhloabhmaaHf
import Derived.Test.YtbfjakhloabhmaaHd
import Derived.Deep.RegionHeld3
namespace Go.Proofs.Ytbfjakhloabhmaa.P
open Go.RowKit Go.Proofs.YtbfjakhloabhmaaW.PrintWords Go.Proofs.YtbfjakhloabhmaaW.PrintLast Go.Proofs.YtbfjakhloabhmaaW.PrintMore

section
variable (A0 : Option Addr) (c0 : Nat) (l0 : List S44) (A1 : Option Addr) (c1 n1 : Nat) (k : Nat) (kind : Int) (w : World)
set_option maxHeartbeats 2000000 in
set_option maxRecDepth 100000 in
theorem Lock_go (Q : Ending → World → Prop) (h0 : 0 ≤ kind) (h2 : kind ≤ 2) (hr : Kd.C k44 w A0 l0.length l0) (hk : k < l0.length) (hx : 1 ≤ (rd_T44 l0 (k : Int)).f4) (cf : List Value) (hf : cf.length = n1 * 1)
    (sf : 0 < n1 → ∃ ad, A1 = some ad ∧ ∀ j u, cf[j]? = some u → w.cell? (ad.add j) = some u) (of : ∀ u ∈ cf, u.oneCell' = true)
    (hno : blockedTo l0 k (rd_T44 l0 (k : Int)).f0 kind l0.length = true → ∀ w', Below w.heap.size w w' → Q (.returned (.tuple #[.agg #[.slice A0 l0.length c0, .slice A1 n1 c1], .int .i64 14])) w')
    (hok : blockedTo l0 k (rd_T44 l0 (k : Int)).f0 kind l0.length = false → (l0.length ≤ 7036874417766 ∧ n1 ≤ 11728124029610) ∧ ∀ w' gd gf, w.heap.size ≤ gd → w.heap.size ≤ gf →
      w'.heap[gd]? = some (.cells (cells44 (l0.set k { rd_T44 l0 (k : Int) with f5 := kind })).toArray 44 (0, 0)) → w'.heap[gf]? = some (.cells cf.toArray 48 (0, 0)) → Below w.heap.size w w' →
      Q (.returned (.tuple #[.agg #[.slice (some ⟨gd, 0, none⟩) l0.length l0.length, .slice (some ⟨gf, 0, none⟩) n1 n1], .int .i64 0])) w') :
    Calls Try.prog 11 #[.agg #[.slice A0 l0.length c0, .slice A1 n1 c1], .int .i64 k, .int .i64 kind] w Q := by
  have hu25 := Try.underlying25
  have hu44 := Try.underlying44
  have hmax : l0.length ≤ 9223372036854775807 := hr.2.1
  have t1 : decide (kind < 0) = false := decide_eq_false (by omega)
  have t2 : decide (2 < kind) = false := decide_eq_false (by omega)
  have t3 : decide ((k : Int) < 0) = false := decide_eq_false (by omega)
  have t4 : decide (l0.length ≤ k) = false := decide_eq_false (by omega)
  have t5 : decide ((rd_T44 l0 (k : Int)).f4 < 1) = false := decide_eq_false (by omega)
  obtain ⟨ad, rfl, x0, x1, x2, x3, x4, x5⟩ := at_T44 hr (k : Int) (by omega) (by omega)
  simp only [Int.toNat_natCast] at x0 x1 x2 x3 x4 x5
  have bw : Below w.heap.size w ((((w.alloc (.cells #[.slice (some ad) l0.length c0, .slice A1 n1 c1] 25)).alloc (.cells #[.int .i64 (k : Int)] 3)).alloc (.cells #[.int .i64 kind] 3)).alloc (.cells #[.slice none 0 0, .slice none 0 0] 25)) := below_alloc (below_alloc (below_alloc (below_alloc (Below.refl _ _) _) _) _) _
  replace x0 := pw_cell_below bw x0
  replace x1 := pw_cell_below bw x1
  replace x2 := pw_cell_below bw x2
  replace x3 := pw_cell_below bw x3
  replace x4 := pw_cell_below bw x4
  replace x5 := pw_cell_below bw x5
  have HR := Aside0.mk hr
  have HX := Aside0.mk hx
  have SF := Aside0.mk sf
  have OF := Aside0.mk of
  have HF := Aside0.mk hf
  have HNO := Aside0.mk hno
  have HOK := Aside0.mk hok
  have hBT := Aside0.mk (show ((((((w.alloc (.cells #[.slice (some ad) l0.length c0, .slice A1 n1 c1] 25)).alloc (.cells #[.int .i64 (k : Int)] 3)).alloc (.cells #[.int .i64 kind] 3)).alloc (.cells #[.slice none 0 0, .slice none 0 0] 25)).alloc (.cells #[.int .i64 (rd_T44 l0 (k : Int)).f0, .int .i64 (rd_T44 l0 (k : Int)).f1, .bool (rd_T44 l0 (k : Int)).f2, .bool (rd_T44 l0 (k : Int)).f3, .int .i64 (rd_T44 l0 (k : Int)).f4, .int .i64 (rd_T44 l0 (k : Int)).f5] 44)).alloc (.cells #[.int .i64 0] 28)).heap[w.heap.size]? = some (.cells #[.slice (some ad) l0.length c0, .slice A1 n1 c1] 25 (0, 0)) from (blk_alloc (blk_alloc (blk_alloc (blk_alloc (blk_alloc (by simpa using blk_new w (.cells #[.slice (some ad) l0.length c0, .slice A1 n1 c1] 25)) _) _) _) _) _))
  have hBI := Aside0.mk (show ((((((w.alloc (.cells #[.slice (some ad) l0.length c0, .slice A1 n1 c1] 25)).alloc (.cells #[.int .i64 (k : Int)] 3)).alloc (.cells #[.int .i64 kind] 3)).alloc (.cells #[.slice none 0 0, .slice none 0 0] 25)).alloc (.cells #[.int .i64 (rd_T44 l0 (k : Int)).f0, .int .i64 (rd_T44 l0 (k : Int)).f1, .bool (rd_T44 l0 (k : Int)).f2, .bool (rd_T44 l0 (k : Int)).f3, .int .i64 (rd_T44 l0 (k : Int)).f4, .int .i64 (rd_T44 l0 (k : Int)).f5] 44)).alloc (.cells #[.int .i64 0] 28)).heap[w.heap.size + 1]? = some (.cells #[.int .i64 (k : Int)] 3 (0, 0)) from (blk_alloc (blk_alloc (blk_alloc (blk_alloc (by simpa using blk_new (w.alloc (.cells #[.slice (some ad) l0.length c0, .slice A1 n1 c1] 25)) (.cells #[.int .i64 (k : Int)] 3)) _) _) _) _))
  have hBK := Aside0.mk (show ((((((w.alloc (.cells #[.slice (some ad) l0.length c0, .slice A1 n1 c1] 25)).alloc (.cells #[.int .i64 (k : Int)] 3)).alloc (.cells #[.int .i64 kind] 3)).alloc (.cells #[.slice none 0 0, .slice none 0 0] 25)).alloc (.cells #[.int .i64 (rd_T44 l0 (k : Int)).f0, .int .i64 (rd_T44 l0 (k : Int)).f1, .bool (rd_T44 l0 (k : Int)).f2, .bool (rd_T44 l0 (k : Int)).f3, .int .i64 (rd_T44 l0 (k : Int)).f4, .int .i64 (rd_T44 l0 (k : Int)).f5] 44)).alloc (.cells #[.int .i64 0] 28)).heap[w.heap.size + 1 + 1]? = some (.cells #[.int .i64 kind] 3 (0, 0)) from (blk_alloc (blk_alloc (blk_alloc (by simpa using blk_new ((w.alloc (.cells #[.slice (some ad) l0.length c0, .slice A1 n1 c1] 25)).alloc (.cells #[.int .i64 (k : Int)] 3)) (.cells #[.int .i64 kind] 3)) _) _) _))
  have hBR := Aside0.mk (show ((((((w.alloc (.cells #[.slice (some ad) l0.length c0, .slice A1 n1 c1] 25)).alloc (.cells #[.int .i64 (k : Int)] 3)).alloc (.cells #[.int .i64 kind] 3)).alloc (.cells #[.slice none 0 0, .slice none 0 0] 25)).alloc (.cells #[.int .i64 (rd_T44 l0 (k : Int)).f0, .int .i64 (rd_T44 l0 (k : Int)).f1, .bool (rd_T44 l0 (k : Int)).f2, .bool (rd_T44 l0 (k : Int)).f3, .int .i64 (rd_T44 l0 (k : Int)).f4, .int .i64 (rd_T44 l0 (k : Int)).f5] 44)).alloc (.cells #[.int .i64 0] 28)).heap[w.heap.size + 1 + 1 + 1]? = some (.cells #[.slice none 0 0, .slice none 0 0] 25 (0, 0)) from (blk_alloc (blk_alloc (by simpa using blk_new (((w.alloc (.cells #[.slice (some ad) l0.length c0, .slice A1 n1 c1] 25)).alloc (.cells #[.int .i64 (k : Int)] 3)).alloc (.cells #[.int .i64 kind] 3)) (.cells #[.slice none 0 0, .slice none 0 0] 25)) _) _))
  have hBX := Aside0.mk (show ((((((w.alloc (.cells #[.slice (some ad) l0.length c0, .slice A1 n1 c1] 25)).alloc (.cells #[.int .i64 (k : Int)] 3)).alloc (.cells #[.int .i64 kind] 3)).alloc (.cells #[.slice none 0 0, .slice none 0 0] 25)).alloc (.cells #[.int .i64 (rd_T44 l0 (k : Int)).f0, .int .i64 (rd_T44 l0 (k : Int)).f1, .bool (rd_T44 l0 (k : Int)).f2, .bool (rd_T44 l0 (k : Int)).f3, .int .i64 (rd_T44 l0 (k : Int)).f4, .int .i64 (rd_T44 l0 (k : Int)).f5] 44)).alloc (.cells #[.int .i64 0] 28)).heap[w.heap.size + 1 + 1 + 1 + 1]? = some (.cells #[.int .i64 (rd_T44 l0 (k : Int)).f0, .int .i64 (rd_T44 l0 (k : Int)).f1, .bool (rd_T44 l0 (k : Int)).f2, .bool (rd_T44 l0 (k : Int)).f3, .int .i64 (rd_T44 l0 (k : Int)).f4, .int .i64 (rd_T44 l0 (k : Int)).f5] 44 (0, 0)) from (blk_alloc (by simpa using blk_new ((((w.alloc (.cells #[.slice (some ad) l0.length c0, .slice A1 n1 c1] 25)).alloc (.cells #[.int .i64 (k : Int)] 3)).alloc (.cells #[.int .i64 kind] 3)).alloc (.cells #[.slice none 0 0, .slice none 0 0] 25)) (.cells #[.int .i64 (rd_T44 l0 (k : Int)).f0, .int .i64 (rd_T44 l0 (k : Int)).f1, .bool (rd_T44 l0 (k : Int)).f2, .bool (rd_T44 l0 (k : Int)).f3, .int .i64 (rd_T44 l0 (k : Int)).f4, .int .i64 (rd_T44 l0 (k : Int)).f5] 44)) _))
  have hBE := Aside0.mk (show ((((((w.alloc (.cells #[.slice (some ad) l0.length c0, .slice A1 n1 c1] 25)).alloc (.cells #[.int .i64 (k : Int)] 3)).alloc (.cells #[.int .i64 kind] 3)).alloc (.cells #[.slice none 0 0, .slice none 0 0] 25)).alloc (.cells #[.int .i64 (rd_T44 l0 (k : Int)).f0, .int .i64 (rd_T44 l0 (k : Int)).f1, .bool (rd_T44 l0 (k : Int)).f2, .bool (rd_T44 l0 (k : Int)).f3, .int .i64 (rd_T44 l0 (k : Int)).f4, .int .i64 (rd_T44 l0 (k : Int)).f5] 44)).alloc (.cells #[.int .i64 0] 28)).heap[w.heap.size + 1 + 1 + 1 + 1 + 1]? = some (.cells #[.int .i64 0] 28 (0, 0)) from (by simpa using blk_new (((((w.alloc (.cells #[.slice (some ad) l0.length c0, .slice A1 n1 c1] 25)).alloc (.cells #[.int .i64 (k : Int)] 3)).alloc (.cells #[.int .i64 kind] 3)).alloc (.cells #[.slice none 0 0, .slice none 0 0] 25)).alloc (.cells #[.int .i64 (rd_T44 l0 (k : Int)).f0, .int .i64 (rd_T44 l0 (k : Int)).f1, .bool (rd_T44 l0 (k : Int)).f2, .bool (rd_T44 l0 (k : Int)).f3, .int .i64 (rd_T44 l0 (k : Int)).f4, .int .i64 (rd_T44 l0 (k : Int)).f5] 44)) (.cells #[.int .i64 0] 28)))
  have hB6 := Aside0.mk (show Below w.heap.size w ((((((w.alloc (.cells #[.slice (some ad) l0.length c0, .slice A1 n1 c1] 25)).alloc (.cells #[.int .i64 (k : Int)] 3)).alloc (.cells #[.int .i64 kind] 3)).alloc (.cells #[.slice none 0 0, .slice none 0 0] 25)).alloc (.cells #[.int .i64 (rd_T44 l0 (k : Int)).f0, .int .i64 (rd_T44 l0 (k : Int)).f1, .bool (rd_T44 l0 (k : Int)).f2, .bool (rd_T44 l0 (k : Int)).f3, .int .i64 (rd_T44 l0 (k : Int)).f4, .int .i64 (rd_T44 l0 (k : Int)).f5] 44)).alloc (.cells #[.int .i64 0] 28)) from below_alloc (below_alloc bw _) _)
  clear hr hx sf of hf hno hok h0 h2 bw
  go_enter Try.func11, Try.ntmps11
  go_wp2_with fail
  refine (holders_lock w _ _ (w.heap.size + 1) (w.heap.size + 1 + 1) (w.heap.size + 1 + 1 + 1 + 1 + 1) (some ad) c0 l0 (.slice A1 n1 c1) (k : Int) kind (rd_T44 l0 (k : Int)).f0 (by omega) (by omega) (by omega) HR.out ⟨hB6.out, hBI.out, hBK.out, hBE.out, Kept.refl _ _⟩).mono ?_
  rintro e w1 ⟨rfl, hb, hbi, hbk, hbe, hke⟩
  have T1 := Aside0.mk (blk_kept hBT.out hke (by omega))
  have R1 := Aside0.mk (blk_kept hBR.out hke (by omega))
  have X1 := Aside0.mk (blk_kept hBX.out hke (by omega))
  have I1 := Aside0.mk hbi
  have K1 := Aside0.mk hbk
  have E1 := Aside0.mk hbe
  have B1 := Aside0.mk hb
  clear hb hbi hbk hbe hke hBT hBI hBK hBR hBX hBE hB6 x0 x1 x2 x3 x4 x5
  have ce := (blk_cell E1.out 0).trans (show _ = some (Value.int .i64 (errOf (blockedTo l0 k (rd_T44 l0 (k : Int)).f0 kind l0.length))) from rfl)
  have ct0 := (blk_cell T1.out 0).trans (show _ = some (Value.slice (some ad) l0.length c0) from rfl)
  have ct1 := (blk_cell T1.out 1).trans (show _ = some (Value.slice A1 n1 c1) from rfl)
  have cr0 := (blk_cell R1.out 0).trans (show _ = some (Value.slice none 0 0) from rfl)
  have cr1 := (blk_cell R1.out 1).trans (show _ = some (Value.slice none 0 0) from rfl)
  have q0 := blk_frozen R1.out 0
  have q1 := blk_frozen R1.out 1
  cases hbl : blockedTo l0 k (rd_T44 l0 (k : Int)).f0 kind l0.length with
  | true =>
    have HBL := Aside0.mk hbl
    rw [hbl] at ce
    simp only [errOf, if_true] at ce
    clear hbl
    go_wp2_with fail
    go_region
    go_wp2_with fail
    have B := blk_drew (blk_set (blk_set R1.out 0 (.slice (some ad) l0.length c0)) 1 (.slice A1 n1 c1))
    have r0 := (blk_cell B 0).trans (show _ = some (Value.slice (some ad) l0.length c0) from rfl)
    have r1 := (blk_cell B 1).trans (show _ = some (Value.slice A1 n1 c1) from rfl)
    exact bodyPost_ret (v := .tuple #[.agg #[.slice (some ad) l0.length c0, .slice A1 n1 c1], .int .i64 14]) (by simp [results, Try.results11, go_sem, r0, r1]) rfl (HNO.out HBL.out _ (below_set (g := w.heap.size + 1 + 1 + 1) (below_set (g := w.heap.size + 1 + 1 + 1) B1.out (by omega)) (by omega)).drew)
  | false =>
    have HBL := Aside0.mk hbl
    rw [hbl] at ce
    simp only [errOf, Bool.false_eq_true, if_false] at ce
    clear hbl
    have ck := (blk_cell K1.out 0).trans (show _ = some (Value.int .i64 kind) from rfl)
    have cx := (blk_cell X1.out 5).trans (show _ = some (Value.int .i64 (rd_T44 l0 (k : Int)).f5) from rfl)
    have qx := blk_frozen X1.out 5
    go_upto_region 10 with (fail)
    have T2 := Aside0.mk (blk_far (p := ⟨w.heap.size + 1 + 1 + 1 + 1, 5, none⟩) T1.out (by dsimp only; omega) (.int .i64 kind))
    have R2 := Aside0.mk (blk_far (p := ⟨w.heap.size + 1 + 1 + 1 + 1, 5, none⟩) R1.out (by dsimp only; omega) (.int .i64 kind))
    have I2 := Aside0.mk (blk_far (p := ⟨w.heap.size + 1 + 1 + 1 + 1, 5, none⟩) I1.out (by dsimp only; omega) (.int .i64 kind))
    have E2 := Aside0.mk (blk_far (p := ⟨w.heap.size + 1 + 1 + 1 + 1, 5, none⟩) E1.out (by dsimp only; omega) (.int .i64 kind))
    rw [HBL.out] at E2
    have X2 := Aside0.mk (blk_put X1.out 5 (.int .i64 kind) rfl)
    have B2 := Aside0.mk (below_set (g := w.heap.size + 1 + 1 + 1 + 1) B1.out (by omega) (j := 5) (v := .int .i64 kind))
    clear T1 R1 I1 K1 E1 X1 B1 ce ct0 ct1 cr0 cr1 q0 q1 ck cx qx
    generalize (w1.setCell ⟨w.heap.size + 1 + 1 + 1 + 1, 5, none⟩ (.int .i64 kind)) = w2 at T2 R2 I2 E2 X2 B2 ⊢
    obtain ⟨⟨hb0, hb1⟩, hok⟩ := HOK.out HBL.out
    have HB0 := Aside0.mk hb0
    have HB1 := Aside0.mk hb1
    have HK := Aside0.mk hok
    clear hb0 hb1 hok HNO HOK
    have hkd : ∀ i, w2.frozen? ⟨w.heap.size + 1 + 1 + 1, i, none⟩ = false := fun i => blk_frozen R2.out i
    have ct0 := (blk_cell T2.out 0).trans (show _ = some (Value.slice (some ad) l0.length c0) from rfl)
    have ct1 := (blk_cell T2.out 1).trans (show _ = some (Value.slice A1 n1 c1) from rfl)
    have ci := (blk_cell I2.out 0).trans (show _ = some (Value.int .i64 (k : Int)) from rfl)
    have ce := (blk_cell E2.out 0).trans (show _ = some (Value.int .i64 0) from rfl)
    have cx0 := (blk_cell X2.out 0).trans (show _ = some (Value.int .i64 (rd_T44 l0 (k : Int)).f0) from rfl)
    have cx1 := (blk_cell X2.out 1).trans (show _ = some (Value.int .i64 (rd_T44 l0 (k : Int)).f1) from rfl)
    have cx2 := (blk_cell X2.out 2).trans (show _ = some (Value.bool (rd_T44 l0 (k : Int)).f2) from rfl)
    have cx3 := (blk_cell X2.out 3).trans (show _ = some (Value.bool (rd_T44 l0 (k : Int)).f3) from rfl)
    have cx4 := (blk_cell X2.out 4).trans (show _ = some (Value.int .i64 (rd_T44 l0 (k : Int)).f4) from rfl)
    have cx5 := (blk_cell X2.out 5).trans (show _ = some (Value.int .i64 kind) from rfl)
    go_region_held3 (fun w' => w'.cell? ⟨w.heap.size, 0, none⟩ = some (Value.slice (some ad) l0.length c0) ∧ w'.cell? ⟨w.heap.size, 1, none⟩ = some (Value.slice A1 n1 c1) ∧ w'.cell? ⟨w.heap.size + 1, 0, none⟩ = some (Value.int .i64 (k : Int)) ∧ w'.cell? ⟨w.heap.size + 1 + 1 + 1 + 1, 0, none⟩ = some (Value.int .i64 (rd_T44 l0 (k : Int)).f0) ∧ w'.cell? ⟨w.heap.size + 1 + 1 + 1 + 1, 1, none⟩ = some (Value.int .i64 (rd_T44 l0 (k : Int)).f1) ∧ w'.cell? ⟨w.heap.size + 1 + 1 + 1 + 1, 2, none⟩ = some (Value.bool (rd_T44 l0 (k : Int)).f2) ∧ w'.cell? ⟨w.heap.size + 1 + 1 + 1 + 1, 3, none⟩ = some (Value.bool (rd_T44 l0 (k : Int)).f3) ∧ w'.cell? ⟨w.heap.size + 1 + 1 + 1 + 1, 4, none⟩ = some (Value.int .i64 (rd_T44 l0 (k : Int)).f4) ∧ w'.cell? ⟨w.heap.size + 1 + 1 + 1 + 1, 5, none⟩ = some (Value.int .i64 kind) ∧ w'.cell? ⟨w.heap.size + 1 + 1 + 1 + 1 + 1, 0, none⟩ = some (Value.int .i64 0)) (first | exact ⟨ct0, ct1, ci, cx0, cx1, cx2, cx3, cx4, cx5, ce⟩ | exact ⟨ct0', ct1', ci', cx0', cx1', cx2', cx3', cx4', cx5', ce'⟩ | exact ⟨ct0'', ct1'', ci'', cx0'', cx1'', cx2'', cx3'', cx4'', cx5'', ce''⟩) ((go_at_call 22; refine (Set_ok (some ad) c0 l0 A1 c1 n1 cf k { rd_T44 l0 (k : Int) with f5 := kind } w2.drew HB0.out HB1.out hk (by have := HX.out; omega) HF.out (Kd.C_below HR.out B2.out.drew) (fun hp => by obtain ⟨a, ea, hs⟩ := SF.out hp; exact ⟨a, ea, fun j u hj => pw_cell_below B2.out.drew (hs j u hj)⟩) OF.out).mono ?_; rintro e w3 ⟨gd, gf, rfl, hgd, hgf, hcd, hcf, hb⟩; have ct0' := pw_cell_below hb ct0; have ct1' := pw_cell_below hb ct1; have ci' := pw_cell_below hb ci; have cx0' := pw_cell_below hb cx0; have cx1' := pw_cell_below hb cx1; have cx2' := pw_cell_below hb cx2; have cx3' := pw_cell_below hb cx3; have cx4' := pw_cell_below hb cx4; have cx5' := pw_cell_below hb cx5; have ce' := pw_cell_below hb ce; have ct0'' := (cell_far (p := ⟨w.heap.size + 1 + 1 + 1, 1, none⟩) (by dsimp only; omega) (.slice (some ⟨gf, 0, none⟩) n1 n1)).trans ((cell_far (p := ⟨w.heap.size + 1 + 1 + 1, 0, none⟩) (by dsimp only; omega) (.slice (some ⟨gd, 0, none⟩) l0.length l0.length)).trans ct0'); have ct1'' := (cell_far (p := ⟨w.heap.size + 1 + 1 + 1, 1, none⟩) (by dsimp only; omega) (.slice (some ⟨gf, 0, none⟩) n1 n1)).trans ((cell_far (p := ⟨w.heap.size + 1 + 1 + 1, 0, none⟩) (by dsimp only; omega) (.slice (some ⟨gd, 0, none⟩) l0.length l0.length)).trans ct1'); have ci'' := (cell_far (p := ⟨w.heap.size + 1 + 1 + 1, 1, none⟩) (by dsimp only; omega) (.slice (some ⟨gf, 0, none⟩) n1 n1)).trans ((cell_far (p := ⟨w.heap.size + 1 + 1 + 1, 0, none⟩) (by dsimp only; omega) (.slice (some ⟨gd, 0, none⟩) l0.length l0.length)).trans ci'); have cx0'' := (cell_far (p := ⟨w.heap.size + 1 + 1 + 1, 1, none⟩) (by dsimp only; omega) (.slice (some ⟨gf, 0, none⟩) n1 n1)).trans ((cell_far (p := ⟨w.heap.size + 1 + 1 + 1, 0, none⟩) (by dsimp only; omega) (.slice (some ⟨gd, 0, none⟩) l0.length l0.length)).trans cx0'); have cx1'' := (cell_far (p := ⟨w.heap.size + 1 + 1 + 1, 1, none⟩) (by dsimp only; omega) (.slice (some ⟨gf, 0, none⟩) n1 n1)).trans ((cell_far (p := ⟨w.heap.size + 1 + 1 + 1, 0, none⟩) (by dsimp only; omega) (.slice (some ⟨gd, 0, none⟩) l0.length l0.length)).trans cx1'); have cx2'' := (cell_far (p := ⟨w.heap.size + 1 + 1 + 1, 1, none⟩) (by dsimp only; omega) (.slice (some ⟨gf, 0, none⟩) n1 n1)).trans ((cell_far (p := ⟨w.heap.size + 1 + 1 + 1, 0, none⟩) (by dsimp only; omega) (.slice (some ⟨gd, 0, none⟩) l0.length l0.length)).trans cx2'); have cx3'' := (cell_far (p := ⟨w.heap.size + 1 + 1 + 1, 1, none⟩) (by dsimp only; omega) (.slice (some ⟨gf, 0, none⟩) n1 n1)).trans ((cell_far (p := ⟨w.heap.size + 1 + 1 + 1, 0, none⟩) (by dsimp only; omega) (.slice (some ⟨gd, 0, none⟩) l0.length l0.length)).trans cx3'); have cx4'' := (cell_far (p := ⟨w.heap.size + 1 + 1 + 1, 1, none⟩) (by dsimp only; omega) (.slice (some ⟨gf, 0, none⟩) n1 n1)).trans ((cell_far (p := ⟨w.heap.size + 1 + 1 + 1, 0, none⟩) (by dsimp only; omega) (.slice (some ⟨gd, 0, none⟩) l0.length l0.length)).trans cx4'); have cx5'' := (cell_far (p := ⟨w.heap.size + 1 + 1 + 1, 1, none⟩) (by dsimp only; omega) (.slice (some ⟨gf, 0, none⟩) n1 n1)).trans ((cell_far (p := ⟨w.heap.size + 1 + 1 + 1, 0, none⟩) (by dsimp only; omega) (.slice (some ⟨gd, 0, none⟩) l0.length l0.length)).trans cx5'); have ce'' := (cell_far (p := ⟨w.heap.size + 1 + 1 + 1, 1, none⟩) (by dsimp only; omega) (.slice (some ⟨gf, 0, none⟩) n1 n1)).trans ((cell_far (p := ⟨w.heap.size + 1 + 1 + 1, 0, none⟩) (by dsimp only; omega) (.slice (some ⟨gd, 0, none⟩) l0.length l0.length)).trans ce'); have G3 := Aside0.mk (And.intro hgd hgf); have D3 := Aside0.mk hcd; have F3 := Aside0.mk hcf; have E3 := Aside0.mk (blk_below (blk_drew E2.out) hb); have R3 := Aside0.mk (blk_below (blk_drew R2.out) hb); have B3 := Aside0.mk (below_step B2.out.drew hb); clear hgd hgf hcd hcf hb; have ce3 := (blk_cell E3.out 0).trans (show _ = some (Value.int .i64 0) from rfl); have cr0 := (blk_cell R3.out 0).trans (show _ = some (Value.slice none 0 0) from rfl); have cr1 := (blk_cell R3.out 1).trans (show _ = some (Value.slice none 0 0) from rfl); have q0 := blk_frozen R3.out 0; have q1 := blk_frozen R3.out 1))
    go_wp2_with fail
    have B := blk_set (blk_set R3.out 0 (.slice (some ⟨gd, 0, none⟩) l0.length l0.length)) 1 (.slice (some ⟨gf, 0, none⟩) n1 n1)
    have r0 := (blk_cell B 0).trans (show _ = some (Value.slice (some ⟨gd, 0, none⟩) l0.length l0.length) from rfl)
    have r1 := (blk_cell B 1).trans (show _ = some (Value.slice (some ⟨gf, 0, none⟩) n1 n1) from rfl)
    have hs2 : w.heap.size + 1 + 1 + 1 < w2.heap.size := blk_lt R2.out
    have gg : w.heap.size + 1 + 1 + 1 < gd ∧ w.heap.size + 1 + 1 + 1 < gf := ⟨Nat.lt_of_lt_of_le hs2 G3.out.1, Nat.lt_of_lt_of_le hs2 G3.out.2⟩
    refine bodyPost_ret (v := .tuple #[.agg #[.slice (some ⟨gd, 0, none⟩) l0.length l0.length, .slice (some ⟨gf, 0, none⟩) n1 n1], .int .i64 0]) (by simp [results, Try.results11, go_sem, r0, r1]) rfl (HK.out _ gd gf (by omega) (by omega) ?_ ?_ ?_)
    · exact blk_far (p := ⟨w.heap.size + 1 + 1 + 1, 1, none⟩) (blk_far (p := ⟨w.heap.size + 1 + 1 + 1, 0, none⟩) D3.out (by dsimp only; omega) _) (by dsimp only; omega) _
    · exact blk_far (p := ⟨w.heap.size + 1 + 1 + 1, 1, none⟩) (blk_far (p := ⟨w.heap.size + 1 + 1 + 1, 0, none⟩) F3.out (by dsimp only; omega) _) (by dsimp only; omega) _
    · exact below_set (g := w.heap.size + 1 + 1 + 1) (below_set (g := w.heap.size + 1 + 1 + 1) B3.out (by omega)) (by omega)
end
end Go.Proofs.Ytbfjakhloabhmaa.P
