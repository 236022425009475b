/- The contract of bytes.Repeat as turned asks it, by hand: one byte 0, once or oftener. -/
import Derived.Test.YtpeelfambaedkaaHd
import Derived.Deep.RegionLaw
import Derived.Lib.MakeNoZero
namespace Go.Proofs.Ytpeelfambaedkaa.P
open Go.RowKit Go.Proofs.YtpeelfambaedkaaW.PrintWords Go.Proofs.YtpeelfambaedkaaW.PrintLast Go.Proofs.YtpeelfambaedkaaW.PrintMore


theorem and_n (n : Nat) (hn : n ≤ 8000) : bits .and .u64 (n : Int) 4294967295 = (n : Int) := by
  have h := bits_and_u64_nat n 4294967295 (by omega) (by omega)
  have e : n &&& 4294967295 = n % 4294967296 := Nat.and_two_pow_sub_one_eq_mod n 32
  rw [e, Nat.mod_eq_of_lt (by omega)] at h
  exact h
theorem wrap_n (n : Nat) (hn : n ≤ 8000) : IntKind.u64.wrap (n : Int) = (n : Int) := by rw [IntKind.wrap_u64]; omega
set_option linter.unusedSimpArgs false in
set_option maxHeartbeats 1000000 in
theorem Mul_any (n : Nat) (w : World) (hn : n ≤ 8000) : Calls Try.prog 43 #[.int .u64 1, .int .u64 n] w fun e w' => e = .returned (.tuple #[.int .u64 0, .int .u64 n]) ∧ w' = w := by
  have e1 : bits .and .u64 1 4294967295 = 1 := and_n 1 (by omega)
  have e0 : bits .and .u64 0 4294967295 = 0 := and_n 0 (by omega)
  have w0 : IntKind.u64.wrap 0 = 0 := wrap_n 0 (by omega)
  have ed : (n : Int) / 4294967296 = 0 := by omega
  have ez : (0 : Int) / 4294967296 = 0 := by omega
  go_enter Try.func43, Try.ntmps43
  go_wp2
  simp only [e1, e0, and_n n hn, wrap_n n hn, ed, ez, w0, Int.one_mul, Int.mul_zero, Int.add_zero]
  go_ret2
  exact ⟨rfl, rfl⟩
theorem MakeNoZero_any (n : Nat) (w : World) (hn : n ≤ 8000) : ∃ cs : Array Value, (callFunc 44 #[.int .i64 (n : Int)]).run Try.prog w = .ok (.value (.slice (some ⟨w.heap.size, 0, none⟩) n cs.size)) (w.drew.drew.alloc (.cells cs 5)) ∧ n ≤ cs.size := by
  obtain ⟨cs, hrun, hle, hmax⟩ := Lib.run_makeNoZero (P := Try.prog) w #[3] 66 5 Try.underlying66 n (by omega)
  refine ⟨cs, ?_, hle⟩
  rw [run_callFunc_extern Try.func44 (by kernel_rfl) (by kernel_rfl) (by kernel_rfl) (e := Extern.BytealgMakeNoZero.makeNoZero #[3] #[66]) (by kernel_rfl), hrun]
  rfl
theorem splice_zeros {v : Value} (cur : List Value) (k r : Nat) (h : cur.take k = List.replicate k v) : (splice cur k (List.replicate r v)).take (k + r) = List.replicate (k + r) v := by
  unfold splice
  rw [h, ← List.append_assoc, List.replicate_append_replicate]
  exact List.take_left' (by simp)
theorem size5 : (Try.prog.info? 5).map (·.size) = some 1 := by kernel_rfl
theorem one_cell {w : World} {ad : Addr} {u : Value} (h : w.cell? ad = some u) : ∀ j v, [u][j]? = some v → w.cell? (ad.add j) = some v := by
  intro j v hj
  match j, hj with
  | 0, hj =>
    simp only [List.getElem?_cons_zero, Option.some.injEq] at hj
    subst hj
    simpa [Addr.add] using h
  | j + 1, hj => simp at hj
theorem in_block {w : World} {g : Nat} {t : TypeId} {cur : Array Value} {cs : List Value} (h : w.heap[g]? = some (.cells cur t (0, 0))) (hc : cur.toList.take cs.length = cs) : ∀ j v, cs[j]? = some v → w.cell? ((⟨g, 0, none⟩ : Addr).add j) = some v := by
  intro j v hj
  rw [addr_plain, blk_cell h]
  rw [← hc, List.getElem?_take] at hj
  split at hj
  · simpa using hj
  · cases hj
attribute [local go_sem] max2_int min2_int max_two min_two
set_option maxHeartbeats 2000000 in
set_option maxRecDepth 100000 in
theorem Repeat_any (ad : Addr) (c : Nat) (n : Nat) (w : World) (hn : n ≤ 8000) (hp : 0 < n) (h : w.cell? ad = some (.int .u8 0)) :
    Calls Try.prog 36 #[.slice (some ad) 1 c, .int .i64 n] w fun e w' => ∃ (g : Nat) (cur : List Value), e = .returned (.slice (some ⟨g, 0, none⟩) n n) ∧ w.heap.size ≤ g ∧ w'.heap[g]? = some (.cells cur.toArray 5 (0, 0)) ∧ cur.take n = List.replicate n (.int .u8 0) ∧ Below w.heap.size w w' := by
  have t1 : ((n : Int) == 0) = false := beq_eq_false_iff_ne.2 (by omega)
  have t2 : decide ((n : Int) < 0) = false := decide_eq_false (by omega)
  have t3 : decide (8192 < (n : Int)) = false := decide_eq_false (by omega)
  have t4 : decide (9223372036854775807 < (n : Int)) = false := decide_eq_false (by omega)
  have HN := Aside0.mk hn
  have wn : IntKind.u64.wrap (n : Int) = (n : Int) := wrap_n n hn
  have wi : IntKind.i64.wrap (n : Int) = (n : Int) := by rw [IntKind.wrap_i64]; omega
  have w1 : IntKind.u64.wrap 1 = 1 := wrap_n 1 (by omega)
  go_enter Try.func36, Try.ntmps36
  go_upto_region 6 with (first | (go_at_call 43; refine (Mul_any n _ HN.out).mono ?_; rintro e w2 ⟨rfl, rfl⟩))
  go_upto_region 16 with fail
  obtain ⟨⟨cs⟩, hrun, hle⟩ := MakeNoZero_any n w2 hn
  have hz : (n : Int) ≤ ((Array.mk cs).size : Int) := by omega
  have hn0 : (0 : Int) ≤ (n : Int) := by omega
  have HL := Aside0.mk (show n ≤ cs.length from hle)
  have HB := Aside0.mk ((below_alloc (Below.refl w2.heap.size w2) (.cells (Array.mk cs) 5)).drew.drew)
  have H2 := Aside0.mk (pw_cell_below HB.out h)
  have HG := Aside0.mk (blk_drew (blk_drew (blk_new w2 (.cells (Array.mk cs) 5))))
  have HP := Aside0.mk hp
  clear h
  go_upto_region 17 with fail
  clear hrun hz
  generalize ((w2.alloc (Obj.cells (Array.mk cs) 5)).drew).drew = w3 at HB H2 HG ⊢
  have HS := Aside0.mk (Nat.le_refl w2.heap.size)
  generalize hg : w2.heap.size = g at HG ⊢
  replace HS : Aside0 (w2.heap.size ≤ g) := Aside0.mk (Nat.le_of_eq hg)
  clear hg
  have N1 := Aside0.mk (show ([Value.int .u8 0] : List Value).length = Nat.min 1 n from (Nat.min_eq_left hp).symm)
  have N2 := Aside0.mk (show 0 + ([Value.int .u8 0] : List Value).length ≤ cs.length from Nat.le_trans (show 0 + 1 ≤ n from by omega) HL.out)
  go_upto_region 18 with (first
    | ((with_reducible refine wpList_copy_splice rfl (.tmp 58) (.tmp 59) 66 66 rfl 5 Try.underlying66 size5 (some ⟨g, 0, none⟩) (some ad) n n 1 c rfl rfl g 0 cs 5 HG.out [.int .u8 0] N1.out (fun _ => ⟨rfl, ad, rfl, one_cell H2.out⟩) N2.out (by simp [Value.oneCell']) w2.heap.size w2 HB.out HS.out ?_); intro w4 hg4 hb4))
  have G4 := Aside0.mk (show w4.heap[g]? = some (.cells (splice cs 0 [.int .u8 0]).toArray 5 (0, 0)) from hg4)
  have B4 := Aside0.mk hb4
  have T4 := Aside0.mk (show (splice cs 0 [Value.int .u8 0]).take 1 = List.replicate 1 (.int .u8 0) by simp [splice])
  have L4 := Aside0.mk (show n ≤ (splice cs 0 [Value.int .u8 0]).length by rw [length_splice _ _ _ N2.out]; exact HL.out)
  clear hg4 hb4 HG HB H2 N1 N2
  go_loopg [10, 11] n (fun gg s10 _ wr => ∃ kk : Nat, 0 < kk ∧ kk ≤ n ∧ n - kk ≤ gg ∧ s10 = .int .i64 kk ∧ ∃ cur : List Value, Aside0 (wr.heap[g]? = some (.cells cur.toArray 5 (0, 0))) ∧ Aside0 (cur.take kk = List.replicate kk (.int .u8 0)) ∧ Aside0 (n ≤ cur.length) ∧ Aside0 (Below w2.heap.size w2 wr))
  case atStart => exact ⟨1, by omega, by have := HP.out; omega, by omega, rfl, _, G4, T4, L4, B4⟩
  case round =>
    obtain ⟨kk, hk0, hkk, hgg, rfl, cur, G5, T5, L5, B5⟩ := hrel
    by_cases hlt : kk < n
    · have hltz : (kk : Int) < (n : Int) := by omega
      have hnlt : ¬ (n : Int) < (kk : Int) := by omega
      have hk1 : (0 : Int) ≤ (kk : Int) := by omega
      have hk2 : (kk : Int) ≤ (n : Int) := by omega
      go_upto_region 20 with fail
      have hne : ¬ n = kk := by omega
      obtain ⟨r, hr⟩ : ∃ r, Nat.min kk (n - kk) = r := ⟨_, rfl⟩
      have hr1 : r ≤ kk := hr ▸ Nat.min_le_left _ _
      have hr2 : r ≤ n - kk := hr ▸ Nat.min_le_right _ _
      have hr3 : 0 < r := by rw [← hr]; exact Nat.lt_min.2 ⟨hk0, by omega⟩
      have M1 := Aside0.mk (show (List.replicate r (Value.int .u8 0)).length = Nat.min kk (n - kk) by rw [hr, List.length_replicate])
      have M2 := Aside0.mk (show kk + (List.replicate r (Value.int .u8 0)).length ≤ cur.length by rw [List.length_replicate]; have := L5.out; omega)
      have M3 := Aside0.mk (show ∀ u ∈ List.replicate r (Value.int .u8 0), u.oneCell' = true from fun u hu => by rw [List.eq_of_mem_replicate hu]; rfl)
      have M4 := Aside0.mk (show cur.take (List.replicate r (Value.int .u8 0)).length = List.replicate r (Value.int .u8 0) by
        have e := congrArg (List.take r) T5.out
        rw [List.take_take, Nat.min_eq_left hr1, List.take_replicate, Nat.min_eq_left hr1] at e
        rw [List.length_replicate]
        exact e)
      go_region_law (first | (refine step_copy_splice rfl (.tmp 70) (.tmp 73) 66 66 rfl 5 Try.underlying66 size5 (some ⟨g, kk, none⟩) (some ⟨g, 0, none⟩) (n - kk) (n - kk) kk n (by first | (simp [Act.eval, Act.put]; done) | (simp [Act.eval, Act.put]; exact hne)) (by simp [Act.eval, Act.put]) g kk cur 5 (blk_drew G5.out) (List.replicate r (.int .u8 0)) M1.out (fun _ => ⟨rfl, _, rfl, in_block (blk_drew G5.out) M4.out⟩) M2.out M3.out w2.heap.size w2 B5.out.drew HS.out ?_; intro w6 hg6 hb6))
      have G6 := Aside0.mk (show w6.heap[g]? = some (.cells (splice cur kk (List.replicate r (.int .u8 0))).toArray 5 (0, 0)) from hg6)
      have B6 := Aside0.mk hb6
      have T6 := Aside0.mk (splice_zeros cur kk r T5.out)
      have L6 := Aside0.mk (show n ≤ (splice cur kk (List.replicate r (Value.int .u8 0))).length by rw [length_splice _ _ _ M2.out]; exact L5.out)
      clear hg6 hb6 G5 B5 T5 L5 M1 M2 M3 M4
      have wr : IntKind.i64.wrap ((kk : Int) + (r : Int)) = ((kk + r : Nat) : Int) := by rw [IntKind.wrap_i64]; omega
      rw [wr]
      go_wp2_with fail
      go_roundg (n - (kk + 1))
      case measure => omega
      case rel => exact ⟨kk + r, by omega, by omega, by omega, rfl, _, G6, T6, L6, B6⟩
    · have hltz : ¬ (kk : Int) < (n : Int) := by omega
      obtain rfl : kk = n := by omega
      go_wp2_with fail
      go_ret
      exact ⟨g, rfl, HS.out, cur, G5.out, T5.out, B5.out⟩
end Go.Proofs.Ytpeelfambaedkaa.P
