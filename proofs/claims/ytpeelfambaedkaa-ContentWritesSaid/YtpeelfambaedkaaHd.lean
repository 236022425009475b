/- The contracts of disk.Bytes and what it calls, by hand: how many bytes all files have; the list is short enough for memory. -/
import Derived.Test.YtpeelfambaedkaaHc
import Derived.Deep.LoopGhost
namespace Go.Proofs.Ytpeelfambaedkaa.P
open Go.RowKit Go.Proofs.YtpeelfambaedkaaW.PrintWords Go.Proofs.YtpeelfambaedkaaW.PrintLast Go.Proofs.YtpeelfambaedkaaW.PrintMore

/-- a node's bytes -/
def bytesOf (x : S59) : Int := if x.f0 = 1 ∨ x.f0 = 3 then (x.f6.size : Int) else 0
/-- all nodes' bytes, summed from the first one as the machine does -/
def bytesSum : List S59 → Int → Int
  | [], s => s
  | x :: l, s => bytesSum l (wrap64 (s + bytesOf x))
theorem bytesSum_snoc (x : S59) : ∀ (l : List S59) (s : Int), bytesSum (l ++ [x]) s = wrap64 (bytesSum l s + bytesOf x) := by
  intro l
  induction l with
  | nil => intro s; rfl
  | cons a l ih => intro s; exact ih _
set_option maxHeartbeats 400000 in
theorem bytes_is (x : S59) (A7 : Option Addr) (n7 c7 : Nat) (w : World) (h : x.f0 = 1 ∨ x.f0 = 3) : Calls Try.prog 42 #[.agg #[.int .i64 x.f0, .int .i64 x.f1, .int .i64 x.f2, .int .i64 x.f3, .int .i64 x.f4, .int .i64 x.f5, .string x.f6, .slice A7 n7 c7]] w fun e w' => e = .returned (.int .i64 (x.f6.size : Int)) ∧ Below w.heap.size w w' := by
  have hu59 := Try.underlying59
  have hB := below_alloc (Below.refl w.heap.size w) (.cells #[.int .i64 x.f0, .int .i64 x.f1, .int .i64 x.f2, .int .i64 x.f3, .int .i64 x.f4, .int .i64 x.f5, .string x.f6, .slice A7 n7 c7] 59)
  by_cases h1 : x.f0 = 1
  · have t1 : (x.f0 == 1) = true := beq_iff_eq.2 h1
    have t2 : (x.f0 != 1) = false := bne_eq_false_iff_eq.2 h1
    clear h h1
    go_enter Try.func42, Try.ntmps42
    go_wp2_with fail
    go_ret
    exact ⟨rfl, hB⟩
  · have h3 : x.f0 = 3 := h.resolve_left h1
    have t1 : (x.f0 == 1) = false := beq_eq_false_iff_ne.2 h1
    have t2 : (x.f0 != 1) = true := bne_iff_ne.2 h1
    have t3 : (x.f0 == 3) = true := beq_iff_eq.2 h3
    have t4 : (x.f0 != 3) = false := bne_eq_false_iff_eq.2 h3
    clear h h1 h3
    go_enter Try.func42, Try.ntmps42
    go_wp2_with fail
    go_ret
    exact ⟨rfl, hB⟩
set_option maxHeartbeats 400000 in
theorem bytes_not (x : S59) (A7 : Option Addr) (n7 c7 : Nat) (w : World) (h : ¬ (x.f0 = 1 ∨ x.f0 = 3)) : Calls Try.prog 42 #[.agg #[.int .i64 x.f0, .int .i64 x.f1, .int .i64 x.f2, .int .i64 x.f3, .int .i64 x.f4, .int .i64 x.f5, .string x.f6, .slice A7 n7 c7]] w fun e w' => e = .returned (.int .i64 0) ∧ Below w.heap.size w w' := by
  have hu59 := Try.underlying59
  have hB := below_alloc (Below.refl w.heap.size w) (.cells #[.int .i64 x.f0, .int .i64 x.f1, .int .i64 x.f2, .int .i64 x.f3, .int .i64 x.f4, .int .i64 x.f5, .string x.f6, .slice A7 n7 c7] 59)
  have h1 : x.f0 ≠ 1 := fun e => h (.inl e)
  have h3 : x.f0 ≠ 3 := fun e => h (.inr e)
  have t1 : (x.f0 == 1) = false := beq_eq_false_iff_ne.2 h1
  have t2 : (x.f0 != 1) = true := bne_iff_ne.2 h1
  have t3 : (x.f0 == 3) = false := beq_eq_false_iff_ne.2 h3
  have t4 : (x.f0 != 3) = true := bne_iff_ne.2 h3
  clear h h1 h3
  go_enter Try.func42, Try.ntmps42
  go_wp2_with fail
  go_ret
  exact ⟨rfl, hB⟩
theorem bytes_any (x : S59) (A7 : Option Addr) (n7 c7 : Nat) (w : World) (v : Int) (hv : bytesOf x = v) : Calls Try.prog 42 #[.agg #[.int .i64 x.f0, .int .i64 x.f1, .int .i64 x.f2, .int .i64 x.f3, .int .i64 x.f4, .int .i64 x.f5, .string x.f6, .slice A7 n7 c7]] w fun e w' => e = .returned (.int .i64 v) ∧ Below w.heap.size w w' := by
  subst hv
  unfold bytesOf
  by_cases h : x.f0 = 1 ∨ x.f0 = 3
  · rw [if_pos h]
    exact bytes_is x A7 n7 c7 w h
  · rw [if_neg h]
    exact bytes_not x A7 n7 c7 w h

set_option maxHeartbeats 1000000 in
set_option maxRecDepth 100000 in
theorem sum_any (A0 : Option Addr) (c0 : Nat) (l0 : List S59) (m q : Int) (w : World) (hr : Kd.C k59 w A0 l0.length l0) (hb : l0.length ≤ 1000) :
    Calls Try.prog 41 #[.agg #[.slice A0 l0.length c0, .int .i64 m, .int .i64 q], .func (.func 42) #[] #[]] w fun e w' => e = .returned (.int .i64 (bytesSum l0 0)) ∧ Below w.heap.size w w' := by
  have hu24 := Try.underlying24
  have hu59 := Try.underlying59
  have HR := Aside0.mk hr
  have HB := Aside0.mk hb
  have H9 := Aside0.mk (show l0.length ≤ 9223372036854775807 by omega)
  have hB := below_alloc (Below.refl w.heap.size w) (.cells #[.slice A0 l0.length c0, .int .i64 m, .int .i64 q] 24)
  have HBW := Aside0.mk hB
  clear hr hb hB
  go_enter Try.func41, Try.ntmps41
  go_wp2_with fail
  go_loopg [4, 6, 10] l0.length (fun gg s4 _ s10 wr => ∃ kk : Nat, kk ≤ l0.length ∧ l0.length - kk ≤ gg ∧ s4 = .int .i64 (bytesSum (l0.take kk) 0) ∧ s10 = .int .i64 kk ∧ Aside0 (Below w.heap.size w wr))
  case atStart => exact ⟨0, Nat.zero_le _, by omega, rfl, rfl, HBW⟩
  case round =>
    obtain ⟨kk, hkk, hg, rfl, rfl, BW⟩ := hrel
    have HB1 := HB.out
    by_cases hlt : kk < l0.length
    · have hltz : (kk : Int) < (l0.length : Int) := by omega
      obtain ⟨ad, A7, c7, rfl, x0, x1, x2, x3, x4, x5, x6, x7, _, _⟩ := at_T59 (Kd.C_below HR.out BW.out) (kk : Int) (by omega) (by omega)
      simp only [Int.toNat_natCast] at x0 x1 x2 x3 x4 x5 x6 x7
      have hs : rd_T59 l0 (kk : Int) = l0[kk] := by simp [rd_T59, List.getD_eq_getElem?_getD, List.getElem?_eq_getElem hlt]
      have hE := Aside0.mk (show bytesSum (l0.take (kk + 1)) 0 = wrap64 (bytesSum (l0.take kk) 0 + bytesOf (rd_T59 l0 (kk : Int))) by rw [hs, ← bytesSum_snoc, List.take_succ_eq_append_getElem hlt])
      clear hs
      obtain ⟨v, hv⟩ : ∃ v, bytesOf (rd_T59 l0 (kk : Int)) = v := ⟨_, rfl⟩
      obtain ⟨s, es⟩ : ∃ s, bytesSum (l0.take kk) 0 = s := ⟨_, rfl⟩
      rw [es] at hE ⊢
      rw [hv] at hE
      go_wp2_with (go_at_call 42; refine (bytes_any (rd_T59 l0 (kk : Int)) _ _ _ _ v hv).mono ?_; rintro e w' ⟨rfl, hb'⟩; have BW2 := Aside0.mk hb')
      go_roundg (l0.length - (kk + 1))
      case measure => omega
      case rel =>
        exact ⟨kk + 1, by omega, by omega, by rw [hE.out], by go_num, ⟨below_step (below_alloc BW.out _) hb'⟩⟩
    · have hltz : ¬ (kk : Int) < (l0.length : Int) := by omega
      obtain rfl : kk = l0.length := by omega
      rw [List.take_length]
      go_wp2_with fail
      go_ret
      exact ⟨rfl, BW.out⟩

set_option maxHeartbeats 400000 in
theorem Bytes_any (A0 : Option Addr) (c0 : Nat) (l0 : List S59) (m q : Int) (w : World) (hr : Kd.C k59 w A0 l0.length l0) (hb : l0.length ≤ 1000) :
    Calls Try.prog 35 #[.agg #[.slice A0 l0.length c0, .int .i64 m, .int .i64 q]] w fun e w' => e = .returned (.int .i64 (bytesSum l0 0)) ∧ Below w.heap.size w w' := by
  have hu24 := Try.underlying24
  have hB := below_alloc (Below.refl w.heap.size w) (.cells #[.slice A0 l0.length c0, .int .i64 m, .int .i64 q] 24)
  have HR := Aside0.mk (Kd.C_below hr hB)
  have HB := Aside0.mk hb
  have HBW := Aside0.mk hB
  clear hr hb hB
  go_enter Try.func35, Try.ntmps35
  go_wp2_with (go_at_call 41; refine (sum_any A0 c0 l0 m q _ HR.out HB.out).mono ?_; rintro e w' ⟨rfl, hb'⟩; have B' := Aside0.mk hb')
  go_ret
  exact ⟨rfl, below_step HBW.out B'.out⟩
end Go.Proofs.Ytpeelfambaedkaa.P
