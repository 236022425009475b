/- Contracts of 'holders' as Holders calls it, by hand: how many are told with Shared, how many with Exclusive; no condition. -/
import Derived.Test.YtbfjakhloabhmaaHa
namespace Go.Proofs.Ytbfjakhloabhmaa.P
open Go.RowKit Go.Proofs.YtbfjakhloabhmaaW.PrintWords Go.Proofs.YtbfjakhloabhmaaW.PrintLast Go.Proofs.YtbfjakhloabhmaaW.PrintMore

def CountRel (w0 : World) (g h : Nat) (l : List S44) (ino : Int) (k : Nat) (wr : World) : Prop :=
  Below w0.heap.size w0 wr ∧ wr.heap[g]? = some (.cells #[.int .i64 (holdersOf (l.take k) ino 1)] 3 (0, 0)) ∧ wr.heap[h]? = some (.cells #[.int .i64 (holdersOf (l.take k) ino 2)] 3 (0, 0))

theorem CountRel.alloc {w0 : World} {g h : Nat} {l : List S44} {ino : Int} {k : Nat} {wr : World} (r : CountRel w0 g h l ino k wr) (o : Obj) : CountRel w0 g h l ino k (wr.alloc o) :=
  ⟨r.1.alloc r.1.size o, blk_alloc r.2.1 o, blk_alloc r.2.2 o⟩
theorem CountRel.no {w0 : World} {g h : Nat} {l : List S44} {ino : Int} {k : Nat} {wr : World} (r : CountRel w0 g h l ino k wr) (hk : k < l.length)
    (hn : ¬ ((rd_T44 l (k : Int)).f4 > 0 ∧ (rd_T44 l (k : Int)).f0 = ino ∧ ((rd_T44 l (k : Int)).f5 = 1 ∨ (rd_T44 l (k : Int)).f5 = 2))) : CountRel w0 g h l ino (k + 1) wr := by
  obtain ⟨a, b, c⟩ := r
  refine ⟨a, ?_, ?_⟩
  · rw [holdersOf_one l ino 1 k hk, if_neg (fun z => hn ⟨z.1, z.2.1, .inl z.2.2⟩)]
    exact b
  · rw [holdersOf_one l ino 2 k hk, if_neg (fun z => hn ⟨z.1, z.2.1, .inr z.2.2⟩)]
    exact c
theorem CountRel.one {w0 : World} {g h : Nat} {l : List S44} {ino : Int} {k : Nat} {wr : World} (r : CountRel w0 g h l ino k wr) (hne : g ≠ h) (hg : w0.heap.size ≤ g) (hk : k < l.length)
    (h4 : (rd_T44 l (k : Int)).f4 > 0) (h0 : (rd_T44 l (k : Int)).f0 = ino) (h5 : (rd_T44 l (k : Int)).f5 = 1) :
    CountRel w0 g h l ino (k + 1) (wr.setCell ⟨g, 0, none⟩ (.int .i64 ((holdersOf (l.take k) ino 1 : Int) + 1))) := by
  obtain ⟨a, b, c⟩ := r
  refine ⟨below_set a hg, ?_, ?_⟩
  · rw [holdersOf_one l ino 1 k hk, if_pos ⟨h4, h0, h5⟩]
    exact by simpa using blk_set b 0 _
  · rw [holdersOf_one l ino 2 k hk, if_neg (fun z => by have := z.2.2; omega)]
    exact blk_far (p := ⟨g, 0, none⟩) c hne.symm _
theorem CountRel.two {w0 : World} {g h : Nat} {l : List S44} {ino : Int} {k : Nat} {wr : World} (r : CountRel w0 g h l ino k wr) (hne : g ≠ h) (hh : w0.heap.size ≤ h) (hk : k < l.length)
    (h4 : (rd_T44 l (k : Int)).f4 > 0) (h0 : (rd_T44 l (k : Int)).f0 = ino) (h5 : (rd_T44 l (k : Int)).f5 = 2) :
    CountRel w0 g h l ino (k + 1) (wr.setCell ⟨h, 0, none⟩ (.int .i64 ((holdersOf (l.take k) ino 2 : Int) + 1))) := by
  obtain ⟨a, b, c⟩ := r
  refine ⟨below_set a hh, ?_, ?_⟩
  · rw [holdersOf_one l ino 1 k hk, if_neg (fun z => by have := z.2.2; omega)]
    exact blk_far (p := ⟨h, 0, none⟩) b hne _
  · rw [holdersOf_one l ino 2 k hk, if_pos ⟨h4, h0, h5⟩]
    exact by simpa using blk_set c 0 _

set_option maxHeartbeats 2000000 in
set_option maxRecDepth 100000 in
theorem holders_count (w0 w : World) (g h : Nat) (A : Option Addr) (c : Nat) (l : List S44) (v : Value) (ino : Int) (hne : g ≠ h) (hg : w0.heap.size ≤ g) (hh : w0.heap.size ≤ h)
    (hr : Kd.C k44 w0 A l.length l) (R0 : CountRel w0 g h l ino 0 w) :
    Calls Try.prog 20 #[.agg #[.slice A l.length c, v], .int .i64 ino, .func (.func 24) #[] #[.pointer (some ⟨g, 0, none⟩), .pointer (some ⟨h, 0, none⟩)]] w fun e w' => e = .returned (.tuple #[]) ∧ CountRel w0 g h l ino l.length w' := by
  have hu25 := Try.underlying25
  have hu44 := Try.underlying44
  have hmax : l.length ≤ 9223372036854775807 := hr.2.1
  have HR := Aside0.mk hr
  have HR0 := Aside0.mk R0
  have HNE := Aside0.mk hne
  have HG := Aside0.mk hg
  have HH := Aside0.mk hh
  clear hr R0 hne hg hh
  go_enter Try.func20, Try.ntmps20
  go_wp2
  go_loopw [11] (fun i wr => ∃ k : Nat, k ≤ l.length ∧ i = .int .i64 k ∧ Aside0 (CountRel w0 g h l ino k wr)) (fun i _ => l.length - (intOf i).toNat)
  case atStart => exact ⟨0, Nat.zero_le _, rfl, ⟨HR0.out.alloc _⟩⟩
  case round =>
    obtain ⟨k, hk, rfl, HREL⟩ := hrel
    by_cases hlt : k < l.length
    · obtain ⟨ad, rfl, x0, x1, x2, x3, x4, x5⟩ := at_T44 HR.out (k : Int) (by omega) (by omega)
      have mv : ∀ {a : Addr} {u : Value}, w0.cell? a = some u → wr.cell? a = some u := fun h => (HREL.out.1.cell (World.block_lt_of_cell? w0 _ h)).trans h
      replace x0 := mv x0
      replace x1 := mv x1
      replace x2 := mv x2
      replace x3 := mv x3
      replace x4 := mv x4
      replace x5 := mv x5
      clear mv
      simp only [Int.toNat_natCast] at x0 x1 x2 x3 x4 x5
      have hle1 := holdersOf_le (l.take k) ino 1
      have hle2 := holdersOf_le (l.take k) ino 2
      rw [List.length_take] at hle1 hle2
      have HLE := Aside0.mk (show (holdersOf (l.take k) ino 1 : Int) ≤ 9223372036854775806 ∧ (holdersOf (l.take k) ino 2 : Int) ≤ 9223372036854775806 by omega)
      clear hle1 hle2
      by_cases h4 : (rd_T44 l (k : Int)).f4 > 0
      · have b4 : decide (0 < (rd_T44 l (k : Int)).f4) = true := decide_eq_true h4
        have H4 := Aside0.mk h4
        clear h4
        by_cases h0 : (rd_T44 l (k : Int)).f0 = ino
        · have b0 : ((rd_T44 l (k : Int)).f0 == ino) = true := beq_iff_eq.mpr h0
          have H0 := Aside0.mk h0
          clear h0
          by_cases h5 : (rd_T44 l (k : Int)).f5 = 1
          · have H5 := Aside0.mk h5
            clear h5
            go_wp2_with (go_at_call 24; refine (cl24_one g h _ _ _ (holdersOf (l.take k) ino 1 : Int) H5.out (by omega) HLE.out.1 (blk_alloc HREL.out.2.1 _)).mono ?_; rintro e w' ⟨rfl, rfl⟩)
            go_roundw
            case rel => exact ⟨k + 1, by omega, by go_num, ⟨(HREL.out.alloc _).one HNE.out HG.out hlt H4.out H0.out H5.out⟩⟩
            case measure => simp [intOf]; omega
          · by_cases h6 : (rd_T44 l (k : Int)).f5 = 2
            · have H5 := Aside0.mk h6
              clear h5 h6
              go_wp2_with (go_at_call 24; refine (cl24_two g h _ _ _ (holdersOf (l.take k) ino 2 : Int) H5.out (by omega) HLE.out.2 (blk_alloc HREL.out.2.2 _)).mono ?_; rintro e w' ⟨rfl, rfl⟩)
              go_roundw
              case rel => exact ⟨k + 1, by omega, by go_num, ⟨(HREL.out.alloc _).two HNE.out HH.out hlt H4.out H0.out H5.out⟩⟩
              case measure => simp [intOf]; omega
            · have H5 := Aside0.mk h5
              have H6 := Aside0.mk h6
              clear h5 h6
              go_wp2_with (go_at_call 24; refine (cl24_no g h _ _ _ H5.out H6.out).mono ?_; rintro e w' ⟨rfl, rfl⟩)
              go_roundw
              case rel => exact ⟨k + 1, by omega, by go_num, ⟨(HREL.out.alloc _).no hlt (fun z => z.2.2.elim H5.out H6.out)⟩⟩
              case measure => simp [intOf]; omega
        · have b0 : ((rd_T44 l (k : Int)).f0 == ino) = false := beq_eq_false_iff_ne.mpr h0
          have H0 := Aside0.mk h0
          clear h0
          go_wp2_with fail
          go_roundw
          case rel => exact ⟨k + 1, by omega, by go_num, ⟨(HREL.out.alloc _).no hlt (fun z => H0.out z.2.1)⟩⟩
          case measure => simp [intOf]; omega
      · have b4 : decide (0 < (rd_T44 l (k : Int)).f4) = false := decide_eq_false h4
        have H4 := Aside0.mk h4
        clear h4
        go_wp2_with fail
        go_roundw
        case rel => exact ⟨k + 1, by omega, by go_num, ⟨(HREL.out.alloc _).no hlt (fun z => H4.out z.1)⟩⟩
        case measure => simp [intOf]; omega
    · have hkl : k = l.length := by omega
      subst hkl
      go_wp2_with fail
      go_end0
      exact ⟨rfl, HREL.out⟩
end Go.Proofs.Ytbfjakhloabhmaa.P
