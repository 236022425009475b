/- Contracts of Lock's closure and of 'holders' as Lock calls it, by hand: whether another one stands in the way; no condition. -/
import Derived.Test.YtbfjakhloabhmaaHc
namespace Go.Proofs.Ytbfjakhloabhmaa.P
open Go.RowKit Go.Proofs.YtbfjakhloabhmaaW.PrintWords Go.Proofs.YtbfjakhloabhmaaW.PrintLast Go.Proofs.YtbfjakhloabhmaaW.PrintMore

/-- the description at k, whose lock is this, stands in the way of i -/
def inWay (i kind k lock : Int) : Bool := decide (k ≠ i) && (decide (kind = 2) && decide (lock ≠ 0) || decide (kind = 1) && decide (lock = 2))
def blockedAt (l : List S44) (i ino kind : Int) (k : Nat) : Bool := decide ((rd_T44 l k).f4 > 0) && decide ((rd_T44 l k).f0 = ino) && inWay i kind k (rd_T44 l k).f5
def blockedTo (l : List S44) (i ino kind : Int) (n : Nat) : Bool := (List.range n).any (blockedAt l i ino kind)
theorem blockedTo_one (l : List S44) (i ino kind : Int) (n : Nat) : blockedTo l i ino kind (n + 1) = (blockedTo l i ino kind n || blockedAt l i ino kind n) := by
  simp [blockedTo, List.range_succ]
def errOf (b : Bool) : Int := if b = true then 14 else 0

section
variable (bi bk be : Nat) (W : World) (i kind k lock : Int)
set_option maxHeartbeats 800000 in
theorem cl21_yes (hy : inWay i kind k lock = true) (u : Value) (hI : W.heap[bi]? = some (.cells #[.int .i64 i] 3 (0, 0))) (hK : W.heap[bk]? = some (.cells #[.int .i64 kind] 3 (0, 0))) (hE : W.heap[be]? = some (.cells #[u] 28 (0, 0))) :
    Calls Try.prog 21 #[.int .i64 k, .int .i64 lock, .pointer (some ⟨bi, 0, none⟩), .pointer (some ⟨bk, 0, none⟩), .pointer (some ⟨be, 0, none⟩)] W fun e W' => e = .returned (.tuple #[]) ∧ W.setCell ⟨be, 0, none⟩ (.int .i64 14) = W' := by
  have c1 : W.cell? ⟨bi, 0, none⟩ = some (.int .i64 i) := (blk_cell hI 0).trans rfl
  have c2 : W.cell? ⟨bk, 0, none⟩ = some (.int .i64 kind) := (blk_cell hK 0).trans rfl
  have c3 : W.cell? ⟨be, 0, none⟩ = some u := (blk_cell hE 0).trans rfl
  have f3 := blk_frozen hE 0
  clear hI hK hE
  simp only [inWay, Bool.and_eq_true, Bool.or_eq_true, decide_eq_true_eq] at hy
  obtain ⟨h1, ⟨h2, h3⟩ | ⟨h2, h3⟩⟩ := hy
  · have t1 : (k != i) = true := bne_iff_ne.mpr h1
    have t3 : (lock != 0) = true := bne_iff_ne.mpr h3
    subst h2
    clear h1 h3
    go_enter Try.func21, Try.ntmps21
    go_wp2
    go_end0
    exact ⟨rfl, rfl⟩
  · have t1 : (k != i) = true := bne_iff_ne.mpr h1
    subst h2 h3
    clear h1
    go_enter Try.func21, Try.ntmps21
    go_wp2
    go_end0
    exact ⟨rfl, rfl⟩
set_option maxHeartbeats 800000 in
theorem cl21_no (hy : inWay i kind k lock = false) (hI : W.heap[bi]? = some (.cells #[.int .i64 i] 3 (0, 0))) (hK : W.heap[bk]? = some (.cells #[.int .i64 kind] 3 (0, 0))) :
    Calls Try.prog 21 #[.int .i64 k, .int .i64 lock, .pointer (some ⟨bi, 0, none⟩), .pointer (some ⟨bk, 0, none⟩), .pointer (some ⟨be, 0, none⟩)] W fun e W' => e = .returned (.tuple #[]) ∧ W = W' := by
  have c1 : W.cell? ⟨bi, 0, none⟩ = some (.int .i64 i) := (blk_cell hI 0).trans rfl
  have c2 : W.cell? ⟨bk, 0, none⟩ = some (.int .i64 kind) := (blk_cell hK 0).trans rfl
  clear hI hK
  by_cases h1 : k = i
  · subst h1
    have t1 : (k != k) = false := by simp
    clear hy
    go_enter Try.func21, Try.ntmps21
    go_wp2
    go_end0
    exact ⟨rfl, rfl⟩
  · have t1 : (k != i) = true := bne_iff_ne.mpr h1
    have hy2 : ¬ ((kind = 2 ∧ lock ≠ 0) ∨ (kind = 1 ∧ lock = 2)) := by
      intro h
      have : inWay i kind k lock = true := by simp only [inWay, Bool.and_eq_true, Bool.or_eq_true, decide_eq_true_eq]; exact ⟨h1, h⟩
      rw [hy] at this
      cases this
    clear hy h1
    by_cases h2 : kind = 2
    · have h3 : lock = 0 := Classical.byContradiction fun h => hy2 (.inl ⟨h2, h⟩)
      clear hy2
      subst h2 h3
      go_enter Try.func21, Try.ntmps21
      go_wp2
      go_end0
      exact ⟨rfl, rfl⟩
    · have t2 : (kind == 2) = false := beq_eq_false_iff_ne.mpr h2
      clear h2
      by_cases h3 : kind = 1
      · have h4 : lock ≠ 2 := fun h => hy2 (.inr ⟨h3, h⟩)
        have t4 : (lock == 2) = false := beq_eq_false_iff_ne.mpr h4
        clear hy2 h4 t2
        subst h3
        go_enter Try.func21, Try.ntmps21
        go_wp2
        go_end0
        exact ⟨rfl, rfl⟩
      · have t3 : (kind == 1) = false := beq_eq_false_iff_ne.mpr h3
        clear hy2 h3
        go_enter Try.func21, Try.ntmps21
        go_wp2
        go_end0
        exact ⟨rfl, rfl⟩
end

def LockRel (w0 ws : World) (bi bk be : Nat) (l : List S44) (i kind ino : Int) (k : Nat) (wr : World) : Prop :=
  Below w0.heap.size w0 wr ∧ wr.heap[bi]? = some (.cells #[.int .i64 i] 3 (0, 0)) ∧ wr.heap[bk]? = some (.cells #[.int .i64 kind] 3 (0, 0)) ∧ wr.heap[be]? = some (.cells #[.int .i64 (errOf (blockedTo l i ino kind k))] 28 (0, 0)) ∧ Kept ws wr (fun k => k = be)

section
variable {w0 ws : World} {bi bk be : Nat} {l : List S44} {i kind ino : Int} {k : Nat} {wr : World}
theorem LockRel.alloc (r : LockRel w0 ws bi bk be l i kind ino k wr) (o : Obj) : LockRel w0 ws bi bk be l i kind ino k (wr.alloc o) :=
  ⟨r.1.alloc r.1.size o, blk_alloc r.2.1 o, blk_alloc r.2.2.1 o, blk_alloc r.2.2.2.1 o, r.2.2.2.2.alloc o⟩
theorem LockRel.no (r : LockRel w0 ws bi bk be l i kind ino k wr) (hn : blockedAt l i ino kind k = false) : LockRel w0 ws bi bk be l i kind ino (k + 1) wr := by
  obtain ⟨a, b, c, d, e⟩ := r
  exact ⟨a, b, c, by rw [blockedTo_one, hn, Bool.or_false]; exact d, e⟩
theorem LockRel.yes (r : LockRel w0 ws bi bk be l i kind ino k wr) (hi : bi ≠ be) (hk : bk ≠ be) (he : w0.heap.size ≤ be) (hn : blockedAt l i ino kind k = true) : LockRel w0 ws bi bk be l i kind ino (k + 1) (wr.setCell ⟨be, 0, none⟩ (.int .i64 14)) := by
  obtain ⟨a, b, c, d, e⟩ := r
  refine ⟨below_set a he, blk_far (p := ⟨be, 0, none⟩) b hi _, blk_far (p := ⟨be, 0, none⟩) c hk _, ?_, e.setCell (.inl rfl) _⟩
  rw [blockedTo_one, hn, Bool.or_true]
  exact by simpa [errOf] using blk_set d 0 (.int .i64 14)
end

set_option maxHeartbeats 2000000 in
set_option maxRecDepth 100000 in
theorem holders_lock (w0 ws w : World) (bi bk be : Nat) (A : Option Addr) (c : Nat) (l : List S44) (v : Value) (i kind ino : Int) (hi : bi ≠ be) (hkk : bk ≠ be) (he : w0.heap.size ≤ be)
    (hr : Kd.C k44 w0 A l.length l) (R0 : LockRel w0 ws bi bk be l i kind ino 0 w) :
    Calls Try.prog 20 #[.agg #[.slice A l.length c, v], .int .i64 ino, .func (.func 21) #[] #[.pointer (some ⟨bi, 0, none⟩), .pointer (some ⟨bk, 0, none⟩), .pointer (some ⟨be, 0, none⟩)]] w fun e w' => e = .returned (.tuple #[]) ∧ LockRel w0 ws bi bk be l i kind ino l.length w' := by
  have hu25 := Try.underlying25
  have hu44 := Try.underlying44
  have hmax : l.length ≤ 9223372036854775807 := hr.2.1
  have HR := Aside0.mk hr
  have HR0 := Aside0.mk R0
  have HI := Aside0.mk hi
  have HK := Aside0.mk hkk
  have HE := Aside0.mk he
  clear hr R0 hi hkk he
  go_enter Try.func20, Try.ntmps20
  go_wp2
  go_loopw [11] (fun j wr => ∃ k : Nat, k ≤ l.length ∧ j = .int .i64 k ∧ Aside0 (LockRel w0 ws bi bk be l i kind ino k wr)) (fun j _ => l.length - (intOf j).toNat)
  case atStart => exact ⟨0, Nat.zero_le _, rfl, ⟨HR0.out.alloc _⟩⟩
  case round =>
    obtain ⟨k, hk, rfl, HREL⟩ := hrel
    by_cases hlt : k < l.length
    · obtain ⟨ad, rfl, x0, x1, x2, x3, x4, x5⟩ := at_T44 HR.out (k : Int) (by omega) (by omega)
      have mv : ∀ {a : Addr} {u : Value}, w0.cell? a = some u → wr.cell? a = some u := fun h => (HREL.out.1.cell (World.block_lt_of_cell? w0 _ h)).trans h
      replace x0 := mv x0
      replace x1 := mv x1
      replace x2 := mv x2
      replace x3 := mv x3
      replace x4 := mv x4
      replace x5 := mv x5
      clear mv
      simp only [Int.toNat_natCast] at x0 x1 x2 x3 x4 x5
      by_cases h4 : (rd_T44 l (k : Int)).f4 > 0
      · have b4 : decide (0 < (rd_T44 l (k : Int)).f4) = true := decide_eq_true h4
        by_cases h0 : (rd_T44 l (k : Int)).f0 = ino
        · have b0 : ((rd_T44 l (k : Int)).f0 == ino) = true := beq_iff_eq.mpr h0
          cases hw : inWay i kind k (rd_T44 l (k : Int)).f5 with
          | true =>
            have HA := Aside0.mk (show blockedAt l i ino kind k = true by simp [blockedAt, h4, h0, hw])
            have HW := Aside0.mk hw
            clear h0 h4 hw
            go_wp2_with (go_at_call 21; refine (cl21_yes bi bk be _ i kind _ _ HW.out _ (blk_alloc HREL.out.2.1 _) (blk_alloc HREL.out.2.2.1 _) (blk_alloc HREL.out.2.2.2.1 _)).mono ?_; rintro e w' ⟨rfl, rfl⟩)
            go_roundw
            case rel => exact ⟨k + 1, by omega, by go_num, ⟨(HREL.out.alloc _).yes HI.out HK.out HE.out HA.out⟩⟩
            case measure => simp [intOf]; omega
          | false =>
            have HA := Aside0.mk (show blockedAt l i ino kind k = false by simp [blockedAt, hw])
            have HW := Aside0.mk hw
            clear h0 h4 hw
            go_wp2_with (go_at_call 21; refine (cl21_no bi bk be _ i kind _ _ HW.out (blk_alloc HREL.out.2.1 _) (blk_alloc HREL.out.2.2.1 _)).mono ?_; rintro e w' ⟨rfl, rfl⟩)
            go_roundw
            case rel => exact ⟨k + 1, by omega, by go_num, ⟨(HREL.out.alloc _).no HA.out⟩⟩
            case measure => simp [intOf]; omega
        · have b0 : ((rd_T44 l (k : Int)).f0 == ino) = false := beq_eq_false_iff_ne.mpr h0
          have HA := Aside0.mk (show blockedAt l i ino kind k = false by simp [blockedAt, h0])
          clear h0 h4
          go_wp2_with fail
          go_roundw
          case rel => exact ⟨k + 1, by omega, by go_num, ⟨(HREL.out.alloc _).no HA.out⟩⟩
          case measure => simp [intOf]; omega
      · have b4 : decide (0 < (rd_T44 l (k : Int)).f4) = false := decide_eq_false h4
        have HA := Aside0.mk (show blockedAt l i ino kind k = false by simp [blockedAt, h4])
        clear h4
        go_wp2_with fail
        go_roundw
        case rel => exact ⟨k + 1, by omega, by go_num, ⟨(HREL.out.alloc _).no HA.out⟩⟩
        case measure => simp [intOf]; omega
    · have hkl : k = l.length := by omega
      subst hkl
      go_wp2_with fail
      go_end0
      exact ⟨rfl, HREL.out⟩
end Go.Proofs.Ytbfjakhloabhmaa.P
