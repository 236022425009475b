/- content.file, whatever it says; what turned leaves. -/
import Derived.Test.YtpeelfambaedkaaHj
import Derived.Test.YtpeelfambaedkaaPcontentfile
namespace Go.Proofs.Ytpeelfambaedkaa.P
open Go.RowKit Go.Proofs.YtpeelfambaedkaaW.PrintWords Go.Proofs.YtpeelfambaedkaaW.PrintLast Go.Proofs.YtpeelfambaedkaaW.PrintMore

theorem File_any (A0 : Option Addr) (c0 : Nat) (l0 : List S59) (m q ino : Int) (r1 r2 r3 r4 r5 r6 : Int) (r7 : ByteArray) (r8 : List S76) (r9 : Int) (w : World) (hr : Kd.C k59 w A0 l0.length l0) (hc : l0.length ≤ c0) (h : content_file.f l0 m q ino = some (r1, r2, r3, r4, r5, r6, r7, r8, r9)) :
    Calls Try.prog 24 #[.agg #[.slice A0 l0.length c0, .int .i64 m, .int .i64 q], .int .i64 ino] w fun e w' => ∃ (A : Option Addr) (n c : Nat), e = .returned (.tuple #[.agg #[.int .i64 r1, .int .i64 r2, .int .i64 r3, .int .i64 r4, .int .i64 r5, .int .i64 r6, .string r7, .slice A n c], .int .i64 r9]) ∧ Below w.heap.size w w' := by
  refine (content_file.calls (fun k_ => k_ < w.heap.size) A0 c0 l0 m q ino r1 r2 r3 r4 r5 r6 r7 r8 r9 w (Kd.V_mk hc (Kd.C_F k59_heap hr)) h).mono ?_
  rintro e w' ⟨v, rfl, hv, hb⟩
  obtain ⟨A, c, rfl⟩ := Kd.V_slice hv
  exact ⟨A, _, c, rfl, hb⟩
/-- what turned leaves: the disk as it was, or another one of which one node is another -/
def Outcome (base : Nat) (len : Nat) (want : List Value) (ad : Addr) (c0 : Nat) (code : Int) (A : Option Addr) (c : Nat) (w : World) : Prop :=
  (code = 10 ∧ A = some ad ∧ c = c0) ∨ (code = 0 ∧ ∃ (g : Nat) (cur : Array Value), A = some ⟨g, 0, none⟩ ∧ base ≤ g ∧ len ≤ c ∧ w.heap[g]? = some (.cells cur 59 (0, 0)) ∧ cur.toList.take (len * 8) = want)
theorem Outcome_far {base len : Nat} {want : List Value} {ad : Addr} {c0 : Nat} {code : Int} {A : Option Addr} {c : Nat} {w : World} (h : Outcome base len want ad c0 code A c w) {p : Addr} (hp : p.block < base) (u : Value) : Outcome base len want ad c0 code A c (w.setCell p u) := by
  rcases h with h | ⟨h0, g, cur, h1, h2, h3, h4, h5⟩
  · exact .inl h
  · exact .inr ⟨h0, g, cur, h1, h2, h3, blk_far (p := p) h4 (by omega) u, h5⟩
end Go.Proofs.Ytpeelfambaedkaa.P
