/- What the functions of this seat hand back, told of tables as facts that stay; written by wip/mkTc.py. -/
import Derived.Test.YtkecfdljodiifaaPK
import Derived.Test.YtkecfdljodiifaaV
import Derived.Test.YtkecfdljodiifaaPhandleOpen
import Derived.Test.YtkecfdljodiifaaPhandleDup
import Derived.Test.YtkecfdljodiifaaPhandleClose
import Derived.Test.YtkecfdljodiifaaPhandleSet
import Derived.Test.YtkecfdljodiifaaPref10Open
import Derived.Test.YtkecfdljodiifaaPref10Dup
import Derived.Test.YtkecfdljodiifaaPref10Close
import Derived.Test.YtkecfdljodiifaaPref10Set
import Derived.Test.YtkecfdljodiifaaPlaw10its
namespace Go.Proofs.Ytkecfdljodiifaa.P
open Go.RowKit Go.Proofs.YtkecfdljodiifaaW.PrintWords Go.Proofs.YtkecfdljodiifaaW.PrintLast Go.Proofs.YtkecfdljodiifaaW.PrintMore

/-- a fact that stays -/
def Stable (F : World → Prop) : Prop := ∀ w w' : World, F w → Below w.heap.size w w' → F w'
/-- facts that hold, each of which stays -/
def Env : List (World → Prop) → World → Prop
  | [], _ => True
  | F :: L, w => (F w ∧ Stable F) ∧ Env L w
theorem Env.below : ∀ {L : List (World → Prop)} {w w' : World}, Env L w → Below w.heap.size w w' → Env L w'
  | [], _, _, _, _ => True.intro
  | _ :: _, _, _, h, hb => ⟨⟨h.1.2 _ _ h.1.1 hb, h.1.2⟩, Env.below h.2 hb⟩
theorem Env.nil (w : World) : Env [] w := True.intro
theorem Env.cons {F : World → Prop} {L : List (World → Prop)} {w : World} (hs : Stable F) (h : F w) (hE : Env L w) : Env (F :: L) w := ⟨⟨h, hs⟩, hE⟩
theorem Env.drewN {L : List (World → Prop)} {w : World} {n : Nat} (h : Env L w) : Env L (w.drewN n) := h.below (pw_below_drewN (Below.refl _ _) n)
theorem Env.drew {L : List (World → Prop)} {w : World} (h : Env L w) : Env L w.drew := h.below (below_drew1 (Below.refl _ _))
theorem Env.alloc {L : List (World → Prop)} {w : World} {o : Obj} (h : Env L w) : Env L (w.alloc o) := h.below (below_alloc (Below.refl _ _) o)
/-- a variable in memory -/
def Bx (g : Nat) (cs : Array Value) (t : TypeId) (w : World) : Prop := w.heap[g]? = some (.cells cs t (0, 0))
theorem Bx.st (g : Nat) (cs : Array Value) (t : TypeId) : Stable (Bx g cs t) := fun _ _ h hb => blk_below h hb
/-- a table of the program's, a table of the reference's -/
def T38 (A0 : Option Addr) (c0 : Nat) (ds : List S38) (A1 : Option Addr) (c1 : Nat) (fs : List (List Int)) (w : World) : Prop :=
  (ds.length ≤ c0 ∧ Kd.C k38 w A0 ds.length ds) ∧ fs.length ≤ c1 ∧ Kd.C (Kd.slice 3 (Kd.int .i64)) w A1 fs.length fs
def T54 (A0 : Option Addr) (c0 : Nat) (ds : List S54) (A1 : Option Addr) (c1 : Nat) (fs : List (List Int)) (w : World) : Prop :=
  (ds.length ≤ c0 ∧ Kd.C k54 w A0 ds.length ds) ∧ fs.length ≤ c1 ∧ Kd.C (Kd.slice 3 (Kd.int .i64)) w A1 fs.length fs
theorem T38.st (A0 : Option Addr) (c0 : Nat) (ds : List S38) (A1 : Option Addr) (c1 : Nat) (fs : List (List Int)) : Stable (T38 A0 c0 ds A1 c1 fs) :=
  fun _ _ h hb => ⟨⟨h.1.1, Kd.C_below h.1.2 hb⟩, h.2.1, Kd.C_below h.2.2 hb⟩
theorem T54.st (A0 : Option Addr) (c0 : Nat) (ds : List S54) (A1 : Option Addr) (c1 : Nat) (fs : List (List Int)) : Stable (T54 A0 c0 ds A1 c1 fs) :=
  fun _ _ h hb => ⟨⟨h.1.1, Kd.C_below h.1.2 hb⟩, h.2.1, Kd.C_below h.2.2 hb⟩
/-- from here on the world has a name, and what is held of it -/
theorem to_env {P : Program} {c : Code} {Q : Exit → Act → World → Prop} {a : Act} {W w0 : World} {L : List (World → Prop)} (hE : Env L W) (hB : Below w0.heap.size w0 W)
    (h : ∀ w' : World, Aside0 (Env L w') → Aside0 (Below w0.heap.size w0 w') → c.wp P Q a w') : c.wp P Q a W := h W ⟨hE⟩ ⟨hB⟩
theorem Pe_ {p q : Prop} (h : p) (t : p → q := by intro h_; (with_reducible repeat (first | apply Env.alloc | apply Env.drewN | apply Env.drew)); exact h_) : q := t h
theorem Bx2 {g : Nat} {v0 v1 : Value} {t : TypeId} {w : World} (h : Bx g #[v0, v1] t w) : (w.cell? ⟨g, 0, none⟩ = some v0 ∧ w.cell? ⟨g, 1, none⟩ = some v1) ∧ w.frozen? ⟨g, 0, none⟩ = false ∧ w.frozen? ⟨g, 1, none⟩ = false :=
  ⟨⟨(blk_cell h 0).trans rfl, (blk_cell h 1).trans rfl⟩, blk_frozen h 0, blk_frozen h 1⟩
theorem Bx6 {g : Nat} {v0 v1 v2 v3 v4 v5 : Value} {t : TypeId} {w : World} (h : Bx g #[v0, v1, v2, v3, v4, v5] t w) :
    (w.cell? ⟨g, 0, none⟩ = some v0 ∧ w.cell? ⟨g, 1, none⟩ = some v1 ∧ w.cell? ⟨g, 2, none⟩ = some v2 ∧ w.cell? ⟨g, 3, none⟩ = some v3 ∧ w.cell? ⟨g, 4, none⟩ = some v4 ∧ w.cell? ⟨g, 5, none⟩ = some v5) ∧
      w.frozen? ⟨g, 0, none⟩ = false ∧ w.frozen? ⟨g, 1, none⟩ = false ∧ w.frozen? ⟨g, 2, none⟩ = false ∧ w.frozen? ⟨g, 3, none⟩ = false ∧ w.frozen? ⟨g, 4, none⟩ = false ∧ w.frozen? ⟨g, 5, none⟩ = false :=
  ⟨⟨(blk_cell h 0).trans rfl, (blk_cell h 1).trans rfl, (blk_cell h 2).trans rfl, (blk_cell h 3).trans rfl, (blk_cell h 4).trans rfl, (blk_cell h 5).trans rfl⟩,
    blk_frozen h 0, blk_frozen h 1, blk_frozen h 2, blk_frozen h 3, blk_frozen h 4, blk_frozen h 5⟩
theorem of_V {α : Type} {k : Kd α} {t : TypeId} {w : World} {base : Nat} {ok : Nat → Prop} {v : Value} {l : List α} (h : Kd.V k t w base ok v l) :
    ∃ (A : Option Addr) (c : Nat), v = .slice A l.length c ∧ l.length ≤ c ∧ Kd.C k w A l.length l := by
  obtain ⟨A, c, e⟩ := Kd.V_slice h
  subst e
  exact ⟨A, c, rfl, (Kd.V_reads' h).2.1, (Kd.V_reads' h).2.2⟩
theorem its_T {k : Nat} {A0 : Option Addr} {c0 : Nat} {ds : List S38} {A1 : Option Addr} {c1 : Nat} {fs : List (List Int)} {ds2 : List S54} {fs2 : List (List Int)} {w : World} (hT : T38 A0 c0 ds A1 c1 fs w) (h : flagstonelaw10_its.f k ds fs = some (ds2, fs2)) :
    Calls Try.prog 14 #[.agg #[.slice A0 ds.length c0, .slice A1 fs.length c1]] w fun en w' => ∃ (B0 : Option Addr) (b0 : Nat) (B1 : Option Addr) (b1 : Nat), en = .returned (.agg #[.slice B0 ds2.length b0, .slice B1 fs2.length b1]) ∧ T54 B0 b0 ds2 B1 b1 fs2 w' ∧ Below w.heap.size w w' := by
  refine (flagstonelaw10_its.calls k A0 c0 ds _ A1 c1 fs ds2 fs2 w hT.1.2 hT.1.1 (Kd.V_mk hT.2.1 (Kd.C_F (Kd.heap_slice 3 (Kd.heap_int .i64)) hT.2.2)) h).mono ?_
  rintro en w' ⟨v0, v1, rfl, h0, h1, hb⟩
  obtain ⟨B0, b0, rfl, l0, r0⟩ := of_V (Kd.R_V (base' := 0) h0)
  obtain ⟨B1, b1, rfl, l1, r1⟩ := of_V h1
  exact ⟨B0, b0, B1, b1, rfl, ⟨⟨l0, r0⟩, l1, r1⟩, hb⟩
theorem Open_T {A0 : Option Addr} {c0 : Nat} {ds : List S38} {A1 : Option Addr} {c1 : Nat} {fs : List (List Int)} {p : Int} {x0 x1 : Int} {x2 x3 : Bool} {x4 x5 : Int} {ds2 : List S38} {fs2 : List (List Int)} {i e : Int} {w : World} (hT : T38 A0 c0 ds A1 c1 fs w) (h : handle_Open.f ds fs p x0 x1 x2 x3 x4 x5 = some (ds2, fs2, i, e)) :
    Calls Try.prog 19 #[.agg #[.slice A0 ds.length c0, .slice A1 fs.length c1], .int .i64 p, .agg #[.int .i64 x0, .int .i64 x1, .bool x2, .bool x3, .int .i64 x4, .int .i64 x5]] w fun en w' => ∃ (B0 : Option Addr) (b0 : Nat) (B1 : Option Addr) (b1 : Nat), en = .returned (.tuple #[.agg #[.slice B0 ds2.length b0, .slice B1 fs2.length b1], .int .i64 i, .int .i64 e]) ∧ T38 B0 b0 ds2 B1 b1 fs2 w' ∧ Below w.heap.size w w' := by
  refine (handle_Open.calls _ A0 c0 ds _ A1 c1 fs p x0 x1 x2 x3 x4 x5 ds2 fs2 i e w (Kd.V_mk hT.1.1 (Kd.C_F k38_heap hT.1.2)) (Kd.V_mk hT.2.1 (Kd.C_F (Kd.heap_slice 3 (Kd.heap_int .i64)) hT.2.2)) h).mono ?_
  rintro en w' ⟨v0, v1, rfl, h0, h1, hb⟩
  obtain ⟨B0, b0, rfl, l0, r0⟩ := of_V h0
  obtain ⟨B1, b1, rfl, l1, r1⟩ := of_V h1
  exact ⟨B0, b0, B1, b1, rfl, ⟨⟨l0, r0⟩, l1, r1⟩, hb⟩
theorem Dup_T {A0 : Option Addr} {c0 : Nat} {ds : List S38} {A1 : Option Addr} {c1 : Nat} {fs : List (List Int)} {p d : Int} {ds2 : List S38} {fs2 : List (List Int)} {i e : Int} {w : World} (hT : T38 A0 c0 ds A1 c1 fs w) (h : handle_Dup.f ds fs p d = some (ds2, fs2, i, e)) :
    Calls Try.prog 24 #[.agg #[.slice A0 ds.length c0, .slice A1 fs.length c1], .int .i64 p, .int .i64 d] w fun en w' => ∃ (B0 : Option Addr) (b0 : Nat) (B1 : Option Addr) (b1 : Nat), en = .returned (.tuple #[.agg #[.slice B0 ds2.length b0, .slice B1 fs2.length b1], .int .i64 i, .int .i64 e]) ∧ T38 B0 b0 ds2 B1 b1 fs2 w' ∧ Below w.heap.size w w' := by
  refine (handle_Dup.calls _ A0 c0 ds _ A1 c1 fs p d ds2 fs2 i e w (Kd.V_mk hT.1.1 (Kd.C_F k38_heap hT.1.2)) (Kd.V_mk hT.2.1 (Kd.C_F (Kd.heap_slice 3 (Kd.heap_int .i64)) hT.2.2)) h).mono ?_
  rintro en w' ⟨v0, v1, rfl, h0, h1, hb⟩
  obtain ⟨B0, b0, rfl, l0, r0⟩ := of_V h0
  obtain ⟨B1, b1, rfl, l1, r1⟩ := of_V h1
  exact ⟨B0, b0, B1, b1, rfl, ⟨⟨l0, r0⟩, l1, r1⟩, hb⟩
theorem Close_T {A0 : Option Addr} {c0 : Nat} {ds : List S38} {A1 : Option Addr} {c1 : Nat} {fs : List (List Int)} {p d : Int} {ds2 : List S38} {fs2 : List (List Int)} {y0 y1 : Int} {y2 y3 : Bool} {y4 y5 : Int} {e : Int} {w : World} (hT : T38 A0 c0 ds A1 c1 fs w) (h : handle_Close.f ds fs p d = some (ds2, fs2, y0, y1, y2, y3, y4, y5, e)) :
    Calls Try.prog 21 #[.agg #[.slice A0 ds.length c0, .slice A1 fs.length c1], .int .i64 p, .int .i64 d] w fun en w' => ∃ (B0 : Option Addr) (b0 : Nat) (B1 : Option Addr) (b1 : Nat), en = .returned (.tuple #[.agg #[.slice B0 ds2.length b0, .slice B1 fs2.length b1], .agg #[.int .i64 y0, .int .i64 y1, .bool y2, .bool y3, .int .i64 y4, .int .i64 y5], .int .i64 e]) ∧ T38 B0 b0 ds2 B1 b1 fs2 w' ∧ Below w.heap.size w w' := by
  refine (handle_Close.calls _ A0 c0 ds _ A1 c1 fs p d ds2 fs2 y0 y1 y2 y3 y4 y5 e w (Kd.V_mk hT.1.1 (Kd.C_F k38_heap hT.1.2)) (Kd.V_mk hT.2.1 (Kd.C_F (Kd.heap_slice 3 (Kd.heap_int .i64)) hT.2.2)) h).mono ?_
  rintro en w' ⟨v0, v1, rfl, h0, h1, hb⟩
  obtain ⟨B0, b0, rfl, l0, r0⟩ := of_V h0
  obtain ⟨B1, b1, rfl, l1, r1⟩ := of_V h1
  exact ⟨B0, b0, B1, b1, rfl, ⟨⟨l0, r0⟩, l1, r1⟩, hb⟩
theorem Set_T {A0 : Option Addr} {c0 : Nat} {ds : List S38} {A1 : Option Addr} {c1 : Nat} {fs : List (List Int)} {p : Int} {x0 x1 : Int} {x2 x3 : Bool} {x4 x5 : Int} {ds2 : List S38} {fs2 : List (List Int)} {w : World} (hT : T38 A0 c0 ds A1 c1 fs w) (h : handle_Set.f ds fs p x0 x1 x2 x3 x4 x5 = some (ds2, fs2)) :
    Calls Try.prog 30 #[.agg #[.slice A0 ds.length c0, .slice A1 fs.length c1], .int .i64 p, .agg #[.int .i64 x0, .int .i64 x1, .bool x2, .bool x3, .int .i64 x4, .int .i64 x5]] w fun en w' => ∃ (B0 : Option Addr) (b0 : Nat) (B1 : Option Addr) (b1 : Nat), en = .returned (.agg #[.slice B0 ds2.length b0, .slice B1 fs2.length b1]) ∧ T38 B0 b0 ds2 B1 b1 fs2 w' ∧ Below w.heap.size w w' := by
  refine (handle_Set.calls _ A0 c0 ds _ A1 c1 fs p x0 x1 x2 x3 x4 x5 ds2 fs2 w (Kd.V_mk hT.1.1 (Kd.C_F k38_heap hT.1.2)) (Kd.V_mk hT.2.1 (Kd.C_F (Kd.heap_slice 3 (Kd.heap_int .i64)) hT.2.2)) h).mono ?_
  rintro en w' ⟨v0, v1, rfl, h0, h1, hb⟩
  obtain ⟨B0, b0, rfl, l0, r0⟩ := of_V h0
  obtain ⟨B1, b1, rfl, l1, r1⟩ := of_V h1
  exact ⟨B0, b0, B1, b1, rfl, ⟨⟨l0, r0⟩, l1, r1⟩, hb⟩
theorem rOpen_T {k : Nat} {A0 : Option Addr} {c0 : Nat} {ds : List S54} {A1 : Option Addr} {c1 : Nat} {fs : List (List Int)} {p : Int} {x0 x1 : Int} {x2 x3 : Bool} {x4 x5 : Int} {ds2 : List S54} {fs2 : List (List Int)} {i e : Int} {w : World} (hT : T54 A0 c0 ds A1 c1 fs w) (h : flagstoneref10_Open.f k ds fs p x0 x1 x2 x3 x4 x5 = some (ds2, fs2, i, e)) :
    Calls Try.prog 25 #[.agg #[.slice A0 ds.length c0, .slice A1 fs.length c1], .int .i64 p, .agg #[.int .i64 x0, .int .i64 x1, .bool x2, .bool x3, .int .i64 x4, .int .i64 x5]] w fun en w' => ∃ (B0 : Option Addr) (b0 : Nat) (B1 : Option Addr) (b1 : Nat), en = .returned (.tuple #[.agg #[.slice B0 ds2.length b0, .slice B1 fs2.length b1], .int .i64 i, .int .i64 e]) ∧ T54 B0 b0 ds2 B1 b1 fs2 w' ∧ Below w.heap.size w w' := by
  refine (flagstoneref10_Open.calls k _ A0 c0 ds _ A1 c1 fs p x0 x1 x2 x3 x4 x5 ds2 fs2 i e w (Kd.V_mk hT.1.1 (Kd.C_F k54_heap hT.1.2)) (Kd.V_mk hT.2.1 (Kd.C_F (Kd.heap_slice 3 (Kd.heap_int .i64)) hT.2.2)) h).mono ?_
  rintro en w' ⟨v0, v1, rfl, h0, h1, hb⟩
  obtain ⟨B0, b0, rfl, l0, r0⟩ := of_V h0
  obtain ⟨B1, b1, rfl, l1, r1⟩ := of_V h1
  exact ⟨B0, b0, B1, b1, rfl, ⟨⟨l0, r0⟩, l1, r1⟩, hb⟩
theorem rDup_T {k : Nat} {A0 : Option Addr} {c0 : Nat} {ds : List S54} {A1 : Option Addr} {c1 : Nat} {fs : List (List Int)} {p d : Int} {ds2 : List S54} {fs2 : List (List Int)} {i e : Int} {w : World} (hT : T54 A0 c0 ds A1 c1 fs w) (h : flagstoneref10_Dup.f k ds fs p d = some (ds2, fs2, i, e)) :
    Calls Try.prog 26 #[.agg #[.slice A0 ds.length c0, .slice A1 fs.length c1], .int .i64 p, .int .i64 d] w fun en w' => ∃ (B0 : Option Addr) (b0 : Nat) (B1 : Option Addr) (b1 : Nat), en = .returned (.tuple #[.agg #[.slice B0 ds2.length b0, .slice B1 fs2.length b1], .int .i64 i, .int .i64 e]) ∧ T54 B0 b0 ds2 B1 b1 fs2 w' ∧ Below w.heap.size w w' := by
  refine (flagstoneref10_Dup.calls k _ A0 c0 ds _ A1 c1 fs p d ds2 fs2 i e w (Kd.V_mk hT.1.1 (Kd.C_F k54_heap hT.1.2)) (Kd.V_mk hT.2.1 (Kd.C_F (Kd.heap_slice 3 (Kd.heap_int .i64)) hT.2.2)) h).mono ?_
  rintro en w' ⟨v0, v1, rfl, h0, h1, hb⟩
  obtain ⟨B0, b0, rfl, l0, r0⟩ := of_V h0
  obtain ⟨B1, b1, rfl, l1, r1⟩ := of_V h1
  exact ⟨B0, b0, B1, b1, rfl, ⟨⟨l0, r0⟩, l1, r1⟩, hb⟩
theorem rClose_T {k : Nat} {A0 : Option Addr} {c0 : Nat} {ds : List S54} {A1 : Option Addr} {c1 : Nat} {fs : List (List Int)} {p d : Int} {ds2 : List S54} {fs2 : List (List Int)} {y0 y1 : Int} {y2 y3 : Bool} {y4 y5 : Int} {e : Int} {w : World} (hT : T54 A0 c0 ds A1 c1 fs w) (h : flagstoneref10_Close.f k ds fs p d = some (ds2, fs2, y0, y1, y2, y3, y4, y5, e)) :
    Calls Try.prog 27 #[.agg #[.slice A0 ds.length c0, .slice A1 fs.length c1], .int .i64 p, .int .i64 d] w fun en w' => ∃ (B0 : Option Addr) (b0 : Nat) (B1 : Option Addr) (b1 : Nat), en = .returned (.tuple #[.agg #[.slice B0 ds2.length b0, .slice B1 fs2.length b1], .agg #[.int .i64 y0, .int .i64 y1, .bool y2, .bool y3, .int .i64 y4, .int .i64 y5], .int .i64 e]) ∧ T54 B0 b0 ds2 B1 b1 fs2 w' ∧ Below w.heap.size w w' := by
  refine (flagstoneref10_Close.calls k _ A0 c0 ds _ A1 c1 fs p d ds2 fs2 y0 y1 y2 y3 y4 y5 e w (Kd.V_mk hT.1.1 (Kd.C_F k54_heap hT.1.2)) (Kd.V_mk hT.2.1 (Kd.C_F (Kd.heap_slice 3 (Kd.heap_int .i64)) hT.2.2)) h).mono ?_
  rintro en w' ⟨v0, v1, rfl, h0, h1, hb⟩
  obtain ⟨B0, b0, rfl, l0, r0⟩ := of_V h0
  obtain ⟨B1, b1, rfl, l1, r1⟩ := of_V h1
  exact ⟨B0, b0, B1, b1, rfl, ⟨⟨l0, r0⟩, l1, r1⟩, hb⟩
theorem rSet_T {k : Nat} {A0 : Option Addr} {c0 : Nat} {ds : List S54} {A1 : Option Addr} {c1 : Nat} {fs : List (List Int)} {p : Int} {x0 x1 : Int} {x2 x3 : Bool} {x4 x5 : Int} {ds2 : List S54} {fs2 : List (List Int)} {w : World} (hT : T54 A0 c0 ds A1 c1 fs w) (h : flagstoneref10_Set.f k ds fs p x0 x1 x2 x3 x4 x5 = some (ds2, fs2)) :
    Calls Try.prog 31 #[.agg #[.slice A0 ds.length c0, .slice A1 fs.length c1], .int .i64 p, .agg #[.int .i64 x0, .int .i64 x1, .bool x2, .bool x3, .int .i64 x4, .int .i64 x5]] w fun en w' => ∃ (B0 : Option Addr) (b0 : Nat) (B1 : Option Addr) (b1 : Nat), en = .returned (.agg #[.slice B0 ds2.length b0, .slice B1 fs2.length b1]) ∧ T54 B0 b0 ds2 B1 b1 fs2 w' ∧ Below w.heap.size w w' := by
  refine (flagstoneref10_Set.calls k _ A0 c0 ds _ A1 c1 fs p x0 x1 x2 x3 x4 x5 ds2 fs2 w (Kd.V_mk hT.1.1 (Kd.C_F k54_heap hT.1.2)) (Kd.V_mk hT.2.1 (Kd.C_F (Kd.heap_slice 3 (Kd.heap_int .i64)) hT.2.2)) h).mono ?_
  rintro en w' ⟨v0, v1, rfl, h0, h1, hb⟩
  obtain ⟨B0, b0, rfl, l0, r0⟩ := of_V h0
  obtain ⟨B1, b1, rfl, l1, r1⟩ := of_V h1
  exact ⟨B0, b0, B1, b1, rfl, ⟨⟨l0, r0⟩, l1, r1⟩, hb⟩
end Go.Proofs.Ytkecfdljodiifaa.P
