/- The contracts of the two functions that turned is given, by hand. -/
import Derived.Test.YtpeelfambaedkaaHg
import Derived.Deep.RegionLaw
import Derived.ArgAppend
namespace Go.Proofs.Ytpeelfambaedkaa.P
open Go.RowKit Go.Proofs.YtpeelfambaedkaaW.PrintWords Go.Proofs.YtpeelfambaedkaaW.PrintLast Go.Proofs.YtpeelfambaedkaaW.PrintMore

theorem sz5 : ∀ w, (Go.sizeOf 5).run Try.prog w = .ok 1 w := by
  intro w
  obtain ⟨i, hi, hs⟩ : ∃ i, Try.prog.info? 5 = some i ∧ i.size = 1 := by
    have h := size5
    cases hi : Try.prog.info? 5 with
    | none => rw [hi] at h; cases h
    | some i => rw [hi] at h; exact ⟨i, rfl, by simpa using h⟩
  simp [sizeOf, run_typeInfo w hi, hs]
set_option maxHeartbeats 1000000 in
theorem turn28 (g cap k : Nat) (l : List UInt8) (s : ByteArray) (pa ps : Nat) (w w0 : World) (B : Nat) (hB : Below B w0 w) (hg : B ≤ g) (hl : l.length ≤ cap) (hm : l.length ≤ 1000000) (hr : Row w g l) (hs : 0 < s.size) (hk : k + s.size ≤ l.length) (ca : w.cell? ⟨pa, 0, none⟩ = some (.int .i64 k)) (cs : w.cell? ⟨ps, 0, none⟩ = some (.string s)) :
    Calls Try.prog 28 #[.slice (some ⟨g, 0, none⟩) l.length cap, .pointer (some ⟨pa, 0, none⟩), .pointer (some ⟨ps, 0, none⟩)] w fun e w' => e = .returned (.slice (some ⟨g, 0, none⟩) l.length cap) ∧ Row w' g (l.take k ++ (s.data.toList ++ l.drop (k + s.size))) ∧ Below B w0 w' := by
  have k1 : (0 : Int) ≤ (k : Int) := by omega
  have k2 : (k : Int) ≤ (l.length : Int) := by omega
  have k3 : (k : Int) ≤ (cap : Int) := by omega
  have k4 : ¬ cap = k := by omega
  have k5 : ¬ k = cap := by omega
  have HR := Aside0.mk hr
  have HB := Aside0.mk hB
  clear hr hB
  go_enter Try.func28, Try.ntmps28
  go_upto_region 1 with fail
  have HC := Aside0.mk (fun (j : Nat) (hj : j < s.size) => HR.out (k + j) (by omega))
  go_region_law (first | (refine step_copy_string rfl (.tmp 7) (.tmp 8) 66 9 rfl 5 Try.underlying66 sz5 g k (l.length - k) (cap - k) (by first | (simp [Act.eval, Act.put]; done) | (simp [Act.eval, Act.put]; exact k5) | (simp [Act.eval, Act.put]; exact k4)) s (by simp [Act.eval, Act.put]) (by omega) (fun j hj => by rw [show ∀ W : World, (W.drew).cell? ⟨g, k + j, none⟩ = W.cell? ⟨g, k + j, none⟩ from fun _ => rfl, (HC.out j hj).1]; rfl) (fun j hj => (HC.out j hj).2) ?_))
  all_goals (
    have R2 := Aside0.mk (Row_mid (w := w.drew) (o := k) (n := s.data.toList) (Row_heap HR.out rfl) (by simpa using hk))
    have B2 := Aside0.mk (below_setCells (b := g) hg (s.data.toList.map byteV) k _ HB.out.drew)
    have e : s.data.toList.map byteV = s.data.toList.map (fun x => Value.int .u8 (x.toNat : Int)) := rfl
    rw [e] at R2 B2
    generalize w.drew.setCells g k (s.data.toList.map fun x => Value.int .u8 (x.toNat : Int)) = w2 at R2 B2 ⊢
    go_wp2_with fail
    go_ret
    exact ⟨rfl, R2.out, B2.out⟩)
set_option maxHeartbeats 1000000 in
theorem turn31 (g cap k : Nat) (l : List UInt8) (pa : Nat) (w w0 : World) (B : Nat) (hB : Below B w0 w) (hl : l.length ≤ cap) (hr : Row w g l) (hk : k ≤ l.length) (ca : w.cell? ⟨pa, 0, none⟩ = some (.int .i64 k)) :
    Calls Try.prog 31 #[.slice (some ⟨g, 0, none⟩) l.length cap, .pointer (some ⟨pa, 0, none⟩)] w fun e w' => e = .returned (.slice (some ⟨g, 0, none⟩) k cap) ∧ Row w' g (l.take k) ∧ Below B w0 w' := by
  have k1 : (0 : Int) ≤ (k : Int) := by omega
  have k2 : (k : Int) ≤ (l.length : Int) := by omega
  have k3 : (k : Int) ≤ (cap : Int) := by omega
  have HR := Aside0.mk hr
  have HB := Aside0.mk hB
  clear hr hB
  go_enter Try.func31, Try.ntmps31
  go_wp2_with fail
  go_ret
  exact ⟨rfl, Row_take HR.out k, HB.out⟩
theorem turn28L (L g cap k : Nat) (l : List UInt8) (s : ByteArray) (pa ps : Nat) (w w0 : World) (B : Nat) (hL : l.length = L) (hB : Below B w0 w) (hg : B ≤ g) (hl : L ≤ cap) (hm : L ≤ 1000000) (hr : Row w g l) (hs : 0 < s.size) (hk : k + s.size ≤ L) (ca : w.cell? ⟨pa, 0, none⟩ = some (.int .i64 k)) (cs : w.cell? ⟨ps, 0, none⟩ = some (.string s)) :
    Calls Try.prog 28 #[.slice (some ⟨g, 0, none⟩) L cap, .pointer (some ⟨pa, 0, none⟩), .pointer (some ⟨ps, 0, none⟩)] w fun e w' => e = .returned (.slice (some ⟨g, 0, none⟩) L cap) ∧ Row w' g (l.take k ++ (s.data.toList ++ l.drop (k + s.size))) ∧ Below B w0 w' := by
  subst hL
  exact turn28 g cap k l s pa ps w w0 B hB hg hl hm hr hs hk ca cs
theorem turn31L (L g cap k : Nat) (l : List UInt8) (pa : Nat) (w w0 : World) (B : Nat) (hL : l.length = L) (hB : Below B w0 w) (hl : L ≤ cap) (hr : Row w g l) (hk : k ≤ L) (ca : w.cell? ⟨pa, 0, none⟩ = some (.int .i64 k)) :
    Calls Try.prog 31 #[.slice (some ⟨g, 0, none⟩) L cap, .pointer (some ⟨pa, 0, none⟩)] w fun e w' => e = .returned (.slice (some ⟨g, 0, none⟩) k cap) ∧ Row w' g (l.take k) ∧ Below B w0 w' := by
  subst hL
  exact turn31 g cap k l pa w w0 B hB hl hr hk ca
theorem Row_textL {w : World} {g L : Nat} {l : List UInt8} (hL : l.length = L) (cap : Nat) (h : Row w g l) : (convert 66 9 (.slice (some ⟨g, 0, none⟩) L cap)).run Try.prog w = .ok (.string ⟨l.toArray⟩) w := by
  subst hL
  exact Row_text cap h
theorem below_bytes (w : World) (s : ByteArray) : Below w.heap.size w (Lib.bytesWorld w 5 s) := by
  refine ⟨?_, ?_, ?_, by rw [Lib.bytesWorld_size]; omega, fun k hk => Lib.bytesWorld_at_old w 5 s k hk⟩ <;> simp [Lib.bytesWorld, World.freeze, World.alloc, World.drew, -World.alloc_eq, -World.drew_eq]
theorem info5 : (Try.prog.info? 5).map (fun i => (i.zero, i.size, i.bytes)) = some (some (.int .u8 0), 1, 1) := by kernel_rfl
theorem Row_cells {w : World} {g : Nat} {l : List UInt8} (h : Row w g l) : ∀ j u, (l.map byteV)[j]? = some u → w.cell? ⟨g, 0 + j, none⟩ = some u := by
  intro j u hj
  have hl : j < l.length := by
    have := (List.getElem?_eq_some_iff.1 hj).1
    simpa using this
  rw [List.getElem?_map, List.getElem?_eq_getElem hl] at hj
  rw [Nat.zero_add, (h j hl).1, List.getD_eq_getElem?_getD, List.getElem?_eq_getElem hl]
  simpa using hj
/-- append of bytes to a row of bytes, both arms: a row of all of them -/
theorem wpList_append_row (w : World) {ops : Array Oper} {rest : List Oper} {o : Oper} {a : Act} {Q : Exit → Act → World → Prop}
    (hg : o.guard = none) (s x : Operand) (hop : o.op = Op.call { callee := Callee.builtin Builtin.append, args := #[s, x], argTypes := #[66, 66] })
    (b n cap : Nat) (l : List UInt8) (hs : a.eval s = .slice (some ⟨b, 0, none⟩) n cap) (hlo : l.length = n) (hrow : Row w b l) (hroom : Room w b n cap)
    (ad : Addr) (m c : Nat) (news : List UInt8) (hx : a.eval x = .slice (some ad) m c) (hn : news.length = m) (hc : ∀ j u, (news.map byteV)[j]? = some u → w.cell? (ad.add j) = some u)
    (hb : n + m ≤ 100000) (hm : 0 < m) (B : Nat) (w0 : World) (hB : Below B w0 w) (hBb : B ≤ b) (hBs : B ≤ w.heap.size)
    (h : ∀ g' cap' w', Hid (B ≤ g' ∧ n + m ≤ cap' ∧ Row w' g' (l ++ news) ∧ Below B w0 w') → wpList Try.prog ops Q rest (a.put o.dst (.slice (some ⟨g', 0, none⟩) (n + m) cap')) w') :
    wpList Try.prog ops Q (o :: rest) a w := by
  obtain ⟨i0, hi, hz0, hz1, hz2⟩ := info_parts info5
  subst hlo
  subst hn
  refine wpList_append_arg w hg s x 66 hop 5 i0 (.int .u8 0) 1 1 Try.underlying66 hi hz0 hz1 hz2 rfl (by omega) b 0 l.length cap (l.map byteV) hs (by simp) (Row_cells hrow) ad news.length c (news.map byteV) hx (by simp) hc ?_ ?_ ?_ ?_ (fun hr => ?_) (fun hr v' w' hown hgr => ?_)
  · intro u hu
    obtain ⟨y, _, rfl⟩ := List.mem_map.1 hu
    rfl
  · intro hr j hj
    rw [List.length_map] at hj
    rw [Nat.zero_add, Nat.mul_one]
    exact hroom _ (by omega) (by omega)
  · exact Nat.le_trans hb (by decide)
  · omega
  · rw [Nat.zero_add, Nat.mul_one]
    exact h b cap _ ⟨hBb, hr, Row_more hrow (fun j h1 h2 => hroom j h1 (by omega)), below_setCells (b := b) hBb _ _ _ hB⟩
  · rw [← List.map_append] at hown
    obtain ⟨g', cap', rfl, hbg, hcap, _, hrow'⟩ := Row_own hown (by omega)
    exact h g' cap' w' ⟨by omega, hcap, hrow', hB.grown hgr hBs (fun k e => by cases e)⟩
end Go.Proofs.Ytpeelfambaedkaa.P
