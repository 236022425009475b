/- The plain law of ContentWrites: it answers true (the reference is told here too: the texts are laid into one, for a claim holds 60 files); no program in sight. -/
import Derived.Test.YtpeelfambaedkaaQe
import Derived.Test.YtpeelfambaedkaaQs
import Derived.Test.YtpeelfambaedkaaPref06Get
import Derived.Test.YtpeelfambaedkaaPref09noughts
import Derived.Test.YtpeelfambaedkaaPref06Bytes
import Derived.Test.YtpeelfambaedkaaPref06Alike
import Derived.Test.YtpeelfambaedkaaPref06Same
import Derived.Test.YtpeelfambaedkaaPref09Write
import Derived.Test.YtpeelfambaedkaaPref09Cut
import Derived.Test.YtpeelfambaedkaaPlaw09ContentWrites
namespace Go.Proofs.Ytpeelfambaedkaa.P
open Go.RowKit Go.Proofs.YtpeelfambaedkaaW.PrintWords Go.Proofs.YtpeelfambaedkaaW.PrintLast Go.Proofs.YtpeelfambaedkaaW.PrintMore

theorem ref_get (l : List S59) (m q i : Int) : flagstoneref06_Get.f (l.map conv) m q i = some ((conv (nodeOf l i)).f0, (conv (nodeOf l i)).f1, (conv (nodeOf l i)).f2, (conv (nodeOf l i)).f3, (conv (nodeOf l i)).f4, (conv (nodeOf l i)).f5, (conv (nodeOf l i)).f6, (conv (nodeOf l i)).f7, decide (isNode l i)) := by
  unfold flagstoneref06_Get.f nodeOf
  rw [rd_conv, List.length_map]
  by_cases a : i < 0
  · have c : ¬ isNode l i := fun h => by have := h.1; omega
    simp only [if_pos a, if_neg c, decide_eq_false c]
    rfl
  by_cases b : i ≥ (l.length : Int)
  · have c : ¬ isNode l i := fun h => by have := h.2.1; omega
    simp only [if_neg a, if_pos b, if_neg c, decide_eq_false c]
    rfl
  have h0 : 0 ≤ i := by omega
  have h1 : i < (l.length : Int) := by omega
  by_cases z : (rd_T59 l i).f0 = 0
  · have c : ¬ isNode l i := fun h => h.2.2 z
    have z' : (conv (rd_T59 l i)).f0 = 0 := z
    simp only [if_neg a, if_neg b, if_pos h0, if_pos h1, if_pos z', if_neg c, decide_eq_false c]
    rfl
  · have c : isNode l i := ⟨h0, h1, z⟩
    have z' : ¬ (conv (rd_T59 l i)).f0 = 0 := z
    simp only [if_neg a, if_neg b, if_pos h0, if_pos h1, if_neg z', if_pos c, decide_eq_true c]
theorem ref_file (l : List S59) (m q i : Int) : flagstoneref09_file.f (l.map conv) m q i = some ((conv (nodeOf l i)).f0, (conv (nodeOf l i)).f1, (conv (nodeOf l i)).f2, (conv (nodeOf l i)).f3, (conv (nodeOf l i)).f4, (conv (nodeOf l i)).f5, (conv (nodeOf l i)).f6, (conv (nodeOf l i)).f7, fileCode l i) := by
  unfold flagstoneref09_file.f
  rw [ref_get, Option.bind_some]
  dsimp only
  by_cases c : isNode l i
  · have hn : nodeOf l i = rd_T59 l i := if_pos c
    rw [if_pos (decide_eq_true c)]
    unfold fileCode
    rw [if_pos c]
    have e : (conv (nodeOf l i)).f0 = (rd_T59 l i).f0 := by rw [hn]; rfl
    by_cases c2 : (rd_T59 l i).f0 = 2
    · rw [if_pos (e.trans c2), if_neg (by omega), if_pos c2]
    · rw [if_neg (fun h => c2 (e.symm.trans h))]
      by_cases c1 : (rd_T59 l i).f0 = 1
      · rw [if_pos (e.trans c1), if_pos c1]
      · rw [if_neg (fun h => c1 (e.symm.trans h)), if_neg c1, if_neg c2]
  · rw [if_neg (by simpa using c)]
    unfold fileCode
    rw [if_neg c]

theorem noughts_ev (a : Int) (h : a < 1000000) : Ev (fun k => flagstoneref09_noughts.f k a) (zeros a.toNat) := by
  have key : ∀ r j : Nat, j ≤ a.toNat → a.toNat - j = r → Ev (fun k => flagstoneref09_noughts.l0 k a (zeros j) (j : Int)) (zeros a.toNat) := by
    intro r
    induction r with
    | zero =>
      intro j hj hd
      have e : j = a.toNat := by omega
      subst e
      refine Ev.step (fun k => by rw [flagstoneref09_noughts.l0]) (Ev.neg (by omega) ?_)
      exact Ev.now _
    | succ r ih =>
      intro j hj hd
      refine Ev.step (fun k => by rw [flagstoneref09_noughts.l0]) (Ev.pos (by omega) (Ev.pos (by rw [zeros_size]; omega) ?_))
      rw [wrap_one (by omega) (by omega), zeros_succ]
      exact ih (j + 1) (by omega) (by omega)
  exact key _ 0 (by omega) rfl
theorem ref_written (d : ByteArray) (k n : Nat) (s : ByteArray) (h : k ≤ n) : (((d ++ zeros (k - d.size)).extract 0 k) ++ s) ++ ((d ++ zeros (k - d.size)).extract n (d ++ zeros (k - d.size)).size) = written d k n s := by
  apply bz_ext
  rw [bz_cat, bz_cat, bz_cut, bz_cut, List.take_of_length_le (Nat.le_of_eq (bz_len _)), bz_cat, zeros_list, List.drop_zero, pad_take d k n h, pad_drop d k n h, written_list, List.append_assoc]
theorem ref_written' (d : ByteArray) (k n : Nat) (s : ByteArray) (h : k ≤ n) (hn : (d ++ zeros (k - d.size)).size ≤ n) : (((d ++ zeros (k - d.size)).extract 0 k) ++ s) ++ (⟨#[]⟩ : ByteArray) = written d k n s := by
  have e : (d ++ zeros (k - d.size)).extract n (d ++ zeros (k - d.size)).size = (⟨#[]⟩ : ByteArray) := ByteArray.extract_eq_empty_iff.2 (by omega)
  rw [← ref_written d k n s h, e]
theorem ref_cut (d : ByteArray) (n : Nat) (h : n ≤ d.size) : d.extract 0 n = cutTo d n := by
  apply bz_ext
  rw [bz_cut, cutTo_list, List.drop_zero]
  unfold padTo
  rw [if_neg (by omega)]
theorem ref_grown (d : ByteArray) (n : Nat) (h : d.size < n) : d ++ zeros (n - d.size) = cutTo d n := by
  apply bz_ext
  rw [bz_cat, zeros_list, cutTo_list, ← pad_take d n n (Nat.le_refl _), List.take_of_length_le]
  rw [List.length_append, List.length_replicate, bz_len]
  omega
theorem weight_is (x : S59) : flagstoneref06_weight.f (conv x).f0 (conv x).f1 (conv x).f2 (conv x).f3 (conv x).f4 (conv x).f5 (conv x).f6 (conv x).f7 = some (bytesOf x) := by
  unfold flagstoneref06_weight.f bytesOf
  show (if x.f0 = 1 then some (x.f6.size : Int) else if x.f0 = 3 then some (x.f6.size : Int) else some 0) = _
  by_cases c1 : x.f0 = 1
  · rw [if_pos c1, if_pos (.inl c1)]
  · rw [if_neg c1]
    by_cases c3 : x.f0 = 3
    · rw [if_pos c3, if_pos (.inr c3)]
    · rw [if_neg c3, if_neg (fun h => h.elim c1 c3)]
theorem bytes_ev {l : List S59} (hS : Small l) (m q : Int) : Ev (fun k => flagstoneref06_Bytes.f k (l.map conv) m q) (totalOf l) := by
  have hl := hS.1
  have key : ∀ r j : Nat, j ≤ l.length → l.length - j = r → Ev (fun k => flagstoneref06_Bytes.l0 k (totalOf (l.take j)) (j : Int) (l.map conv) m q) (totalOf l) := by
    intro r
    induction r with
    | zero =>
      intro j hj hd
      refine Ev.step (fun k => by rw [flagstoneref06_Bytes.l0]) (Ev.neg (by rw [List.length_map]; omega) ?_)
      rw [List.take_of_length_le (by omega)]
      exact Ev.now _
    | succ r ih =>
      intro j hj hd
      refine Ev.step (fun k => by rw [flagstoneref06_Bytes.l0]) (Ev.pos (by rw [List.length_map]; omega) (Ev.pos (by omega) ?_))
      rw [rd_conv, weight_is]
      have h := ih (j + 1) (by omega) (by omega)
      have hlt : j < l.length := by omega
      have e : totalOf (l.take (j + 1)) = totalOf (l.take j) + bytesOf (rd_T59 l (j : Int)) := by
        rw [List.take_succ_eq_append_getElem hlt, totalOf_append, rd_at l j hlt]
      have hx := (hS.rd (j : Int)).1
      have h3 := bytesOf_le (rd_T59 l (j : Int))
      have h4 := bytesOf_nonneg (rd_T59 l (j : Int))
      have h5 := totalOf_nonneg (l.take j)
      have h6 := totalOf_le (l.take j) (fun x hx => (hS.2 x (List.mem_of_mem_take hx)).1)
      have h7 : (l.take j).length ≤ 100 := by rw [List.length_take]; omega
      have ew : wrap64 (totalOf (l.take j) + bytesOf (rd_T59 l (j : Int))) = totalOf (l.take (j + 1)) := by
        rw [e]
        unfold wrap64
        omega
      refine Ev.bind (Ev.now _) ?_
      rw [ew, wrap_one (by omega) (by omega)]
      exact h
  exact key _ 0 (by omega) rfl
/-- another Data of a file -/
theorem refset_is (l : List S59) (m q i : Int) (d : ByteArray) (h0 : 0 ≤ i) (h1 : i < (l.length : Int)) (hl : l.length ≤ 100) :
    flagstoneref06_Set.f (l.map conv) m q i (conv (rd_T59 l i)).f0 (conv (rd_T59 l i)).f1 (conv (rd_T59 l i)).f2 (conv (rd_T59 l i)).f3 (conv (rd_T59 l i)).f4 (conv (rd_T59 l i)).f5 d (conv (rd_T59 l i)).f7 = some ((l.set i.toNat { rd_T59 l i with f6 := d }).map conv, m, q) := by
  unfold flagstoneref06_Set.f
  rw [List.length_map, if_neg (by omega), if_neg (by omega), Option.bind_some, List.nil_append, List.length_nil, if_pos (by omega), Option.bind_some, if_pos h0, List.length_map, if_pos h1, List.map_set]
  rfl
theorem kept_ev {l : List S59} (hS : Small l) (m q i : Int) (d : ByteArray) (h0 : 0 ≤ i) (h1 : i < (l.length : Int)) (hd : d.size ≤ 2000) (n : Nat) (hn : d.size = n ∨ n ≤ (rd_T59 l i).f6.size ∧ d.size ≤ (rd_T59 l i).f6.size) :
    Ev (fun k => flagstoneref09_kept.f k (l.map conv) m q i (conv (rd_T59 l i)).f0 (conv (rd_T59 l i)).f1 (conv (rd_T59 l i)).f2 (conv (rd_T59 l i)).f3 (conv (rd_T59 l i)).f4 (conv (rd_T59 l i)).f5 (conv (rd_T59 l i)).f6 (conv (rd_T59 l i)).f7 d)
      (if full (rd_T59 l i).f6 (totalOf l) q n then (l.map conv, m, q, 10) else ((l.set i.toNat { rd_T59 l i with f6 := d }).map conv, m, q, 0)) := by
  have hset := refset_is l m q i d h0 h1 hS.1
  have ht := hS.total
  have hr := (hS.rd i).1
  have e6 : (conv (rd_T59 l i)).f6 = (rd_T59 l i).f6 := rfl
  refine Ev.congr (fun k => by rw [flagstoneref09_kept.f, hset, e6]) ?_
  by_cases c : (d.size : Int) > ((rd_T59 l i).f6.size : Int)
  · refine Ev.pos c (Ev.bind (bytes_ev hS m q) ?_)
    have e : n = d.size := by omega
    subst e
    have ew : wrap64 (wrap64 (totalOf l + (d.size : Int)) - ((rd_T59 l i).f6.size : Int)) = totalOf l - ((rd_T59 l i).f6.size : Int) + (d.size : Int) := by
      unfold wrap64
      omega
    rw [ew]
    by_cases c1 : totalOf l - ((rd_T59 l i).f6.size : Int) + (d.size : Int) > q
    · have f : full (rd_T59 l i).f6 (totalOf l) q d.size := ⟨by omega, by omega⟩
      rw [if_pos f]
      exact Ev.pos c1 (Ev.now _)
    · have f : ¬ full (rd_T59 l i).f6 (totalOf l) q d.size := fun h => c1 h.2
      rw [if_neg f]
      exact Ev.neg c1 (Ev.now _)
  · have f : ¬ full (rd_T59 l i).f6 (totalOf l) q n := fun h => by have := h.1; omega
    rw [if_neg f]
    exact Ev.neg c (Ev.now _)
theorem refwrite_ev {l : List S59} (hS : Small l) (m q i a : Int) (s : ByteArray) (hs : s.size ≤ 400) : Ev (fun k => flagstoneref09_Write.f k (l.map conv) m q i a s) ((writeOf l q i a s).1.map conv, m, q, (writeOf l q i a s).2) := by
  refine Ev.congr (fun k => by rw [flagstoneref09_Write.f, ref_file, Option.bind_some]) ?_
  dsimp only
  unfold writeOf
  by_cases c : fileCode l i = 0
  · have c' : ¬ (fileCode l i ≠ 0) := fun h => h c
    obtain ⟨h0, h1, h2, h3⟩ := fileCode_file c
    rw [if_neg c', h3]
    refine Ev.pos c ?_
    by_cases c1 : a < 0
    · rw [if_pos c1]
      exact Ev.pos c1 (Ev.now _)
    · rw [if_neg c1]
      refine Ev.neg c1 ?_
      by_cases c2 : s.size = 0
      · rw [if_pos c2]
        exact Ev.pos ((bz_empty s).2 c2) (Ev.now _)
      · rw [if_neg c2]
        refine Ev.neg (fun h => c2 ((bz_empty s).1 h)) ?_
        by_cases c3 : 1000 < a
        · rw [if_pos c3]
          exact Ev.pos c3 (Ev.now _)
        · rw [if_neg c3]
          refine Ev.neg c3 ?_
          have hr := (hS.rd i).1
          have hd : (conv (rd_T59 l i)).f6 = (rd_T59 l i).f6 := rfl
          rw [hd]
          have ea : wrap64 (a - ((rd_T59 l i).f6.size : Int)) = a - ((rd_T59 l i).f6.size : Int) := by
            unfold wrap64
            omega
          rw [ea]
          have en : wrap64 (a + (s.size : Int)) = ((a.toNat + s.size : Nat) : Int) := by
            unfold wrap64
            omega
          rw [en]
          refine Ev.bind (noughts_ev _ (by omega)) ?_
          rw [show (a - ((rd_T59 l i).f6.size : Int)).toNat = a.toNat - (rd_T59 l i).f6.size by omega]
          have hz : ((rd_T59 l i).f6 ++ zeros (a.toNat - (rd_T59 l i).f6.size)).size = max (rd_T59 l i).f6.size a.toNat := by
            rw [ByteArray.size_append, zeros_size]
            omega
          have hk := kept_ev hS m q i (written (rd_T59 l i).f6 a.toNat (a.toNat + s.size) s) h0 h1 (by rw [written_size]; omega) (a.toNat + s.size) (by rw [written_size]; omega)
          have hx1 : (((rd_T59 l i).f6 ++ zeros (a.toNat - (rd_T59 l i).f6.size)).extract 0 a.toNat).size ≤ 2000 := by
            rw [ByteArray.size_extract, hz]
            omega
          have hx2 : (((rd_T59 l i).f6 ++ zeros (a.toNat - (rd_T59 l i).f6.size)).extract (a.toNat + s.size) (max (rd_T59 l i).f6.size a.toNat)).size ≤ 2000 := by
            rw [ByteArray.size_extract]
            omega
          have fin : Ev (fun n => (flagstoneref09_kept.f n (l.map conv) m q i (conv (rd_T59 l i)).f0 (conv (rd_T59 l i)).f1 (conv (rd_T59 l i)).f2 (conv (rd_T59 l i)).f3 (conv (rd_T59 l i)).f4 (conv (rd_T59 l i)).f5 (conv (rd_T59 l i)).f6 (conv (rd_T59 l i)).f7 (written (rd_T59 l i).f6 a.toNat (a.toNat + s.size) s)).bind fun bt => some (bt.1, bt.2.1, bt.2.2.1, bt.2.2.2))
              (List.map conv (if full (rd_T59 l i).f6 (totalOf l) q (a.toNat + s.size) then (l, (10 : Int)) else (l.set i.toNat { rd_T59 l i with f6 := written (rd_T59 l i).f6 a.toNat (a.toNat + s.size) s }, 0)).1, m, q, (if full (rd_T59 l i).f6 (totalOf l) q (a.toNat + s.size) then (l, (10 : Int)) else (l.set i.toNat { rd_T59 l i with f6 := written (rd_T59 l i).f6 a.toNat (a.toNat + s.size) s }, 0)).2) := by
            refine Ev.bind hk ?_
            by_cases f : full (rd_T59 l i).f6 (totalOf l) q (a.toNat + s.size)
            · rw [if_pos f, if_pos f]
              exact Ev.now _
            · rw [if_neg f, if_neg f]
              exact Ev.now _
          refine Ev.pos (by rw [zeros_size]; omega) ?_
          by_cases c4 : ((a.toNat + s.size : Nat) : Int) < (((rd_T59 l i).f6 ++ zeros (a.toNat - (rd_T59 l i).f6.size)).size : Int)
          · refine Ev.pos c4 (Ev.pos (by omega) (Ev.pos (by omega) (Ev.pos (by omega) (Ev.pos (by omega) (Ev.pos (by omega) (Ev.pos (by rw [ByteArray.size_append, hz, Int.toNat_natCast]; omega) ?_))))))
            rw [Int.toNat_natCast, ref_written (rd_T59 l i).f6 a.toNat (a.toNat + s.size) s (Nat.le_add_right ..)]
            exact fin
          · refine Ev.neg c4 (Ev.pos (by omega) (Ev.pos (by omega) (Ev.pos (by omega) (Ev.pos (by rw [ByteArray.size_append]; omega) ?_))))
            rw [ref_written' (rd_T59 l i).f6 a.toNat (a.toNat + s.size) s (Nat.le_add_right ..) (by omega)]
            exact fin
  · rw [if_pos c]
    exact Ev.neg c (Ev.now _)
theorem refcut_ev {l : List S59} (hS : Small l) (m q i n : Int) : Ev (fun k => flagstoneref09_Cut.f k (l.map conv) m q i n) ((cutOf l q i n).1.map conv, m, q, (cutOf l q i n).2) := by
  refine Ev.congr (fun k => by rw [flagstoneref09_Cut.f, ref_file, Option.bind_some]) ?_
  dsimp only
  unfold cutOf
  by_cases c : fileCode l i = 0
  · have c' : ¬ (fileCode l i ≠ 0) := fun h => h c
    obtain ⟨h0, h1, h2, h3⟩ := fileCode_file c
    rw [if_neg c', h3]
    refine Ev.pos c ?_
    by_cases c1 : n < 0
    · rw [if_pos c1]
      exact Ev.pos c1 (Ev.now _)
    · rw [if_neg c1]
      refine Ev.neg c1 ?_
      have hr := (hS.rd i).1
      have hd : (conv (rd_T59 l i)).f6 = (rd_T59 l i).f6 := rfl
      have fin : (cutTo (rd_T59 l i).f6 n.toNat).size ≤ 2000 → Ev (fun k => (flagstoneref09_kept.f k (l.map conv) m q i (conv (rd_T59 l i)).f0 (conv (rd_T59 l i)).f1 (conv (rd_T59 l i)).f2 (conv (rd_T59 l i)).f3 (conv (rd_T59 l i)).f4 (conv (rd_T59 l i)).f5 (conv (rd_T59 l i)).f6 (conv (rd_T59 l i)).f7 (cutTo (rd_T59 l i).f6 n.toNat)).bind fun bt => some (bt.1, bt.2.1, bt.2.2.1, bt.2.2.2))
          (List.map conv (if full (rd_T59 l i).f6 (totalOf l) q n.toNat then (l, (10 : Int)) else (l.set i.toNat { rd_T59 l i with f6 := cutTo (rd_T59 l i).f6 n.toNat }, 0)).1, m, q, (if full (rd_T59 l i).f6 (totalOf l) q n.toNat then (l, (10 : Int)) else (l.set i.toNat { rd_T59 l i with f6 := cutTo (rd_T59 l i).f6 n.toNat }, 0)).2) := by
        intro hsz
        refine Ev.bind (kept_ev hS m q i _ h0 h1 hsz n.toNat (.inl (cutTo_size _ _))) ?_
        by_cases f : full (rd_T59 l i).f6 (totalOf l) q n.toNat
        · rw [if_pos f, if_pos f]
          exact Ev.now _
        · rw [if_neg f, if_neg f]
          exact Ev.now _
      rw [hd] at fin ⊢
      by_cases c2 : n ≤ ((rd_T59 l i).f6.size : Int)
      · have c3 : ¬ (((rd_T59 l i).f6.size : Int) < n ∧ 1000 < n) := fun h => by omega
        rw [if_neg c3]
        refine Ev.pos c2 (Ev.pos (by omega) ?_)
        rw [ref_cut _ _ (by omega)]
        exact fin (by rw [cutTo_size]; omega)
      · refine Ev.neg c2 ?_
        by_cases c4 : 1000 < n
        · rw [if_pos ⟨by omega, c4⟩]
          exact Ev.pos c4 (Ev.now _)
        · have c3 : ¬ (((rd_T59 l i).f6.size : Int) < n ∧ 1000 < n) := fun h => c4 h.2
          rw [if_neg c3]
          refine Ev.neg c4 ?_
          have ea : wrap64 (n - ((rd_T59 l i).f6.size : Int)) = n - ((rd_T59 l i).f6.size : Int) := by
            unfold wrap64
            omega
          rw [ea]
          refine Ev.bind (noughts_ev _ (by omega)) ?_
          refine Ev.pos (by rw [zeros_size]; omega) ?_
          rw [show (n - ((rd_T59 l i).f6.size : Int)).toNat = n.toNat - (rd_T59 l i).f6.size by omega, ref_grown _ _ (by omega)]
          exact fin (by rw [cutTo_size]; omega)
  · rw [if_pos c]
    exact Ev.neg c (Ev.now _)
theorem names_ev (l : List S75) (hn : l.length < 1000000) : Ev (fun k => flagstoneref05_Same.f k l l) true := by
  have key : ∀ r j : Nat, j ≤ l.length → l.length - j = r → Ev (fun k => flagstoneref05_Same.l0 k l l (j : Int)) true := by
    intro r
    induction r with
    | zero =>
      intro j hj hd
      exact Ev.step (fun k => by rw [flagstoneref05_Same.l0]) (Ev.neg (by omega) (Ev.now _))
    | succ r ih =>
      intro j hj hd
      refine Ev.step (fun k => by rw [flagstoneref05_Same.l0]) (Ev.pos (by omega) (Ev.pos (by omega) (Ev.pos (by omega) (Ev.neg (by simp) ?_))))
      rw [wrap_one (by omega) (by omega)]
      exact ih (j + 1) (by omega) (by omega)
  refine Ev.congr (fun k => by rw [flagstoneref05_Same.f, if_pos rfl]) ?_
  exact key _ 0 (by omega) rfl
theorem alike_ev (a b c d e f : Int) (g : ByteArray) (l : List S75) (hn : l.length < 1000000) : Ev (fun k => flagstoneref06_Alike.f k a b c d e f g l a b c d e f g l) true := by
  refine Ev.congr (fun k => by rw [flagstoneref06_Alike.f, if_pos rfl, if_pos rfl, if_pos rfl, if_pos rfl, if_pos rfl, if_pos rfl, if_pos rfl]) ?_
  exact Ev.bind (names_ev l hn) (Ev.now _)
theorem same_ev {l : List S59} (hS : Small l) (m q : Int) : Ev (fun k => flagstoneref06_Same.f k (l.map conv) m q (l.map conv) m q) true := by
  have hl := hS.1
  have key : ∀ r j : Nat, j ≤ l.length → l.length - j = r → Ev (fun k => flagstoneref06_Same.l0 k (j : Int) (l.map conv) m q (l.map conv) m q) true := by
    intro r
    induction r with
    | zero =>
      intro j hj hd
      exact Ev.step (fun k => by rw [flagstoneref06_Same.l0]) (Ev.neg (by rw [List.length_map]; omega) (Ev.now _))
    | succ r ih =>
      intro j hj hd
      refine Ev.step (fun k => by rw [flagstoneref06_Same.l0]) (Ev.pos (by rw [List.length_map]; omega) (Ev.pos (by omega) (Ev.pos (by rw [List.length_map]; omega) ?_)))
      rw [rd_conv]
      have hx := (hS.rd (j : Int)).2
      refine Ev.bind (alike_ev _ _ _ _ _ _ _ _ (by show (List.map convE _).length < 1000000; rw [List.length_map]; omega)) (Ev.pos rfl ?_)
      rw [wrap_one (by omega) (by omega)]
      exact ih (j + 1) (by omega) (by omega)
  refine Ev.congr (fun k => by rw [flagstoneref06_Same.f, if_pos rfl, if_pos rfl]) ?_
  refine Ev.step (fun k => by rw [flagstoneref06_Same.j0]) ?_
  refine Ev.neg (by simp) ?_
  exact key _ 0 (by omega) rfl
theorem writes_law (l : List S59) (m q i a : Int) (s : ByteArray) (n : Int) : Ev (fun k => flagstonelaw09_ContentWrites.f k l m q i a s n) true := by
  have out : Ev (fun k => flagstonelaw09_ContentWrites.j0 k i a s n true l m q) true :=
    Ev.step (fun k => by rw [flagstonelaw09_ContentWrites.j0]) (Ev.pos rfl (Ev.bind (Ev.is shown_ok) (Ev.now _)))
  obtain ⟨b, h1, h2⟩ := small_ev l m q
  refine Ev.congr (fun k => by rw [flagstonelaw09_ContentWrites.f]) (Ev.bind h1 ?_)
  cases b with
  | false => exact Ev.neg (by decide) out
  | true =>
    have hS : Small l := Small.of (h2 rfl).1 (h2 rfl).2
    refine Ev.pos rfl ?_
    by_cases c : (s.size : Int) > 300
    · exact Ev.pos c out
    refine Ev.neg c (Ev.bind (Ev.is shown_ok) (Ev.step (fun k => by rw [flagstonelaw09_ContentWrites.j0]) (Ev.neg (by decide) ?_)))
    have hs : s.size ≤ 400 := by omega
    have hW := write_small hS q i a s hs
    have hC := cut_small hS q i n
    refine Ev.bind (Ev.is (write_is hS m q i a s hs)) (Ev.bind (hS.its m q) (Ev.bind (refwrite_ev hS m q i a s hs) (Ev.bind (Ev.is (cut_is hS m q i n)) (Ev.bind (hS.its m q) (Ev.bind (refcut_ev hS m q i n) (Ev.bind (hW.its m q) (Ev.bind (same_ev hW m q) (Ev.pos rfl (Ev.pos rfl (Ev.bind (hC.its m q) (Ev.bind (same_ev hC m q) (Ev.pos rfl ?_))))))))))))
    exact Ev.is (by rw [beq_self_eq_true])
end Go.Proofs.Ytpeelfambaedkaa.P
