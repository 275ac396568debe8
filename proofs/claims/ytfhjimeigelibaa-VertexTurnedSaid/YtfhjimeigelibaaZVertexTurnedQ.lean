/- part 17 of the proof of the law VertexTurned: texts merged by this session's bundle.py. What is proved: the statement at the end of the last of these texts; its conditions are those of the given row. -/
import Derived.Lib.ConvBytes
import Derived.Test.YtfhjimeigelibaaZVertexTurnedD
import Derived.Test.YtfhjimeigelibaaZVertexTurnedE
import Derived.Test.YtfhjimeigelibaaZVertexTurnedG
import Derived.Test.YtfhjimeigelibaaZVertexTurnedH
import Derived.Test.YtfhjimeigelibaaZVertexTurnedI
import Derived.Test.YtfhjimeigelibaaZVertexTurnedJ
import Derived.Test.YtfhjimeigelibaaZVertexTurnedK
import Derived.Test.YtfhjimeigelibaaZVertexTurnedL
import Derived.Test.YtfhjimeigelibaaZVertexTurnedM
import Derived.Test.YtfhjimeigelibaaZVertexTurnedN
import Derived.Test.YtfhjimeigelibaaZVertexTurnedO
import Derived.Test.YtfhjimeigelibaaZVertexTurnedP
namespace Go.Proofs.Ytfhjimeigelibaa.Px
open Go.RowKit Go.Proofs.YtfhjimeigelibaaW.PrintWords Go.Proofs.YtfhjimeigelibaaW.PrintLast Go.Proofs.YtfhjimeigelibaaW.PrintMore
attribute [local go_sem] max2_int min2_int max_two min_two max_three min_three max_four min_four
set_option linter.unusedVariables false
set_option linter.unusedSimpArgs false
def vertexL (a r : Int) (bs : List S24) (ps : List ByteArray) (x y : Int) : Bs :=
  numL a.toNat ++ numL r.toNat ++ rowL (bs.map bB) ++ rowL ps ++ numL x.toNat ++ numL y.toNat
theorem mayV_iff (a r : Int) (bs : List S24) (ps : List ByteArray) (x y n : Int) : mayV a r bs ps x y n = true ↔ mayN n = true ∧ 1 ≤ a ∧ a ≤ n ∧ 1 ≤ r ∧ r ≤ 1048576 ∧ bs.length ≤ 4 ∧ bs.any (oddB n) = false ∧ mayE x y = true ∧ (thirdR r = true ∨ x = 0 ∧ y = 0) ∧ parentsB ps r n = true := by
  unfold mayV
  simp [and_assoc]
theorem upFrom_size (l : List ByteArray) (d : Nat) : ∀ j, upFrom l d j = true → ∀ i, j ≤ i → i < j + d → (l.getD i ByteArray.empty).size = 32 := by
  induction d with
  | zero => intro j _ i h1 h2; omega
  | succ d ih =>
    intro j h i h1 h2
    rw [upFrom, Bool.and_eq_true] at h
    rcases Nat.lt_or_ge j i with h3 | h3
    · exact ih (j + 1) h.2 i (by omega) (by omega)
    · obtain rfl : i = j := by omega
      have := h.1
      rw [upAt, Bool.and_eq_true] at this
      exact of_decide_eq_true this.1
theorem parentsB_small {l : List ByteArray} {r n : Int} (hn : mayN n = true) (h : parentsB l r n = true) : l.length ≤ 64 ∧ ∀ t ∈ l, t.size = 32 := by
  unfold parentsB at h
  split at h
  · have h0 := of_decide_eq_true h
    obtain rfl := List.eq_nil_of_length_eq_zero h0
    simp
  · obtain ⟨_, h2, _⟩ := (mayN_iff n).1 hn
    rw [Bool.and_eq_true, Bool.and_eq_true] at h
    have h3 := of_decide_eq_true h.2
    refine ⟨by omega, fun t ht => ?_⟩
    obtain ⟨i, hi, rfl⟩ := List.mem_iff_getElem.1 ht
    have := upFrom_size l l.length 0 h.1.1 i (by omega) (by omega)
    rwa [List.getD_eq_getElem?_getD, List.getElem?_eq_getElem hi] at this
theorem bB_size (b : S24) : (bB b).size ≤ 400 := by
  unfold bB
  split
  · rename_i h
    obtain ⟨h1, h2, h3, h4, h5, h6, h7⟩ := (mayB_iff _ _ _).1 h
    have r1 := rowOf_le b.f2 48 (by omega) (fun t ht => (h7 t ht).2)
    have r2 := numL_length (v := b.f2.length) (by omega)
    have r4 := numL_length (v := b.f0.toNat) (by omega)
    have r5 := numL_length (v := b.f1.toNat) (by omega)
    rw [toB_size, batchL, List.length_append, List.length_append, rowL, List.length_append]; omega
  · show 0 ≤ 400; omega
theorem rowL_bs {bs : List S24} (h : bs.length ≤ 4) : (rowL (bs.map bB)).length ≤ 1700 := by
  have r1 := rowOf_le (bs.map bB) 400 (by omega) (fun t ht => by obtain ⟨b, _, rfl⟩ := List.mem_map.1 ht; exact bB_size b)
  rw [List.length_map] at r1
  have r2 := numL_length (v := (bs.map bB).length) (by rw [List.length_map]; omega)
  rw [rowL, List.length_append]; omega
theorem rowL_ps {ps : List ByteArray} (h : ps.length ≤ 64 ∧ ∀ t ∈ ps, t.size = 32) : (rowL ps).length ≤ 2700 := by
  have r1 := rowOf_le ps 32 (by omega) (fun t ht => by have := h.2 t ht; omega)
  have r2 := numL_length (v := ps.length) (by have := h.1; omega)
  rw [rowL, List.length_append]; have := h.1; omega
theorem any_odd {n : Int} {bs : List S24} (h : bs.any (oddB n) = false) : ∀ b ∈ bs, mayB b.f0 b.f1 b.f2 = true ∧ b.f0 ≤ n := by
  intro b hb
  rw [List.any_eq_false] at h
  have := h b hb
  rw [oddB] at this
  simp at this
  exact ⟨this.1, by omega⟩
theorem rd_four (a b c d : ByteArray) : rdOf ByteArray.empty [a, b, c, d] 0 = a ∧ rdOf ByteArray.empty [a, b, c, d] 1 = b ∧ rdOf ByteArray.empty [a, b, c, d] 2 = c ∧ rdOf ByteArray.empty [a, b, c, d] 3 = d := ⟨rfl, rfl, rfl, rfl⟩
theorem vertex_Bytes_of (a r : Int) (bs : List S24) (ps : List ByteArray) (x y n : Int) :
    vertex_Bytes.f a r bs ps x y n = some (if mayV a r bs ps x y n = true then (toB (vertexL a r bs ps x y), 0) else ((⟨#[]⟩ : ByteArray), 1)) := by
  unfold vertex_Bytes.f
  rw [show vertex_May.f a r bs ps x y n = some (mayV a r bs ps x y n) from rfl]
  simp only [Option.bind_some]
  by_cases h : mayV a r bs ps x y n = true
  · rw [if_pos h, if_pos h]
    obtain ⟨h0, h1, h2, h3, h4, h5, h6, h7, h8, h9⟩ := (mayV_iff ..).1 h
    obtain ⟨k1, k2, k3⟩ := (mayN_iff n).1 h0
    obtain ⟨x1, x2, y1, y2⟩ := (mayE_iff x y).1 h7
    have e1 : vertex_each1.f bs = some (bs.map bB) := if_pos h5
    have e2 : vertex_each2.f [a, r, x, y] = some [numB a.toNat, numB r.toNat, numB x.toNat, numB y.toNat] := by
      rw [vertex_each2.f, if_pos]
      · rfl
      · refine ⟨Nat.le_refl 4, fun k hk => ?_⟩
        simp only [List.mem_cons, List.not_mem_nil, or_false] at hk
        rcases hk with rfl | rfl | rfl | rfl <;> omega
    have s0 := numB_size (v := a.toNat) (by omega)
    have s1 := numB_size (v := r.toNat) (by omega)
    have s2 := numB_size (v := x.toNat) (by omega)
    have s3 := numB_size (v := y.toNat) (by omega)
    have r1 := rowL_bs h5
    have r2 := rowL_ps (parentsB_small h0 h9)
    have d1 : digits_Row.f (bs.map bB) = some (toB (rowL (bs.map bB))) := if_pos (by omega)
    have d2 : digits_Row.f ps = some (toB (rowL ps)) := if_pos (by omega)
    rw [e1, e2]
    simp only [Option.bind_some, d1, d2]
    obtain ⟨q0, q1, q2, q3⟩ := rd_four (numB a.toNat) (numB r.toNat) (numB x.toNat) (numB y.toNat)
    rw [q0, q1, q2, q3]
    simp only [ByteArray.size_append, toB_size]
    rw [if_pos (by simp), if_pos (by simp), if_pos (by omega), if_pos (by omega), if_pos (by omega), if_pos (by simp), if_pos (by omega), if_pos (by simp), if_pos (by omega)]
    simp only [vertexL, numB, toB_append]
  · rw [if_neg h, if_neg h]
theorem shown08_of : selvedgelaw08_shown.f = some true := by
  unfold selvedgelaw08_shown.f
  rw [vertex_Bytes_of, if_pos (by decide)]
  simp only [Option.bind_some]
  have w3 : vertex_Wave.f 3 = some 1 := by unfold vertex_Wave.f wrap64; decide
  have w4 : vertex_Wave.f 4 = some 2 := by unfold vertex_Wave.f wrap64; decide
  rw [if_pos]
  · rw [if_pos trivial, w3, w4, vertex_Third_of]
    rfl
  · rw [toList_ofB, ofB_toB, vertexL]
    have e0 : rowL [] = [0] := by rw [rowL, rowOf, List.flatMap_nil, List.append_nil]; show numL 0 = _; rw [numL, be_zero]; rfl
    show numL 1 ++ numL 1 ++ rowL [] ++ rowL [] ++ numL 0 ++ numL 0 = _
    rw [e0, numL, numL, be_1, be_zero]
    rfl
instance decBatch : DecidableEq S24 := fun a b => decidable_of_iff (a.f0 = b.f0 ∧ a.f1 = b.f1 ∧ a.f2 = b.f2) ⟨fun ⟨h0, h1, h2⟩ => by obtain ⟨a0, a1, a2⟩ := a; obtain ⟨b0, b1, b2⟩ := b; simp only at h0 h1 h2; rw [h0, h1, h2], fun h => by rw [h]; exact ⟨rfl, rfl, rfl⟩⟩
theorem rd_Batch_at (l : List S24) (j : Nat) (h : j < l.length) : rd_T24 l (j : Int) = l[j] := by
  rw [rd_T24, Int.toNat_natCast, List.getD_eq_getElem?_getD, List.getElem?_eq_getElem h]; rfl
theorem refSameAll_loop (a b : List S24) (hl : a.length = b.length) (hb : a.length < 4611686018427387904) (hs : ∀ x ∈ a, x.f2.length < 4611686018427387904) (d : Nat) : ∀ j, j + d = a.length →
    Ev (fun k => selvedgeref07_SameAll.l0 k a b (j : Int)) (decide (a.drop j = b.drop j)) := by
  induction d with
  | zero =>
    intro j hj
    refine Ev.step (fun k => by rw [selvedgeref07_SameAll.l0]) ?_
    refine ev_neg (by omega) (ev_eq (Ev.now _) ?_)
    rw [List.drop_eq_nil_of_le (by omega), List.drop_eq_nil_of_le (by omega)]; rfl
  | succ d ih =>
    intro j hj
    have ha : j < a.length := by omega
    have hb' : j < b.length := by omega
    refine Ev.step (fun k => by rw [selvedgeref07_SameAll.l0]) ?_
    refine ev_pos (by omega) (ev_pos (by omega) (ev_pos (by omega) ?_))
    rw [rd_Batch_at a j ha, rd_Batch_at b j hb']
    refine Ev.bind (refBatchSame_ev _ _ _ _ _ _ (hs _ (List.getElem_mem ha))) ?_
    rw [wrap64_of (by omega) (by omega), List.drop_eq_getElem_cons ha, List.drop_eq_getElem_cons hb']
    by_cases e : a[j] = b[j]
    · refine ev_pos (by rw [e]; simp [batchEq]) (ev_eq (ih (j + 1) (by omega)) ?_)
      rw [e]; exact decide_eq_decide.2 ⟨fun h => by rw [h], fun h => (List.cons.inj h).2⟩
    · refine ev_neg ?_ (ev_eq (Ev.now _) ?_)
      · intro hh
        apply e
        obtain ⟨h0, h1, h2⟩ := of_decide_eq_true hh
        generalize a[j] = p at *
        generalize b[j] = q at *
        obtain ⟨p0, p1, p2⟩ := p; obtain ⟨q0, q1, q2⟩ := q
        simp only at h0 h1 h2; rw [h0, h1, h2]
      · exact (decide_eq_false (fun h => e (List.cons.inj h).1)).symm
theorem refSameAll_ev (a b : List S24) (hb : a.length < 4611686018427387904) (hs : ∀ x ∈ a, x.f2.length < 4611686018427387904) : Ev (fun k => selvedgeref07_SameAll.f k a b) (decide (a = b)) := by
  by_cases h : a.length = b.length
  · exact ev_pos (by omega) (refSameAll_loop a b h hb hs a.length 0 (by omega))
  · refine ev_neg (by omega) (ev_eq (Ev.now _) ?_)
    have : ¬ a = b := fun e => h (by rw [e])
    simp [this]
def vertexEq (a r : Int) (bs : List S24) (ps : List ByteArray) (x y a' r' : Int) (bs' : List S24) (ps' : List ByteArray) (x' y' : Int) : Bool := decide (a = a' ∧ r = r' ∧ bs = bs' ∧ ps = ps' ∧ x = x' ∧ y = y')
theorem refVertexSame_ev (a r : Int) (bs : List S24) (ps : List ByteArray) (x y a' r' : Int) (bs' : List S24) (ps' : List ByteArray) (x' y' : Int) (hb : bs.length < 4611686018427387904) (hs : ∀ b ∈ bs, b.f2.length < 4611686018427387904) (hp : ps.length < 4611686018427387904) :
    Ev (fun k => selvedgeref08_Same.f k a r bs ps x y a' r' bs' ps' x' y') (vertexEq a r bs ps x y a' r' bs' ps' x' y') := by
  refine Ev.bind (refSame_ev _ _ hp) (Ev.bind (refSameAll_ev _ _ hb hs) ?_)
  unfold vertexEq
  by_cases h1 : ps = ps'
  · refine ev_pos (by simp [h1]) ?_
    by_cases h2 : bs = bs'
    · refine ev_pos (by simp [h2]) ?_
      by_cases h3 : a = a'
      · refine ev_pos h3 ?_
        by_cases h4 : r = r'
        · refine ev_pos h4 (ev_eq (Ev.now _) ?_)
          by_cases h5 : x = x' <;> by_cases h6 : y = y' <;> simp [h1, h2, h3, h4, h5, h6]
        · exact ev_neg h4 (ev_eq (Ev.now _) (by simp [h4]))
      · exact ev_neg h3 (ev_eq (Ev.now _) (by simp [h3]))
    · exact ev_neg (by simp [h2]) (ev_eq (Ev.now _) (by simp [h2]))
  · exact ev_neg (by simp [h1]) (ev_eq (Ev.now _) (by simp [h1]))
theorem vertexEq_iff {a r : Int} {bs : List S24} {ps : List ByteArray} {x y a' r' : Int} {bs' : List S24} {ps' : List ByteArray} {x' y' : Int} : vertexEq a r bs ps x y a' r' bs' ps' x' y' = true ↔ a = a' ∧ r = r' ∧ bs = bs' ∧ ps = ps' ∧ x = x' ∧ y = y' := by
  rw [vertexEq, decide_eq_true_iff]
theorem mayV_small {a r : Int} {bs : List S24} {ps : List ByteArray} {x y n : Int} (h : mayV a r bs ps x y n = true) : bs.length < 4611686018427387904 ∧ (∀ b ∈ bs, b.f2.length < 4611686018427387904) ∧ ps.length < 4611686018427387904 := by
  obtain ⟨h0, _, _, _, _, h5, h6, _, _, h9⟩ := (mayV_iff ..).1 h
  refine ⟨by omega, fun b hb => ?_, by have := (parentsB_small h0 h9).1; omega⟩
  obtain ⟨_, _, _, _, _, k, _⟩ := (mayB_iff _ _ _).1 (any_odd h6 b hb).1
  omega
end Go.Proofs.Ytfhjimeigelibaa.Px

namespace Go.Proofs.Ytfhjimeigelibaa.Px
open Go.RowKit Go.Proofs.YtfhjimeigelibaaW.PrintWords Go.Proofs.YtfhjimeigelibaaW.PrintLast Go.Proofs.YtfhjimeigelibaaW.PrintMore
attribute [local go_sem] max2_int min2_int max_two min_two max_three min_three max_four min_four
set_option linter.unusedVariables false
set_option linter.unusedSimpArgs false
end Go.Proofs.Ytfhjimeigelibaa.Px

namespace Go.Proofs.Ytfhjimeigelibaa.Px
open Go.RowKit Go.Proofs.YtfhjimeigelibaaW.PrintWords Go.Proofs.YtfhjimeigelibaaW.PrintLast Go.Proofs.YtfhjimeigelibaaW.PrintMore
attribute [local go_sem] max2_int min2_int max_two min_two max_three min_three max_four min_four
set_option linter.unusedVariables false
set_option linter.unusedSimpArgs false
def takeRowB (s : ByteArray) (many most : Int) : List ByteArray × ByteArray × Int := ((takeRowL (ofB s) many most).1, toB (takeRowL (ofB s) many most).2.1, (takeRowL (ofB s) many most).2.2)
theorem digits_TakeRow_of (s : ByteArray) (many most : Int) (h1 : (Lit.int .i64 many).wf = true) (h2 : (Lit.int .i64 most).wf = true) (h3 : s.size < 4611686018427387904) (h4 : s.size ≤ 8796093022207 ∨ many ≤ 8796093022207) : digits_TakeRow.f s many most = some (takeRowB s many most) := by
  unfold digits_TakeRow.f
  rw [if_pos ⟨h1, h2, h3, h4⟩]; rfl
theorem takeTextL_ok {s t r : Bs} {most : Int} (h : takeTextL s most = (t, r, 0)) : s = textL t ++ r ∧ (t.length : Int) ≤ most ∧ t.length < 18446744073709551616 := by
  unfold takeTextL takeTextIf at h
  split at h
  · rename_i h0
    rcases hq : takeNumL s with ⟨v, q, e⟩
    rw [hq] at h h0
    simp only at h0 h
    subst h0
    obtain ⟨rfl, hv⟩ := takeNumL_ok hq
    unfold takeTextOf at h
    split at h
    · cases h
    · rename_i h1
      split at h
      · cases h
      · rename_i h2
        simp only [Prod.mk.injEq, and_true] at h
        obtain ⟨rfl, rfl⟩ := h
        have hl : (List.take v q).length = v := by rw [List.length_take]; omega
        refine ⟨?_, by rw [hl]; omega, by rw [hl]; exact hv⟩
        rw [textL, hl, List.append_assoc, List.take_append_drop]
  · rename_i h0
    simp only [Prod.mk.injEq] at h
    exact absurd h.2.2 h0
theorem takeTexts_ok (most : Int) : ∀ (n : Nat) (s : Bs) (acc l : List ByteArray) (r : Bs), takeTexts most n s acc = (l, r, 0) → ∃ l', l = acc ++ l' ∧ l'.length = n ∧ s = rowOf l' ++ r ∧ ∀ t ∈ l', (t.size : Int) ≤ most ∧ t.size < 18446744073709551616
  | 0, s, acc, l, r, h => by
    simp only [takeTexts, Prod.mk.injEq, and_true] at h
    obtain ⟨rfl, rfl⟩ := h
    exact ⟨[], by simp, rfl, by simp [rowOf], by simp⟩
  | n + 1, s, acc, l, r, h => by
    rw [takeTexts] at h
    split at h
    · rename_i h0
      obtain ⟨l', rfl, h2, h3, h4⟩ := takeTexts_ok most n _ _ _ _ h
      rcases hq : takeTextL s most with ⟨t, q, e⟩
      rw [hq] at h0 h3
      simp only at h0 h3
      subst h0
      obtain ⟨h5, h6, h7⟩ := takeTextL_ok hq
      refine ⟨toB t :: l', by simp, by simp [h2], ?_, ?_⟩
      · rw [h5, h3]
        have e : rowOf (toB t :: l') = textL (ofB (toB t)) ++ rowOf l' := rfl
        rw [e, ofB_toB, List.append_assoc]
      · intro x hx
        rcases List.mem_cons.1 hx with rfl | hx
        · rw [toB_size]; exact ⟨h6, h7⟩
        · exact h4 x hx
    · rename_i h0
      simp only [Prod.mk.injEq] at h
      exact absurd h.2.2 h0
theorem takeRowL_ok {s r : Bs} {l : List ByteArray} {many most : Int} (h : takeRowL s many most = (l, r, 0)) : s = rowL l ++ r ∧ (l.length : Int) ≤ many ∧ l.length < 18446744073709551616 ∧ ∀ t ∈ l, (t.size : Int) ≤ most ∧ t.size < 18446744073709551616 := by
  unfold takeRowL takeRowIf at h
  split at h
  · rename_i h0
    rcases hq : takeNumL s with ⟨v, q, e⟩
    rw [hq] at h h0
    simp only at h0 h
    subst h0
    obtain ⟨rfl, hv⟩ := takeNumL_ok hq
    split at h
    · cases h
    · rename_i h1
      obtain ⟨l', hl', h2, h3, h4⟩ := takeTexts_ok most v q [] l r h
      rw [List.nil_append] at hl'
      subst hl'
      refine ⟨?_, by omega, by omega, h4⟩
      rw [rowL, h2, h3, List.append_assoc]
  · rename_i h0
    simp only [Prod.mk.injEq] at h
    exact absurd h.2.2 h0
end Go.Proofs.Ytfhjimeigelibaa.Px

namespace Go.Proofs.Ytfhjimeigelibaa.Px
open Go.RowKit Go.Proofs.YtfhjimeigelibaaW.PrintWords Go.Proofs.YtfhjimeigelibaaW.PrintLast Go.Proofs.YtfhjimeigelibaaW.PrintMore
attribute [local go_sem] max2_int min2_int max_two min_two max_three min_three max_four min_four
set_option linter.unusedVariables false
set_option linter.unusedSimpArgs false
end Go.Proofs.Ytfhjimeigelibaa.Px

namespace Go.Proofs.Ytfhjimeigelibaa.Px
open Go.RowKit Go.Proofs.YtfhjimeigelibaaW.PrintWords Go.Proofs.YtfhjimeigelibaaW.PrintLast Go.Proofs.YtfhjimeigelibaaW.PrintMore
attribute [local go_sem] max2_int min2_int max_two min_two max_three min_three max_four min_four
set_option linter.unusedVariables false
set_option linter.unusedSimpArgs false
end Go.Proofs.Ytfhjimeigelibaa.Px

namespace Go.Proofs.Ytfhjimeigelibaa.Px
open Go.RowKit Go.Proofs.YtfhjimeigelibaaW.PrintWords Go.Proofs.YtfhjimeigelibaaW.PrintLast Go.Proofs.YtfhjimeigelibaaW.PrintMore
attribute [local go_sem] max2_int min2_int max_two min_two max_three min_three max_four min_four
set_option linter.unusedVariables false
set_option linter.unusedSimpArgs false
def takeBatchIf (o q : Int) (e : Bool) (s : Bs) : Int × Int × List ByteArray × Int :=
  if e = true ∧ o ≤ 64 ∧ q ≤ 1073741824 ∧ (takeRowL s 4 48).2.2 = 0 ∧ (takeRowL s 4 48).2.1 = [] ∧ mayB o q (takeRowL s 4 48).1 = true then (o, q, (takeRowL s 4 48).1, 0) else (0, 0, [], 3)
theorem takeBatchIf_pos {o q : Int} {e : Bool} {s : Bs} (h : e = true ∧ o ≤ 64 ∧ q ≤ 1073741824 ∧ (takeRowL s 4 48).2.2 = 0 ∧ (takeRowL s 4 48).2.1 = [] ∧ mayB o q (takeRowL s 4 48).1 = true) : takeBatchIf o q e s = (o, q, (takeRowL s 4 48).1, 0) := if_pos h
theorem takeBatchIf_neg {o q : Int} {e : Bool} {s : Bs} (h : ¬ (e = true ∧ o ≤ 64 ∧ q ≤ 1073741824 ∧ (takeRowL s 4 48).2.2 = 0 ∧ (takeRowL s 4 48).2.1 = [] ∧ mayB o q (takeRowL s 4 48).1 = true)) : takeBatchIf o q e s = (0, 0, [], 3) := if_neg h
def takeBatchL (s : Bs) : Int × Int × List ByteArray × Int :=
  takeBatchIf (takeNumL s).1 (takeNumL (takeNumL s).2.1).1 (decide ((takeNumL s).2.2 = 0 ∧ (takeNumL (takeNumL s).2.1).2.2 = 0)) (takeNumL (takeNumL s).2.1).2.1
theorem toList_nil (s : ByteArray) : s.toList = ([] : List UInt8) ↔ ofB s = [] := by rw [toList_ofB]
theorem batchTake_j0 (s : Bs) (o q : Nat) (e b : Bool) (hs : s.length < 4611686018427387904) (ho : o < 18446744073709551616) (hq : q < 18446744073709551616) (hb : b = true ↔ ¬ (e = true ∧ (o : Int) ≤ 64 ∧ (q : Int) ≤ 1073741824)) :
    Ev (fun k => batch_Take.j0 k (toB s) (o : Int) (q : Int) b) (takeBatchIf o q e s) := by
  refine Ev.step (fun k => by rw [batch_Take.j0]) ?_
  by_cases h : e = true ∧ (o : Int) ≤ 64 ∧ (q : Int) ≤ 1073741824
  · obtain ⟨h1, h2, h3⟩ := h
    refine ev_neg (fun hh => hb.1 hh ⟨h1, h2, h3⟩) (ev_bind_const (digits_TakeRow_of (toB s) 4 48 (by decide) (by decide) (by rw [toB_size]; exact hs) (.inr (by omega))) ?_)
    simp only [takeRowB, ofB_toB]
    rw [wrap64_of (by omega) (by omega), wrap64_of (by omega) (by omega)]
    by_cases h4 : (takeRowL s 4 48).2.2 = 0
    · refine ev_pos h4 ?_
      by_cases h5 : (takeRowL s 4 48).2.1 = []
      · refine ev_pos (by rw [toList_nil, ofB_toB]; exact h5) (ev_bind_const rfl ?_)
        by_cases h6 : mayB o q (takeRowL s 4 48).1 = true
        · rw [takeBatchIf_pos ⟨h1, h2, h3, h4, h5, h6⟩]
          exact ev_pos h6 (Ev.now _)
        · rw [takeBatchIf_neg (fun hh => h6 hh.2.2.2.2.2)]
          exact ev_neg h6 (Ev.now _)
      · rw [takeBatchIf_neg (fun hh => h5 hh.2.2.2.2.1)]
        exact ev_neg (by rw [toList_nil, ofB_toB]; exact h5) (Ev.now _)
    · rw [takeBatchIf_neg (fun hh => h4 hh.2.2.2.1)]
      exact ev_neg h4 (Ev.now _)
  · rw [takeBatchIf_neg (fun hh => h ⟨hh.1, hh.2.1, hh.2.2.1⟩)]
    exact ev_pos (hb.2 h) (Ev.now _)
theorem batchTake_ev (s : ByteArray) (hs : s.size < 4611686018427387904) : Ev (fun k => batch_Take.f k s) (takeBatchL (ofB s)) := by
  have h1 := takeNumL_len (ofB s)
  have h2 := takeNumL_len (takeNumL (ofB s)).2.1
  have h3 := takeNumL_val (ofB s)
  have h4 := takeNumL_val (takeNumL (ofB s)).2.1
  rw [ofB_length] at h1
  have t2 := takeNum_ev (takeNumB s).2.1 (by simp only [takeNumB, toB_size]; omega)
  refine Ev.bind (takeNum_ev s hs) (Ev.bind t2 ?_)
  simp only [takeNumB, ofB_toB]
  have key := fun b => batchTake_j0 (takeNumL (takeNumL (ofB s)).2.1).2.1 (takeNumL (ofB s)).1 (takeNumL (takeNumL (ofB s)).2.1).1 (decide ((takeNumL (ofB s)).2.2 = 0 ∧ (takeNumL (takeNumL (ofB s)).2.1).2.2 = 0)) b (by omega) h3 h4
  by_cases e1 : (takeNumL (ofB s)).2.2 = 0
  · refine ev_pos e1 ?_
    by_cases e2 : (takeNumL (takeNumL (ofB s)).2.1).2.2 = 0
    · refine ev_pos e2 ?_
      by_cases e3 : ((takeNumL (ofB s)).1 : Int) > 64
      · exact ev_pos e3 (key true (by simp [e1, e2]; omega))
      · exact ev_neg e3 (key _ (by simp [e1, e2]; omega))
    · exact ev_neg e2 (key true (by simp [e2]))
  · exact ev_neg e1 (key true (by simp [e1]))
theorem takeBatchL_ok {s : Bs} {o q : Int} {l : List ByteArray} (h : takeBatchL s = (o, q, l, 0)) : s = batchL o q l ∧ mayB o q l = true := by
  unfold takeBatchL takeBatchIf at h
  split at h
  · rename_i hc
    obtain ⟨h1, h2, h3, h4, h5, h6⟩ := hc
    obtain ⟨h7, h8⟩ := of_decide_eq_true h1
    simp only [Prod.mk.injEq, and_true] at h
    obtain ⟨rfl, rfl, rfl⟩ := h
    refine ⟨?_, h6⟩
    rcases hq : takeNumL s with ⟨v, r, e⟩
    rw [hq] at h4 h5 h7 h8
    simp only at h4 h5 h7 h8 ⊢
    subst h7
    obtain ⟨rfl, _⟩ := takeNumL_ok hq
    rcases hq2 : takeNumL r with ⟨v2, r2, e2⟩
    rw [hq2] at h4 h5 h8
    simp only at h4 h5 h8 ⊢
    subst h8
    obtain ⟨rfl, _⟩ := takeNumL_ok hq2
    rcases hq3 : takeRowL r2 4 48 with ⟨l, r3, e3⟩
    rw [hq3] at h4 h5
    simp only at h4 h5 ⊢
    subst h4 h5
    obtain ⟨h9, _⟩ := takeRowL_ok hq3
    rw [List.append_nil] at h9
    rw [batchL, ← h9, Int.toNat_natCast, Int.toNat_natCast, List.append_assoc]
  · simp at h
end Go.Proofs.Ytfhjimeigelibaa.Px

namespace Go.Proofs.Ytfhjimeigelibaa.Px
open Go.RowKit Go.Proofs.YtfhjimeigelibaaW.PrintWords Go.Proofs.YtfhjimeigelibaaW.PrintLast Go.Proofs.YtfhjimeigelibaaW.PrintMore
attribute [local go_sem] max2_int min2_int max_two min_two max_three min_three max_four min_four
set_option linter.unusedVariables false
set_option linter.unusedSimpArgs false
abbrev VT := Int × Int × List S24 × List ByteArray × Int × Int × Int
def badV : VT := (0, 0, [], [], 0, 0, 3)
def batchesL : List ByteArray → Option (List S24)
  | [] => some []
  | t :: l => if (takeBatchL (ofB t)).2.2.2 = 0 then (batchesL l).map (fun bs => ⟨(takeBatchL (ofB t)).1, (takeBatchL (ofB t)).2.1, (takeBatchL (ofB t)).2.2.1⟩ :: bs) else none
def endV (a r : Int) (ps : List ByteArray) (x y n : Int) : Option (List S24) → VT
  | none => badV
  | some bs => if mayV a r bs ps x y n = true then (a, r, bs, ps, x, y, 0) else badV
theorem batchesL_ok : ∀ {l : List ByteArray} {bs : List S24}, batchesL l = some bs → l = bs.map bB ∧ ∀ b ∈ bs, mayB b.f0 b.f1 b.f2 = true
  | [], bs, h => by
    have : bs = [] := (Option.some.inj h).symm
    subst this; exact ⟨rfl, fun b hb => absurd hb (by simp)⟩
  | t :: l, bs, h => by
    rw [batchesL] at h
    split at h
    · rename_i h0
      obtain ⟨cs, hc, rfl⟩ := Option.map_eq_some_iff.1 h
      obtain ⟨h1, h2⟩ := batchesL_ok hc
      rcases hq : takeBatchL (ofB t) with ⟨o, q, l', e⟩
      rw [hq] at h0
      simp only at h0
      subst h0
      obtain ⟨h3, h4⟩ := takeBatchL_ok hq
      refine ⟨?_, ?_⟩
      · rw [List.map_cons, ← h1, bB]
        simp only
        rw [if_pos h4, ← h3, toB_ofB]
      · intro b hb
        rcases List.mem_cons.1 hb with rfl | hb
        · exact h4
        · exact h2 b hb
    · cases h
theorem takeRowL_rest (s : Bs) (many most : Int) : (takeRowL s many most).2.1.length ≤ s.length := by
  have key : ∀ (n : Nat) (s : Bs) (acc : List ByteArray), (takeTexts most n s acc).2.1.length ≤ s.length := by
    intro n
    induction n with
    | zero => intro s acc; exact Nat.le_refl _
    | succ n ih =>
      intro s acc
      rw [takeTexts]
      split
      · rename_i h0
        have := takeTextL_short h0
        exact Nat.le_trans (ih _ _) (by omega)
      · exact Nat.zero_le _
  have h := takeNumL_len s
  unfold takeRowL takeRowIf
  split
  · split
    · exact Nat.zero_le _
    · exact Nat.le_trans (key _ _ _) h
  · exact Nat.zero_le _
theorem numbersL_rest (s : Bs) : (numbersL s).2.2.1.length ≤ s.length := by
  unfold numbersL
  rcases h : smallL s with _ | ⟨a, s1⟩
  · exact Nat.zero_le _
  · simp only
    have h1 := smallL_len h
    rcases h' : smallL s1 with _ | ⟨b, s2⟩
    · exact Nat.zero_le _
    · have h2 := smallL_len h'
      simp only; omega
def vA (s : Bs) : List ByteArray × Bs × Int := takeRowL (numbersL s).2.2.1 4 65536
def vB (s : Bs) : List ByteArray × Bs × Int := takeRowL (vA s).2.1 64 32
def vC (s : Bs) : Int × Int × Bs × Bool := numbersL (vB s).2.1
def okV (s : Bs) : Prop := (numbersL s).2.2.2 = true ∧ (vA s).2.2 = 0 ∧ (vB s).2.2 = 0 ∧ (vC s).2.2.2 = true ∧ (vC s).2.2.1 = []
instance decOkV (s : Bs) : Decidable (okV s) := by unfold okV; infer_instance
def takeV (s : Bs) (n : Int) : VT := if okV s then endV (numbersL s).1 (numbersL s).2.1 (vB s).1 (vC s).1 (vC s).2.1 n (batchesL (vA s).1) else badV
theorem takeV_pos {s : Bs} {n : Int} (h : okV s) : takeV s n = endV (numbersL s).1 (numbersL s).2.1 (vB s).1 (vC s).1 (vC s).2.1 n (batchesL (vA s).1) := if_pos h
theorem takeV_neg {s : Bs} {n : Int} (h : ¬ okV s) : takeV s n = badV := if_neg h
theorem vA_small {s : Bs} (h : (vA s).2.2 = 0) : (vA s).1.length ≤ 4 ∧ ∀ t ∈ (vA s).1, t.size < 4611686018427387904 := by
  rcases hq : vA s with ⟨l, r, e⟩
  rw [hq] at h
  simp only at h ⊢
  subst h
  obtain ⟨_, h2, _, h4⟩ := takeRowL_ok hq
  exact ⟨by omega, fun t ht => by have := (h4 t ht).1; omega⟩
theorem vertexTake_loop (n : Int) (l : List ByteArray) (a r : Int) (ps : List ByteArray) (x y : Int) (hl : l.length ≤ 4) (hs : ∀ t ∈ l, t.size < 4611686018427387904) (d : Nat) : ∀ (j : Nat) (acc : List S24), j + d = l.length → acc.length = j →
    Ev (fun k => vertex_Take.l0 k n l (l.length : Int) (j : Int) a r acc ps x y) (endV a r ps x y n ((batchesL (l.drop j)).map (acc ++ ·))) := by
  induction d with
  | zero =>
    intro j acc hj ha
    refine Ev.step (fun k => by rw [vertex_Take.l0]) ?_
    rw [List.drop_eq_nil_of_le (by omega)]
    refine ev_neg (by omega) (ev_bind_const (show vertex_May.f a r acc ps x y n = some (mayV a r acc ps x y n) from rfl) ?_)
    show Ev _ (endV a r ps x y n (some (acc ++ [])))
    rw [List.append_nil, endV]
    by_cases h : mayV a r acc ps x y n = true
    · exact ev_eq (ev_pos h (Ev.now _)) (by rw [if_pos h])
    · exact ev_eq (ev_neg h (Ev.now _)) (by rw [if_neg h]; rfl)
  | succ d ih =>
    intro j acc hj ha
    have hj' : j < l.length := by omega
    refine Ev.step (fun k => by rw [vertex_Take.l0]) ?_
    refine ev_pos (by omega) (ev_pos (by omega) (ev_pos (by omega) ?_))
    rw [rdOf_at l j hj', List.drop_eq_getElem_cons hj']
    refine Ev.bind (batchTake_ev _ (hs _ (List.getElem_mem hj'))) ?_
    rw [batchesL]
    by_cases h : (takeBatchL (ofB l[j])).2.2.2 = 0
    · rw [if_pos h]
      refine ev_pos h (ev_pos (by omega) ?_)
      rw [wrap64_of (by omega) (by omega)]
      refine ev_eq (ih (j + 1) _ (by omega) (by rw [List.length_append, ha]; rfl)) ?_
      congr 1
      rcases batchesL (l.drop (j + 1)) with _ | bs
      · rfl
      · simp
    · rw [if_neg h]
      exact ev_neg h (Ev.now _)
theorem vertex_numbers_of (s : ByteArray) (hs : s.size < 4611686018427387904) : vertex_numbers.f s = some ((numbersL (ofB s)).1, (numbersL (ofB s)).2.1, toB (numbersL (ofB s)).2.2.1, (numbersL (ofB s)).2.2.2) := if_pos hs
theorem vertexTake_ev (s : ByteArray) (n : Int) (hs : s.size < 4611686018427387904) : Ev (fun k => vertex_Take.f k s n) (takeV (ofB s) n) := by
  have l0 : (ofB s).length < 4611686018427387904 := by rw [ofB_length]; exact hs
  have l1 := numbersL_rest (ofB s)
  have l2 : (vA (ofB s)).2.1.length ≤ _ := takeRowL_rest (numbersL (ofB s)).2.2.1 4 65536
  have l3 : (vB (ofB s)).2.1.length ≤ _ := takeRowL_rest (vA (ofB s)).2.1 64 32
  refine ev_bind_const (vertex_numbers_of s hs) ?_
  simp only
  refine ev_bind_const (digits_TakeRow_of _ 4 65536 (by decide) (by decide) (by rw [toB_size]; omega) (.inr (by omega))) ?_
  simp only [takeRowB, ofB_toB]
  refine ev_bind_const (digits_TakeRow_of _ 64 32 (by decide) (by decide) (by rw [toB_size]; exact Nat.lt_of_le_of_lt (Nat.le_trans l2 l1) l0) (.inr (by omega))) ?_
  simp only [takeRowB, ofB_toB]
  refine ev_bind_const (vertex_numbers_of _ (by rw [toB_size]; exact Nat.lt_of_le_of_lt (Nat.le_trans l3 (Nat.le_trans l2 l1)) l0)) ?_
  simp only [ofB_toB]
  have key : ∀ b : Bool, (b = true ↔ ¬ okV (ofB s)) → Ev (fun k => vertex_Take.j0 k n (vA (ofB s)).1 (vB (ofB s)).1 b (numbersL (ofB s)).1 (numbersL (ofB s)).2.1 (vC (ofB s)).1 (vC (ofB s)).2.1) (takeV (ofB s) n) := by
    intro b hb
    refine Ev.step (fun k => by rw [vertex_Take.j0]) ?_
    by_cases h : okV (ofB s)
    · rw [takeV_pos h]
      obtain ⟨h1, h2⟩ := vA_small h.2.1
      refine ev_neg (fun hh => hb.1 hh h) (ev_eq (vertexTake_loop n (vA (ofB s)).1 _ _ _ _ _ h1 h2 (vA (ofB s)).1.length 0 [] (by omega) rfl) ?_)
      rw [List.drop_zero]
      rcases batchesL (vA (ofB s)).1 with _ | bs <;> rfl
    · rw [takeV_neg h]
      exact ev_pos (hb.2 h) (Ev.now _)
  show Ev (fun k => if (numbersL (ofB s)).2.2.2 = true then (if (vA (ofB s)).2.2 = 0 then (if (vB (ofB s)).2.2 = 0 then (if (vC (ofB s)).2.2.2 = true then vertex_Take.j0 k n (vA (ofB s)).1 (vB (ofB s)).1 ((toB (vC (ofB s)).2.2.1).toList != ([] : List UInt8)) (numbersL (ofB s)).1 (numbersL (ofB s)).2.1 (vC (ofB s)).1 (vC (ofB s)).2.1 else _) else _) else _) else _) _
  by_cases h1 : (numbersL (ofB s)).2.2.2 = true
  · refine ev_pos h1 ?_
    by_cases h2 : (vA (ofB s)).2.2 = 0
    · refine ev_pos h2 ?_
      by_cases h3 : (vB (ofB s)).2.2 = 0
      · refine ev_pos h3 ?_
        by_cases h4 : (vC (ofB s)).2.2.2 = true
        · refine ev_pos h4 (key _ ?_)
          rw [toList_ofB, ofB_toB, bne_iff_ne]
          exact ⟨fun hh hv => hh hv.2.2.2.2, fun hh hv => hh ⟨h1, h2, h3, h4, hv⟩⟩
        · exact ev_neg h4 (key true ⟨fun _ hv => h4 hv.2.2.2.1, fun _ => rfl⟩)
      · exact ev_neg h3 (key true ⟨fun _ hv => h3 hv.2.2.1, fun _ => rfl⟩)
    · exact ev_neg h2 (key true ⟨fun _ hv => h2 hv.2.1, fun _ => rfl⟩)
  · exact ev_neg h1 (key true ⟨fun _ hv => h1 hv.1, fun _ => rfl⟩)
theorem numbersL_ok {s : Bs} (h : (numbersL s).2.2.2 = true) : ∃ a b : Nat, (numbersL s).1 = a ∧ (numbersL s).2.1 = b ∧ a ≤ 1048576 ∧ b ≤ 1048576 ∧ s = numL a ++ (numL b ++ (numbersL s).2.2.1) := by
  unfold numbersL at h ⊢
  rcases h1 : smallL s with _ | ⟨a, s1⟩
  · rw [h1] at h; cases h
  · rw [h1] at h
    simp only at h ⊢
    rcases h2 : smallL s1 with _ | ⟨b, s2⟩
    · rw [h2] at h; cases h
    · obtain ⟨e1, k1⟩ := smallL_ok h1
      obtain ⟨e2, k2⟩ := smallL_ok h2
      exact ⟨a, b, rfl, rfl, k1, k2, by rw [e1, e2]⟩
theorem endV_err (a r : Int) (ps : List ByteArray) (x y n : Int) (o : Option (List S24)) : endV a r ps x y n o = badV ∨ ∃ bs, o = some bs ∧ mayV a r bs ps x y n = true ∧ endV a r ps x y n o = (a, r, bs, ps, x, y, 0) := by
  rcases o with _ | bs
  · exact .inl rfl
  · by_cases h : mayV a r bs ps x y n = true
    · exact .inr ⟨bs, rfl, h, if_pos h⟩
    · exact .inl (if_neg h)
theorem takeV_ok (s : Bs) (n : Int) : takeV s n = badV ∨ ∃ a r bs ps x y, takeV s n = (a, r, bs, ps, x, y, 0) ∧ mayV a r bs ps x y n = true ∧ s = vertexL a r bs ps x y := by
  by_cases h : okV s
  · rw [takeV_pos h]
    rcases endV_err (numbersL s).1 (numbersL s).2.1 (vB s).1 (vC s).1 (vC s).2.1 n (batchesL (vA s).1) with h0 | ⟨bs, h1, h2, h3⟩
    · exact .inl h0
    · refine .inr ⟨_, _, _, _, _, _, h3, h2, ?_⟩
      obtain ⟨k1, k2, k3, k4, k5⟩ := h
      obtain ⟨a, b, e1, e2, _, _, e3⟩ := numbersL_ok k1
      obtain ⟨c, d, e4, e5, _, _, e6⟩ := numbersL_ok k4
      obtain ⟨e7, _⟩ := batchesL_ok h1
      have r1 : (numbersL s).2.2.1 = rowL (vA s).1 ++ (vA s).2.1 := (takeRowL_ok (many := 4) (most := 65536) (show takeRowL (numbersL s).2.2.1 4 65536 = ((vA s).1, (vA s).2.1, 0) by rw [← k2]; rfl)).1
      have r2 : (vA s).2.1 = rowL (vB s).1 ++ (vB s).2.1 := (takeRowL_ok (many := 64) (most := 32) (show takeRowL (vA s).2.1 64 32 = ((vB s).1, (vB s).2.1, 0) by rw [← k3]; rfl)).1
      have e6' : (vB s).2.1 = numL c ++ (numL d ++ (vC s).2.2.1) := e6
      have e4' : (vC s).1 = c := e4
      have e5' : (vC s).2.1 = d := e5
      rw [k5, List.append_nil] at e6'
      rw [vertexL, e1, e2, e4', e5', Int.toNat_natCast, Int.toNat_natCast, Int.toNat_natCast, Int.toNat_natCast, ← e7]
      rw [e6'] at r2
      rw [r2] at r1
      rw [r1] at e3
      simp only [List.append_assoc]
      exact e3
  · exact .inl (takeV_neg h)
end Go.Proofs.Ytfhjimeigelibaa.Px

namespace Go.Proofs.Ytfhjimeigelibaa.Px
open Go.RowKit Go.Proofs.YtfhjimeigelibaaW.PrintWords Go.Proofs.YtfhjimeigelibaaW.PrintLast Go.Proofs.YtfhjimeigelibaaW.PrintMore
attribute [local go_sem] max2_int min2_int max_two min_two max_three min_three max_four min_four
set_option linter.unusedVariables false
set_option linter.unusedSimpArgs false
theorem vertexL_len {a r : Int} {bs : List S24} {ps : List ByteArray} {x y n : Int} (h : mayV a r bs ps x y n = true) : (vertexL a r bs ps x y).length ≤ 1000000 := by
  obtain ⟨h0, h1, h2, h3, h4, h5, h6, h7, h8, h9⟩ := (mayV_iff ..).1 h
  obtain ⟨k1, k2, k3⟩ := (mayN_iff n).1 h0
  obtain ⟨x1, x2, y1, y2⟩ := (mayE_iff x y).1 h7
  obtain ⟨p1, p2⟩ := parentsB_small h0 h9
  have r1 := rowOf_le (bs.map bB) 400 (by omega) (fun t ht => by
    obtain ⟨b, _, rfl⟩ := List.mem_map.1 ht
    exact bB_size b)
  have r2 := rowOf_le ps 32 (by omega) (fun t ht => by have := p2 t ht; omega)
  have l1 := numL_length (v := (bs.map bB).length) (by rw [List.length_map]; omega)
  have l2 := numL_length (v := ps.length) (by omega)
  have l3 := numL_length (v := a.toNat) (by omega)
  have l4 := numL_length (v := r.toNat) (by omega)
  have l5 := numL_length (v := x.toNat) (by omega)
  have l6 := numL_length (v := y.toNat) (by omega)
  have l7 : (bs.map bB).length = bs.length := List.length_map ..
  rw [vertexL, rowL, rowL]
  simp only [List.length_append]
  have m1 : (bs.map bB).length * (400 + 9) ≤ 4 * 409 := Nat.mul_le_mul (by omega) (by omega)
  have m2 : ps.length * (32 + 9) ≤ 64 * 41 := Nat.mul_le_mul (by omega) (by omega)
  omega
end Go.Proofs.Ytfhjimeigelibaa.Px

namespace Go.Proofs.Ytfhjimeigelibaa.Px
open Go.RowKit Go.Proofs.YtfhjimeigelibaaW.PrintWords Go.Proofs.YtfhjimeigelibaaW.PrintLast Go.Proofs.YtfhjimeigelibaaW.PrintMore
attribute [local go_sem] max2_int min2_int max_two min_two max_three min_three max_four min_four
set_option linter.unusedVariables false
set_option linter.unusedSimpArgs false
def turnB (s : ByteArray) (i : Nat) (x : Int) : ByteArray := toB ((ofB s).set i (UInt8.ofNat x.toNat))
theorem turn_cell (w : World) (e : TypeId) (s : ByteArray) (i : Nat) (x : Int) (h0 : 0 ≤ x) (h1 : x ≤ 255) (j : Nat) (hj : j < s.size) :
    ((Lib.bytesWorld w e s).setCell ⟨w.heap.size, i, none⟩ (.int .u8 x)).cell? ⟨w.heap.size, 0 + j, none⟩ = some (.int .u8 ((((ofB s).set i (UInt8.ofNat x.toNat)).map fun b => ((b.toNat : Nat) : Int)).getD j 0)) := by
  rw [Nat.zero_add]
  have hg := Lib.bytesWorld_at_new w e s
  have hc := Lib.bytesWorld_cell w e s j hj
  have hl : (ofB s).length = s.size := ofB_length s
  rw [cell_of_row _ _ _ _ _ _ hg] at hc
  rw [setCell_eq_setRow _ _ _ _ _ _ _ hg, cell_of_row _ _ _ _ _ _ (setRow_heap _ _ _ _ _ _ hg)]
  by_cases hij : i = j
  · subst hij
    rw [Array.getElem?_setIfInBounds_self_of_lt (Array.getElem?_eq_some_iff.1 hc).1]
    rw [List.getD_eq_getElem?_getD, List.getElem?_map, List.getElem?_set_self (by omega)]
    simp only [Option.map_some, Option.getD_some]
    have : (UInt8.ofNat x.toNat).toNat = x.toNat := by simp; omega
    rw [this]
    have : ((x.toNat : Nat) : Int) = x := by omega
    rw [this]
  · rw [Array.getElem?_setIfInBounds_ne hij, hc]
    rw [List.getD_eq_getElem?_getD, List.getD_eq_getElem?_getD, List.getElem?_map, List.getElem?_set_ne hij]
    have : j < (ofB s).length := by omega
    show some (Value.int .u8 (((ofB s)[j]?.getD 0).toNat : Int)) = _
    rw [List.getElem?_eq_getElem this]
    rfl
theorem turn_old (w : World) (e : TypeId) (s : ByteArray) (i : Nat) (hi : i < s.size) : (Lib.bytesWorld w e s).cell? ⟨w.heap.size, i, none⟩ = some (.int .u8 (bt s i)) := by
  rw [Lib.bytesWorld_cell w e s i hi, bt_ofB]; rfl
theorem turn_thaw (w : World) (e : TypeId) (s : ByteArray) (i : Nat) (hi : i < s.size) : (Lib.bytesWorld w e s).frozen? ⟨w.heap.size, i, none⟩ = false := by
  have hg := Lib.bytesWorld_at_new w e s
  have hc := Lib.bytesWorld_cell w e s i hi
  rw [cell_of_row _ _ _ _ _ _ hg] at hc
  have := (Array.getElem?_eq_some_iff.1 hc).1
  simp only [World.frozen?, hg, Bool.and_eq_false_iff, decide_eq_false_iff_not]
  omega
theorem turn_str (s : ByteArray) (i : Nat) (x : Int) : strOfNums (((ofB s).set i (UInt8.ofNat x.toNat)).map fun b => ((b.toNat : Nat) : Int)) = turnB s i x := by
  rw [strOfNums_toB, List.map_map, turnB]
  congr 1
  conv => rhs; rw [← List.map_id ((ofB s).set i (UInt8.ofNat x.toNat))]
  congr 1
  funext b
  simp
theorem turn_ne (s : ByteArray) (i : Nat) (x : Int) (h0 : 0 ≤ x) (h1 : x ≤ 255) (hi : i < s.size) (h : ¬ bt s i = x) : ofB (turnB s i x) ≠ ofB s := by
  intro e
  rw [turnB, ofB_toB] at e
  apply h
  have hl : i < (ofB s).length := by rw [ofB_length]; exact hi
  have e2 := congrArg (fun l => l.getD i 0) e
  simp only [List.getD_eq_getElem?_getD, List.getElem?_set_self hl, Option.getD_some] at e2
  rw [bt_ofB, List.getD_eq_getElem?_getD, ← e2]
  simp; omega
theorem turnB_size (s : ByteArray) (i : Nat) (x : Int) : (turnB s i x).size = s.size := by rw [turnB, toB_size, List.length_set, ofB_length]
end Go.Proofs.Ytfhjimeigelibaa.Px
