/- part 25 of the proof of the law PostWrites: texts merged by this session's bundle.py. What is proved: the statement at the end of the last of these texts; its conditions are those of the given row. -/
import Derived.Laws.BitsAllLaws
import Derived.Test.YtnkeecogengfhaaZPostWritesD
import Derived.Test.YtnkeecogengfhaaZPostWritesE
import Derived.Test.YtnkeecogengfhaaZPostWritesF
import Derived.Test.YtnkeecogengfhaaZPostWritesG
import Derived.Test.YtnkeecogengfhaaZPostWritesI
import Derived.Test.YtnkeecogengfhaaZPostWritesJ
import Derived.Test.YtnkeecogengfhaaZPostWritesK
import Derived.Test.YtnkeecogengfhaaZPostWritesL
import Derived.Test.YtnkeecogengfhaaZPostWritesQ
import Derived.Test.YtnkeecogengfhaaZPostWritesR
import Derived.Test.YtnkeecogengfhaaZPostWritesS
import Derived.Test.YtnkeecogengfhaaZPostWritesT
namespace Go.Proofs.Ytnkeecogengfhaa.Px
open Go.RowKit Go.Proofs.YtnkeecogengfhaaW.PrintWords Go.Proofs.YtnkeecogengfhaaW.PrintLast Go.Proofs.YtnkeecogengfhaaW.PrintMore
attribute [local go_sem] max2_int min2_int max_two min_two max_three min_three max_four min_four
set_option linter.unusedVariables false
set_option linter.unusedSimpArgs false
def vertexL (a r : Int) (bs : List S61) (ps : List ByteArray) (x y : Int) : Bs :=
  numL a.toNat ++ numL r.toNat ++ rowL (bs.map bB) ++ rowL ps ++ numL x.toNat ++ numL y.toNat
theorem mayV_iff (a r : Int) (bs : List S61) (ps : List ByteArray) (x y n : Int) : mayV a r bs ps x y n = true ↔ mayN n = true ∧ 1 ≤ a ∧ a ≤ n ∧ 1 ≤ r ∧ r ≤ 1048576 ∧ bs.length ≤ 4 ∧ bs.any (oddB n) = false ∧ mayE x y = true ∧ (thirdR r = true ∨ x = 0 ∧ y = 0) ∧ parentsB ps r n = true := by
  unfold mayV
  simp [and_assoc]
theorem upFrom_size (l : List ByteArray) (d : Nat) : ∀ j, upFrom l d j = true → ∀ i, j ≤ i → i < j + d → (l.getD i ByteArray.empty).size = 32 := by
  induction d with
  | zero => intro j _ i h1 h2; omega
  | succ d ih =>
    intro j h i h1 h2
    rw [upFrom, Bool.and_eq_true] at h
    rcases Nat.lt_or_ge j i with h3 | h3
    · exact ih (j + 1) h.2 i (by omega) (by omega)
    · obtain rfl : i = j := by omega
      have := h.1
      rw [upAt, Bool.and_eq_true] at this
      exact of_decide_eq_true this.1
theorem parentsB_small {l : List ByteArray} {r n : Int} (hn : mayN n = true) (h : parentsB l r n = true) : l.length ≤ 64 ∧ ∀ t ∈ l, t.size = 32 := by
  unfold parentsB at h
  split at h
  · have h0 := of_decide_eq_true h
    obtain rfl := List.eq_nil_of_length_eq_zero h0
    simp
  · obtain ⟨_, h2, _⟩ := (mayN_iff n).1 hn
    rw [Bool.and_eq_true, Bool.and_eq_true] at h
    have h3 := of_decide_eq_true h.2
    refine ⟨by omega, fun t ht => ?_⟩
    obtain ⟨i, hi, rfl⟩ := List.mem_iff_getElem.1 ht
    have := upFrom_size l l.length 0 h.1.1 i (by omega) (by omega)
    rwa [List.getD_eq_getElem?_getD, List.getElem?_eq_getElem hi] at this
theorem bB_size (b : S61) : (bB b).size ≤ 400 := by
  unfold bB
  split
  · rename_i h
    obtain ⟨h1, h2, h3, h4, h5, h6, h7⟩ := (mayB_iff _ _ _).1 h
    have r1 := rowOf_le b.f2 48 (by omega) (fun t ht => (h7 t ht).2)
    have r2 := numL_length (v := b.f2.length) (by omega)
    have r4 := numL_length (v := b.f0.toNat) (by omega)
    have r5 := numL_length (v := b.f1.toNat) (by omega)
    rw [toB_size, batchL, List.length_append, List.length_append, rowL, List.length_append]; omega
  · show 0 ≤ 400; omega
theorem rowL_bs {bs : List S61} (h : bs.length ≤ 4) : (rowL (bs.map bB)).length ≤ 1700 := by
  have r1 := rowOf_le (bs.map bB) 400 (by omega) (fun t ht => by obtain ⟨b, _, rfl⟩ := List.mem_map.1 ht; exact bB_size b)
  rw [List.length_map] at r1
  have r2 := numL_length (v := (bs.map bB).length) (by rw [List.length_map]; omega)
  rw [rowL, List.length_append]; omega
theorem rowL_ps {ps : List ByteArray} (h : ps.length ≤ 64 ∧ ∀ t ∈ ps, t.size = 32) : (rowL ps).length ≤ 2700 := by
  have r1 := rowOf_le ps 32 (by omega) (fun t ht => by have := h.2 t ht; omega)
  have r2 := numL_length (v := ps.length) (by have := h.1; omega)
  rw [rowL, List.length_append]; have := h.1; omega
theorem any_odd {n : Int} {bs : List S61} (h : bs.any (oddB n) = false) : ∀ b ∈ bs, mayB b.f0 b.f1 b.f2 = true ∧ b.f0 ≤ n := by
  intro b hb
  rw [List.any_eq_false] at h
  have := h b hb
  rw [oddB] at this
  simp at this
  exact ⟨this.1, by omega⟩
theorem rd_four (a b c d : ByteArray) : rdOf ByteArray.empty [a, b, c, d] 0 = a ∧ rdOf ByteArray.empty [a, b, c, d] 1 = b ∧ rdOf ByteArray.empty [a, b, c, d] 2 = c ∧ rdOf ByteArray.empty [a, b, c, d] 3 = d := ⟨rfl, rfl, rfl, rfl⟩
theorem vertex_Bytes_of (a r : Int) (bs : List S61) (ps : List ByteArray) (x y n : Int) :
    vertex_Bytes.f a r bs ps x y n = some (if mayV a r bs ps x y n = true then (toB (vertexL a r bs ps x y), 0) else ((⟨#[]⟩ : ByteArray), 1)) := by
  unfold vertex_Bytes.f
  rw [show vertex_May.f a r bs ps x y n = some (mayV a r bs ps x y n) from rfl]
  simp only [Option.bind_some]
  by_cases h : mayV a r bs ps x y n = true
  · rw [if_pos h, if_pos h]
    obtain ⟨h0, h1, h2, h3, h4, h5, h6, h7, h8, h9⟩ := (mayV_iff ..).1 h
    obtain ⟨k1, k2, k3⟩ := (mayN_iff n).1 h0
    obtain ⟨x1, x2, y1, y2⟩ := (mayE_iff x y).1 h7
    have e1 : vertex_each1.f bs = some (bs.map bB) := if_pos h5
    have e2 : vertex_each2.f [a, r, x, y] = some [numB a.toNat, numB r.toNat, numB x.toNat, numB y.toNat] := by
      rw [vertex_each2.f, if_pos]
      · rfl
      · refine ⟨Nat.le_refl 4, fun k hk => ?_⟩
        simp only [List.mem_cons, List.not_mem_nil, or_false] at hk
        rcases hk with rfl | rfl | rfl | rfl <;> omega
    have s0 := numB_size (v := a.toNat) (by omega)
    have s1 := numB_size (v := r.toNat) (by omega)
    have s2 := numB_size (v := x.toNat) (by omega)
    have s3 := numB_size (v := y.toNat) (by omega)
    have r1 := rowL_bs h5
    have r2 := rowL_ps (parentsB_small h0 h9)
    have d1 : digits_Row.f (bs.map bB) = some (toB (rowL (bs.map bB))) := if_pos (by omega)
    have d2 : digits_Row.f ps = some (toB (rowL ps)) := if_pos (by omega)
    rw [e1, e2]
    simp only [Option.bind_some, d1, d2]
    obtain ⟨q0, q1, q2, q3⟩ := rd_four (numB a.toNat) (numB r.toNat) (numB x.toNat) (numB y.toNat)
    rw [q0, q1, q2, q3]
    simp only [ByteArray.size_append, toB_size]
    rw [if_pos (by simp), if_pos (by simp), if_pos (by omega), if_pos (by omega), if_pos (by omega), if_pos (by simp), if_pos (by omega), if_pos (by simp), if_pos (by omega)]
    simp only [vertexL, numB, toB_append]
  · rw [if_neg h, if_neg h]
instance decBatch : DecidableEq S61 := fun a b => decidable_of_iff (a.f0 = b.f0 ∧ a.f1 = b.f1 ∧ a.f2 = b.f2) ⟨fun ⟨h0, h1, h2⟩ => by obtain ⟨a0, a1, a2⟩ := a; obtain ⟨b0, b1, b2⟩ := b; simp only at h0 h1 h2; rw [h0, h1, h2], fun h => by rw [h]; exact ⟨rfl, rfl, rfl⟩⟩
theorem rd_Batch_at (l : List S61) (j : Nat) (h : j < l.length) : rd_T61 l (j : Int) = l[j] := by
  rw [rd_T61, Int.toNat_natCast, List.getD_eq_getElem?_getD, List.getElem?_eq_getElem h]; rfl
theorem mayV_small {a r : Int} {bs : List S61} {ps : List ByteArray} {x y n : Int} (h : mayV a r bs ps x y n = true) : bs.length < 4611686018427387904 ∧ (∀ b ∈ bs, b.f2.length < 4611686018427387904) ∧ ps.length < 4611686018427387904 := by
  obtain ⟨h0, _, _, _, _, h5, h6, _, _, h9⟩ := (mayV_iff ..).1 h
  refine ⟨by omega, fun b hb => ?_, by have := (parentsB_small h0 h9).1; omega⟩
  obtain ⟨_, _, _, _, _, k, _⟩ := (mayB_iff _ _ _).1 (any_odd h6 b hb).1
  omega
end Go.Proofs.Ytnkeecogengfhaa.Px

namespace Go.Proofs.Ytnkeecogengfhaa.Px
open Go.RowKit Go.Proofs.YtnkeecogengfhaaW.PrintWords Go.Proofs.YtnkeecogengfhaaW.PrintLast Go.Proofs.YtnkeecogengfhaaW.PrintMore
attribute [local go_sem] max2_int min2_int max_two min_two max_three min_three max_four min_four
set_option linter.unusedVariables false
set_option linter.unusedSimpArgs false
theorem vertexL_len {a r : Int} {bs : List S61} {ps : List ByteArray} {x y n : Int} (h : mayV a r bs ps x y n = true) : (vertexL a r bs ps x y).length ≤ 1000000 := by
  obtain ⟨h0, h1, h2, h3, h4, h5, h6, h7, h8, h9⟩ := (mayV_iff ..).1 h
  obtain ⟨k1, k2, k3⟩ := (mayN_iff n).1 h0
  obtain ⟨x1, x2, y1, y2⟩ := (mayE_iff x y).1 h7
  obtain ⟨p1, p2⟩ := parentsB_small h0 h9
  have r1 := rowOf_le (bs.map bB) 400 (by omega) (fun t ht => by
    obtain ⟨b, _, rfl⟩ := List.mem_map.1 ht
    exact bB_size b)
  have r2 := rowOf_le ps 32 (by omega) (fun t ht => by have := p2 t ht; omega)
  have l1 := numL_length (v := (bs.map bB).length) (by rw [List.length_map]; omega)
  have l2 := numL_length (v := ps.length) (by omega)
  have l3 := numL_length (v := a.toNat) (by omega)
  have l4 := numL_length (v := r.toNat) (by omega)
  have l5 := numL_length (v := x.toNat) (by omega)
  have l6 := numL_length (v := y.toNat) (by omega)
  have l7 : (bs.map bB).length = bs.length := List.length_map ..
  rw [vertexL, rowL, rowL]
  simp only [List.length_append]
  have m1 : (bs.map bB).length * (400 + 9) ≤ 4 * 409 := Nat.mul_le_mul (by omega) (by omega)
  have m2 : ps.length * (32 + 9) ≤ 64 * 41 := Nat.mul_le_mul (by omega) (by omega)
  omega
end Go.Proofs.Ytnkeecogengfhaa.Px

namespace Go.Proofs.Ytnkeecogengfhaa.Px
open Go.RowKit Go.Proofs.YtnkeecogengfhaaW.PrintWords Go.Proofs.YtnkeecogengfhaaW.PrintLast Go.Proofs.YtnkeecogengfhaaW.PrintMore
attribute [local go_sem] max2_int min2_int max_two min_two max_three min_three max_four min_four
set_option linter.unusedVariables false
set_option linter.unusedSimpArgs false
end Go.Proofs.Ytnkeecogengfhaa.Px

namespace Go.Proofs.Ytnkeecogengfhaa.Px
open Go.RowKit Go.Proofs.YtnkeecogengfhaaW.PrintWords Go.Proofs.YtnkeecogengfhaaW.PrintLast Go.Proofs.YtnkeecogengfhaaW.PrintMore
attribute [local go_sem] max2_int min2_int max_two min_two max_three min_three max_four min_four
set_option linter.unusedVariables false
set_option linter.unusedSimpArgs false
end Go.Proofs.Ytnkeecogengfhaa.Px

namespace Go.Proofs.Ytnkeecogengfhaa.Px
open Go.RowKit Go.Proofs.YtnkeecogengfhaaW.PrintWords Go.Proofs.YtnkeecogengfhaaW.PrintLast Go.Proofs.YtnkeecogengfhaaW.PrintMore
attribute [local go_sem] max2_int min2_int max_two min_two max_three min_three max_four min_four
set_option linter.unusedVariables false
set_option linter.unusedSimpArgs false
end Go.Proofs.Ytnkeecogengfhaa.Px

namespace Go.Proofs.Ytnkeecogengfhaa.Px
open Go.RowKit Go.Proofs.YtnkeecogengfhaaW.PrintWords Go.Proofs.YtnkeecogengfhaaW.PrintLast Go.Proofs.YtnkeecogengfhaaW.PrintMore
attribute [local go_sem] max2_int min2_int max_two min_two max_three min_three max_four min_four
set_option linter.unusedVariables false
set_option linter.unusedSimpArgs false
theorem refMay_loop (o q : Int) (l : List ByteArray) (hl : l.length < 4611686018427387904) (d : Nat) : ∀ j, j + d = l.length →
    Ev (fun k => selvedgeref07_May.l0 k (j : Int) o q l) (!(l.drop j).any oddTx) := by
  induction d with
  | zero =>
    intro j hj
    refine Ev.step (fun k => by rw [selvedgeref07_May.l0]) ?_
    refine ev_neg (by omega) (ev_eq (Ev.now _) ?_)
    rw [List.drop_eq_nil_of_le (by omega)]; rfl
  | succ d ih =>
    intro j hj
    have hjl : j < l.length := by omega
    refine Ev.step (fun k => by rw [selvedgeref07_May.l0]) ?_
    refine ev_pos (by omega) (ev_pos (by omega) ?_)
    rw [rdOf_at l j hjl, List.drop_eq_getElem_cons hjl, wrap64_of (by omega) (by omega), List.any_cons]
    by_cases h1 : (l[j].size : Int) < 1
    · refine ev_pos h1 (ev_eq (Ev.now _) ?_)
      have : l[j].size = 0 := by omega
      simp [oddTx, this]
    · refine ev_neg h1 ?_
      by_cases h2 : (l[j].size : Int) > 48
      · refine ev_pos h2 (ev_eq (Ev.now _) ?_)
        have : 48 < l[j].size := by omega
        simp [oddTx, this]
      · refine ev_neg h2 (ev_eq (ih (j + 1) (by omega)) ?_)
        have e1 : oddTx l[j] = false := by
          have : ¬ l[j].size = 0 := by omega
          have h3 : ¬ 48 < l[j].size := by omega
          simp [oddTx, this, h3]
        rw [e1, Bool.false_or]
theorem refMay_ev (o q : Int) (l : List ByteArray) (hl : l.length < 4611686018427387904) : Ev (fun k => selvedgeref07_May.f k o q l) (mayB o q l) := by
  have key : ∀ b : Bool, (b = true ↔ ¬ (1 ≤ o ∧ o ≤ 64 ∧ 1 ≤ q ∧ q ≤ 1073741824 ∧ 1 ≤ l.length ∧ l.length ≤ 4)) → Ev (fun k => selvedgeref07_May.j0 k b o q l) (mayB o q l) := by
    intro b hb
    refine Ev.step (fun k => by rw [selvedgeref07_May.j0]) ?_
    by_cases h : 1 ≤ o ∧ o ≤ 64 ∧ 1 ≤ q ∧ q ≤ 1073741824 ∧ 1 ≤ l.length ∧ l.length ≤ 4
    · refine ev_neg (fun hh => hb.1 hh h) (ev_eq (refMay_loop o q l hl l.length 0 (by omega)) ?_)
      obtain ⟨h1, h2, h3, h4, h5, h6⟩ := h
      simp [mayB, h1, h2, h3, h4, h5, h6]
    · refine ev_pos (hb.2 h) (ev_eq (Ev.now _) ?_)
      symm
      rw [← Bool.not_eq_true, mayB_iff]
      exact fun ⟨h1, h2, h3, h4, h5, h6, _⟩ => h ⟨h1, h2, h3, h4, h5, h6⟩
  by_cases h1 : o < 1
  · exact ev_pos h1 (key true (by simp; omega))
  refine ev_neg h1 ?_
  by_cases h2 : o > 64
  · exact ev_pos h2 (key true (by simp; omega))
  refine ev_neg h2 ?_
  by_cases h3 : q < 1
  · exact ev_pos h3 (key true (by simp; omega))
  refine ev_neg h3 ?_
  by_cases h4 : q > 1073741824
  · exact ev_pos h4 (key true (by simp; omega))
  refine ev_neg h4 ?_
  by_cases h5 : (l.length : Int) < 1
  · exact ev_pos h5 (key true (by simp; omega))
  exact ev_neg h5 (key _ (by simp; omega))
end Go.Proofs.Ytnkeecogengfhaa.Px

namespace Go.Proofs.Ytnkeecogengfhaa.Px
open Go.RowKit Go.Proofs.YtnkeecogengfhaaW.PrintWords Go.Proofs.YtnkeecogengfhaaW.PrintLast Go.Proofs.YtnkeecogengfhaaW.PrintMore
attribute [local go_sem] max2_int min2_int max_two min_two max_three min_three max_four min_four
set_option linter.unusedVariables false
set_option linter.unusedSimpArgs false
theorem ref05_May_of (n : Int) : selvedgeref05_May.f n = some (mayN n) := by
  unfold selvedgeref05_May.f mayN
  by_cases h4 : n = 4
  · subst h4; rfl
  · rw [if_neg h4]
    by_cases h : n > 4
    · rw [if_pos h]
      by_cases h1 : n ≤ 64
      · rw [if_pos h1, wrap64_of (by omega) (by omega), Int.tmod_eq_emod_of_nonneg (by omega)]
        by_cases h2 : n % 3 = 1
        · have : (n - 1) % 3 = 0 := by omega
          simp [h1, h2, this]; omega
        · have : ¬ (n - 1) % 3 = 0 := by omega
          simp [h2, this]
      · rw [if_neg h1]; simp [h1]
    · rw [if_neg h]
      have : ¬ 4 ≤ n := by omega
      simp [this]
theorem ref05_Quorum_of (n : Int) : selvedgeref05_Quorum.f n = some (quorumN n) := by
  unfold selvedgeref05_Quorum.f quorumN
  rw [ref05_May_of]
  simp only [Option.bind_some]
  by_cases h : mayN n = true
  · rw [if_pos h, if_pos h]
    obtain ⟨h1, h2, h3⟩ := (mayN_iff n).1 h
    rw [wrap64_of (x := n - 1) (by omega) (by omega), Int.tdiv_eq_ediv_of_nonneg (by omega), wrap64_of (x := (n - 1) / 3) (by omega) (by omega), wrap64_of (by omega) (by omega)]
  · rw [if_neg h, if_neg h]
theorem ref03_May_of (a b : Int) : selvedgeref03_May.f a b = some (mayE a b) := by
  unfold selvedgeref03_May.f mayE
  by_cases h1 : 0 ≤ a <;> by_cases h2 : a < 10007 <;> by_cases h3 : 0 ≤ b <;> simp [h1, h2, h3]
theorem ref08_Third_of (r : Int) : selvedgeref08_Third.f r = some (thirdR r) := by
  unfold selvedgeref08_Third.f thirdR
  by_cases h : r > 0
  · rw [if_pos h, Int.tmod_eq_emod_of_nonneg (by omega)]
    by_cases h2 : r % 3 = 0
    · have : 3 ≤ r := by omega
      simp [h2, this]
    · simp [h2]
  · rw [if_neg h]
    have : ¬ 3 ≤ r := by omega
    simp [this]
def shareB (r x y : Int) : Bool := mayE x y && (thirdR r || (decide (x = 0) && decide (y = 0)))
theorem refVMay_l1 (a r : Int) (bs : List S61) (ps : List ByteArray) (x y : Int) (hl : ps.length < 4611686018427387904) (hp : ∀ t ∈ ps, t.size < 4611686018427387904) (d : Nat) : ∀ j, j + d = ps.length →
    Ev (fun k => selvedgeref08_May.l1 k (j : Int) a r bs ps x y) (upFrom ps d j && shareB r x y) := by
  induction d with
  | zero =>
    intro j hj
    refine Ev.step (fun k => by rw [selvedgeref08_May.l1]) ?_
    refine ev_neg (by omega) (ev_bind_const (ref03_May_of x y) (ev_bind_const (ref08_Third_of r) ?_))
    unfold shareB
    by_cases h1 : mayE x y = true
    · refine ev_pos h1 ?_
      by_cases h2 : thirdR r = true
      · exact ev_pos h2 (ev_eq (Ev.now _) (by simp [upFrom, h1, h2]))
      · refine ev_neg h2 ?_
        by_cases h3 : x = 0
        · refine ev_pos h3 (ev_eq (Ev.now _) ?_)
          rw [Bool.not_eq_true] at h2
          subst h3
          by_cases h4 : y = 0
          · subst h4; simp [upFrom, h1, h2]
          · simp [upFrom, h1, h2, h4]
        · rw [Bool.not_eq_true] at h2
          exact ev_neg h3 (ev_eq (Ev.now _) (by simp [upFrom, h2, h3]))
    · rw [Bool.not_eq_true] at h1
      exact ev_neg (by rw [h1]; simp) (ev_eq (Ev.now _) (by simp [upFrom, h1]))
  | succ d ih =>
    intro j hj
    have hj' : j < ps.length := by omega
    refine Ev.step (fun k => by rw [selvedgeref08_May.l1]) ?_
    refine ev_pos (by omega) (ev_pos (by omega) ?_)
    have e1 : rdOf ByteArray.empty ps (j : Int) = ps.getD j ByteArray.empty := by rw [rdOf, Int.toNat_natCast]
    rw [e1]
    by_cases h : (ps.getD j ByteArray.empty).size = 32
    · refine ev_pos (by omega) ?_
      rw [wrap64_of (x := (j : Int) + 1) (by omega) (by omega)]
      by_cases h0 : j = 0
      · subst h0
        refine ev_neg (by omega) (ev_eq (ih 1 (by omega)) ?_)
        simp only [upFrom, upAt, h]; simp
      · refine ev_pos (by omega) ?_
        have e2 : wrap64 ((j : Int) - 1) = ((j - 1 : Nat) : Int) := by rw [wrap64_of (by omega) (by omega)]; omega
        rw [e2]
        refine ev_pos (by omega) (ev_pos (by omega) ?_)
        have e3 : rdOf ByteArray.empty ps ((j - 1 : Nat) : Int) = ps.getD (j - 1) ByteArray.empty := by rw [rdOf, Int.toNat_natCast]
        rw [e3]
        have hsz : (ps.getD (j - 1) ByteArray.empty).size < 4611686018427387904 := by
          rw [List.getD_eq_getElem?_getD, List.getElem?_eq_getElem (show j - 1 < ps.length by omega)]
          exact hp _ (List.getElem_mem _)
        refine Ev.bind (less_ev _ _ hsz) ?_
        by_cases h2 : lessL (ofB (ps.getD (j - 1) ByteArray.empty)) (ofB (ps.getD j ByteArray.empty)) = true
        · refine ev_pos h2 (ev_eq (ih (j + 1) (by omega)) ?_)
          simp only [upFrom, upAt, h, h2]; simp
        · refine ev_neg h2 (ev_eq (Ev.now _) ?_)
          rw [Bool.not_eq_true] at h2
          simp only [upFrom, upAt, h, h0, h2]; simp
    · refine ev_neg (by omega) (ev_eq (Ev.now _) ?_)
      simp only [upFrom, upAt, h]; simp
def refRest (r : Int) (ps : List ByteArray) (x y n : Int) : Bool :=
  !(decide (r = 1) && decide (0 < ps.length)) && !(decide (1 < r) && (decide ((ps.length : Int) < quorumN n) || decide (n < ps.length))) && (upFrom ps ps.length 0 && shareB r x y)
theorem refVMay_l0 (a r : Int) (bs : List S61) (ps : List ByteArray) (x y n : Int) (hb : bs.length < 4611686018427387904) (hbs : ∀ b ∈ bs, b.f2.length < 4611686018427387904) (hl : ps.length < 4611686018427387904) (hp : ∀ t ∈ ps, t.size < 4611686018427387904) (d : Nat) : ∀ j, j + d = bs.length →
    Ev (fun k => selvedgeref08_May.l0 k n (j : Int) a r bs ps x y) (!(bs.drop j).any (oddB n) && refRest r ps x y n) := by
  induction d with
  | zero =>
    intro j hj
    refine Ev.step (fun k => by rw [selvedgeref08_May.l0]) ?_
    rw [List.drop_eq_nil_of_le (by omega)]
    refine ev_neg (by omega) ?_
    have J3 : ∀ b : Bool, Ev (fun k => selvedgeref08_May.j3 k b a r bs ps x y) (!b && (upFrom ps ps.length 0 && shareB r x y)) := by
      intro b
      refine Ev.step (fun k => by rw [selvedgeref08_May.j3]) ?_
      rcases b with _ | _
      · exact ev_neg (by simp) (ev_eq (refVMay_l1 a r bs ps x y hl hp ps.length 0 (by omega)) (by simp))
      · exact ev_pos rfl (ev_eq (Ev.now _) (by simp))
    have J2 : ∀ b : Bool, Ev (fun k => selvedgeref08_May.j2 k n b a r bs ps x y) (!b && (!(decide (1 < r) && (decide ((ps.length : Int) < quorumN n) || decide (n < ps.length))) && (upFrom ps ps.length 0 && shareB r x y))) := by
      intro b
      refine Ev.step (fun k => by rw [selvedgeref08_May.j2]) ?_
      rcases b with _ | _
      · refine ev_neg (by simp) ?_
        by_cases h : r > 1
        · have h' : 1 < r := h
          refine ev_pos h (ev_bind_const (ref05_Quorum_of n) ?_)
          by_cases h2 : (ps.length : Int) < quorumN n
          · exact ev_pos h2 (ev_eq (J3 true) (by simp [h', h2]))
          · exact ev_neg h2 (ev_eq (J3 _) (by simp [h', h2]))
        · have h' : ¬ 1 < r := h
          exact ev_neg h (ev_eq (J3 false) (by simp [h']))
      · exact ev_pos rfl (ev_eq (Ev.now _) (by simp))
    unfold refRest
    by_cases h : r = 1
    · refine ev_pos h (ev_eq (J2 _) ?_)
      subst h
      by_cases h0 : 0 < ps.length
      · have : decide ((ps.length : Int) > 0) = true := decide_eq_true (by omega)
        simp [this, h0]
      · have : decide ((ps.length : Int) > 0) = false := decide_eq_false (by omega)
        simp [this, h0]
    · exact ev_neg h (ev_eq (J2 false) (by simp [h]))
  | succ d ih =>
    intro j hj
    have hj' : j < bs.length := by omega
    refine Ev.step (fun k => by rw [selvedgeref08_May.l0]) ?_
    refine ev_pos (by omega) (ev_pos (by omega) ?_)
    rw [rd_Batch_at bs j hj', wrap64_of (by omega) (by omega), List.drop_eq_getElem_cons hj', List.any_cons]
    refine Ev.bind (refMay_ev _ _ _ (hbs _ (List.getElem_mem hj'))) ?_
    by_cases h : mayB bs[j].f0 bs[j].f1 bs[j].f2 = true
    · refine ev_pos h ?_
      by_cases h2 : bs[j].f0 > n
      · have h3 : n < bs[j].f0 := h2
        exact ev_pos h2 (ev_eq (Ev.now _) (by simp [oddB, h3]))
      · have h3 : ¬ n < bs[j].f0 := h2
        refine ev_neg h2 (ev_eq (ih (j + 1) (by omega)) ?_)
        have : oddB n bs[j] = false := by simp [oddB, h, h3]
        rw [this, Bool.false_or]
    · refine ev_neg h (ev_eq (Ev.now _) ?_)
      rw [Bool.not_eq_true] at h
      simp [oddB, h]
theorem mayV_ref (a r : Int) (bs : List S61) (ps : List ByteArray) (x y n : Int) (h0 : mayN n = true) (h1 : 1 ≤ a) (h2 : a ≤ n) (h3 : 1 ≤ r) (h4 : r ≤ 1048576) (h5 : bs.length ≤ 4) :
    mayV a r bs ps x y n = (!bs.any (oddB n) && refRest r ps x y n) := by
  unfold mayV refRest parentsB shareB
  simp only [h0, h1, h2, h3, h4, h5]
  by_cases e : r = 1
  · subst e
    rcases ps with _ | ⟨p, ps⟩
    · simp [upFrom, Bool.and_assoc]
    · simp
  · have h6 : 1 < r := by omega
    simp only [if_neg e, e, h6]
    have q1 : decide ((ps.length : Int) < quorumN n) = !decide (quorumN n ≤ (ps.length : Int)) := by
      by_cases q : quorumN n ≤ (ps.length : Int) <;> simp [q] <;> omega
    have q2 : decide (n < (ps.length : Int)) = !decide ((ps.length : Int) ≤ n) := by
      by_cases q : (ps.length : Int) ≤ n <;> simp [q] <;> omega
    rw [q1, q2]
    cases bs.any (oddB n) <;> cases mayE x y <;> cases thirdR r <;> cases upFrom ps ps.length 0 <;> cases decide (quorumN n ≤ (ps.length : Int)) <;> cases decide ((ps.length : Int) ≤ n) <;> simp
theorem refVMay_ev (a r : Int) (bs : List S61) (ps : List ByteArray) (x y n : Int) (hb : bs.length < 4611686018427387904) (hbs : ∀ b ∈ bs, b.f2.length < 4611686018427387904) (hl : ps.length < 4611686018427387904) (hp : ∀ t ∈ ps, t.size < 4611686018427387904) :
    Ev (fun k => selvedgeref08_May.f k a r bs ps x y n) (mayV a r bs ps x y n) := by
  have key : ∀ b : Bool, (b = true ↔ ¬ (mayN n = true ∧ 1 ≤ a ∧ a ≤ n ∧ 1 ≤ r ∧ r ≤ 1048576 ∧ bs.length ≤ 4)) → Ev (fun k => selvedgeref08_May.j0 k n b a r bs ps x y) (mayV a r bs ps x y n) := by
    intro b hb'
    refine Ev.step (fun k => by rw [selvedgeref08_May.j0]) ?_
    by_cases h : mayN n = true ∧ 1 ≤ a ∧ a ≤ n ∧ 1 ≤ r ∧ r ≤ 1048576 ∧ bs.length ≤ 4
    · refine ev_neg (fun hh => hb'.1 hh h) (ev_eq (refVMay_l0 a r bs ps x y n hb hbs hl hp bs.length 0 (by omega)) ?_)
      obtain ⟨h0, h1, h2, h3, h4, h5⟩ := h
      rw [mayV_ref a r bs ps x y n h0 h1 h2 h3 h4 h5, List.drop_zero]
    · refine ev_pos (hb'.2 h) (ev_eq (Ev.now _) ?_)
      symm
      rw [← Bool.not_eq_true, mayV_iff]
      exact fun ⟨h0, h1, h2, h3, h4, h5, _⟩ => h ⟨h0, h1, h2, h3, h4, h5⟩
  refine ev_bind_const (ref05_May_of n) ?_
  by_cases h0 : mayN n = true
  · refine ev_pos h0 ?_
    by_cases h1 : a < 1
    · exact ev_pos h1 (key true (by simp; omega))
    refine ev_neg h1 ?_
    by_cases h2 : a > n
    · exact ev_pos h2 (key true (by simp; omega))
    refine ev_neg h2 ?_
    by_cases h3 : r < 1
    · exact ev_pos h3 (key true (by simp; omega))
    refine ev_neg h3 ?_
    by_cases h4 : r > 1048576
    · exact ev_pos h4 (key true (by simp; omega))
    exact ev_neg h4 (key _ (by simp [h0]; omega))
  · exact ev_neg h0 (key true (by simp [h0]))
end Go.Proofs.Ytnkeecogengfhaa.Px

namespace Go.Proofs.Ytnkeecogengfhaa.Px
open Go.RowKit Go.Proofs.YtnkeecogengfhaaW.PrintWords Go.Proofs.YtnkeecogengfhaaW.PrintLast Go.Proofs.YtnkeecogengfhaaW.PrintMore
attribute [local go_sem] max2_int min2_int max_two min_two max_three min_three max_four min_four
set_option linter.unusedVariables false
set_option linter.unusedSimpArgs false
theorem refNumZ_ev {x : Int} (h0 : 0 ≤ x) (h1 : x < 9223372036854775808) : Ev (fun k => selvedgeref01_Num.f k (IntKind.u64.wrap x)) (numB x.toNat) := by
  obtain ⟨n, rfl⟩ := Int.eq_ofNat_of_zero_le h0
  rw [u64_wrap_of (by omega) (by omega), Int.toNat_natCast]
  exact refNum_ev n (by omega)
def batchR (o q : Int) (l : List ByteArray) : ByteArray × Int := if mayB o q l = true then (toB (batchL o q l), 0) else ((⟨#[]⟩ : ByteArray), 1)
theorem refBatchBytes_ev (o q : Int) (l : List ByteArray) (hl : l.length < 4611686018427387904) : Ev (fun k => selvedgeref07_Bytes.f k o q l) (batchR o q l) := by
  refine Ev.bind (refMay_ev _ _ _ hl) ?_
  unfold batchR
  by_cases h : mayB o q l = true
  · rw [if_pos h]
    obtain ⟨h1, h2, h3, h4, h5, h6, h7⟩ := (mayB_iff o q l).1 h
    have r1 := rowOf_le l 48 (by omega) (fun t ht => (h7 t ht).2)
    have r2 := numL_length (v := l.length) (by omega)
    have r3 : (rowL l).length ≤ 300 := by rw [rowL, List.length_append]; omega
    have n1 := numB_size (v := o.toNat) (by omega)
    have n2 := numB_size (v := q.toNat) (by omega)
    have r4 : selvedgeref01_Row.f l = some (toB (rowL l)) := if_pos (by omega)
    refine ev_pos h (Ev.bind (refNumZ_ev (by omega) (by omega)) (Ev.bind (refNumZ_ev (by omega) (by omega)) (ev_pos (by omega) (ev_bind_const r4 (ev_pos (by rw [ByteArray.size_append, toB_size]; omega) (ev_eq (Ev.now _) ?_))))))
    rw [batchL, toB_append, toB_append]; rfl
  · rw [if_neg h]; exact ev_neg h (Ev.now _)
theorem batchR_fst (b : S61) : (batchR b.f0 b.f1 b.f2).1 = bB b := by
  unfold batchR bB; split <;> rfl
def vertexR (a r : Int) (bs : List S61) (ps : List ByteArray) (x y n : Int) : ByteArray × Int := if mayV a r bs ps x y n = true then (toB (vertexL a r bs ps x y), 0) else ((⟨#[]⟩ : ByteArray), 1)
theorem refVBytes_l0 {a r : Int} {bs : List S61} {ps : List ByteArray} {x y n : Int} (h : mayV a r bs ps x y n = true) (d : Nat) : ∀ j, j + d = bs.length →
    Ev (fun k => selvedgeref08_Bytes.l0 k ((bs.take j).map bB) (j : Int) a r bs ps x y) (toB (vertexL a r bs ps x y), 0) := by
  obtain ⟨h0, h1, h2, h3, h4, h5, h6, h7, h8, h9⟩ := (mayV_iff ..).1 h
  obtain ⟨k1, k2, k3⟩ := (mayN_iff n).1 h0
  obtain ⟨x1, x2, y1, y2⟩ := (mayE_iff x y).1 h7
  induction d with
  | zero =>
    intro j hj
    refine Ev.step (fun k => by rw [selvedgeref08_Bytes.l0]) ?_
    rw [List.take_of_length_le (by omega)]
    have s0 := numB_size (v := a.toNat) (by omega)
    have s1 := numB_size (v := r.toNat) (by omega)
    have s2 := numB_size (v := x.toNat) (by omega)
    have s3 := numB_size (v := y.toNat) (by omega)
    have r1 := rowL_bs h5
    have r2 := rowL_ps (parentsB_small h0 h9)
    have d1 : selvedgeref01_Row.f (bs.map bB) = some (toB (rowL (bs.map bB))) := if_pos (by omega)
    have d2 : selvedgeref01_Row.f ps = some (toB (rowL ps)) := if_pos (by omega)
    refine ev_neg (by omega) (Ev.bind (refNumZ_ev (by omega) (by omega)) (Ev.bind (refNumZ_ev (by omega) (by omega)) (ev_pos (by omega) (ev_bind_const d1 (ev_pos (by simp only [ByteArray.size_append, toB_size]; omega) (ev_bind_const d2 (ev_pos (by simp only [ByteArray.size_append, toB_size]; omega)
      (Ev.bind (refNumZ_ev (by omega) (by omega)) (ev_pos (by simp only [ByteArray.size_append, toB_size]; omega) (Ev.bind (refNumZ_ev (by omega) (by omega)) (ev_pos (by simp only [ByteArray.size_append, toB_size]; omega) (ev_eq (Ev.now _) ?_))))))))))))
    simp only [vertexL, numB, toB_append]
  | succ d ih =>
    intro j hj
    have hj' : j < bs.length := by omega
    refine Ev.step (fun k => by rw [selvedgeref08_Bytes.l0]) ?_
    refine ev_pos (by omega) (ev_pos (by omega) ?_)
    rw [rd_Batch_at bs j hj', wrap64_of (by omega) (by omega)]
    have hl := (mayV_small h).2.1 _ (List.getElem_mem hj')
    refine Ev.bind (refBatchBytes_ev _ _ _ hl) (ev_pos (by rw [List.length_map, List.length_take]; omega) ?_)
    rw [batchR_fst]
    have e : (bs.take j).map bB ++ [bB bs[j]] = (bs.take (j + 1)).map bB := by
      rw [List.take_succ_eq_append_getElem hj', List.map_append]; rfl
    rw [e]
    exact ih (j + 1) (by omega)
theorem refVertexBytes_ev (a r : Int) (bs : List S61) (ps : List ByteArray) (x y n : Int) (hb : bs.length < 4611686018427387904) (hbs : ∀ b ∈ bs, b.f2.length < 4611686018427387904) (hl : ps.length < 4611686018427387904) (hp : ∀ t ∈ ps, t.size < 4611686018427387904) :
    Ev (fun k => selvedgeref08_Bytes.f k a r bs ps x y n) (vertexR a r bs ps x y n) := by
  refine Ev.bind (refVMay_ev a r bs ps x y n hb hbs hl hp) ?_
  unfold vertexR
  by_cases h : mayV a r bs ps x y n = true
  · rw [if_pos h]
    exact ev_pos h (ev_eq (refVBytes_l0 h bs.length 0 (by omega)) rfl)
  · rw [if_neg h]; exact ev_neg h (Ev.now _)
end Go.Proofs.Ytnkeecogengfhaa.Px

namespace Go.Proofs.Ytnkeecogengfhaa.Px
open Go.RowKit Go.Proofs.YtnkeecogengfhaaW.PrintWords Go.Proofs.YtnkeecogengfhaaW.PrintLast Go.Proofs.YtnkeecogengfhaaW.PrintMore
attribute [local go_sem] max2_int min2_int max_two min_two max_three min_three max_four min_four
set_option linter.unusedVariables false
set_option linter.unusedSimpArgs false
def popA : Nat → Nat → Nat
  | 0, _ => 0
  | d + 1, s => s % 2 + popA d (s / 2)
theorem popA_le : ∀ (d s : Nat), popA d s ≤ d
  | 0, _ => Nat.le_refl _
  | d + 1, s => by have := popA_le d (s / 2); rw [popA]; omega
theorem popA_add : ∀ (d e b r : Nat), b < 2 ^ d → popA (d + e) (b + 2 ^ d * r) = popA d b + popA e r
  | 0, e, b, r, h => by
    obtain rfl : b = 0 := by simpa using h
    rw [Nat.zero_add, Nat.zero_add, Nat.pow_zero, Nat.one_mul]; simp [popA]
  | d + 1, e, b, r, h => by
    rw [Nat.pow_succ] at h
    have e1 : (b + 2 ^ (d + 1) * r) / 2 = b / 2 + 2 ^ d * r := by
      rw [Nat.pow_succ, Nat.mul_assoc, Nat.mul_left_comm, Nat.add_mul_div_left _ _ (by omega)]
    have e2 : (b + 2 ^ (d + 1) * r) % 2 = b % 2 := by
      rw [Nat.pow_succ, Nat.mul_assoc, Nat.mul_left_comm, Nat.add_mul_mod_self_left]
    rw [show d + 1 + e = (d + e) + 1 by omega, popA, popA, e1, e2, popA_add d e (b / 2) r (by omega)]
    omega
def joinB : List Nat → Nat
  | [] => 0
  | b :: l => b + 256 * joinB l
theorem and_join (a b c d : Nat) (hb : b < 256) (hd : d < 256) : (b + 256 * a) &&& (d + 256 * c) = (b &&& d) + 256 * (a &&& c) := by
  have hx : b &&& d < 2 ^ 8 := Nat.and_lt_two_pow _ (by omega)
  apply Nat.eq_of_testBit_eq
  intro i
  rw [Nat.testBit_and, Nat.add_comm b, Nat.add_comm d, Nat.add_comm (b &&& d)]
  rw [show (256 : Nat) = 2 ^ 8 from rfl, Nat.testBit_two_pow_mul_add _ (by omega), Nat.testBit_two_pow_mul_add _ (by omega), Nat.testBit_two_pow_mul_add _ hx]
  split <;> rw [Nat.testBit_and]
theorem low_1 : ∀ (b : Fin 256) (t : Fin 2), (b.val / 2 + 128 * t.val) &&& 85 = b.val / 2 &&& 85 := by decide +kernel
theorem low_2 : ∀ (b : Fin 256) (t : Fin 4), (b.val / 4 + 64 * t.val) &&& 51 = b.val / 4 &&& 51 := by decide +kernel
def pop1 (b : Nat) : Nat := (b / 2 &&& 85) + (b &&& 85)
def pop2 (b : Nat) : Nat := (b / 4 &&& 51) + (b &&& 51)
def pop3 (b : Nat) : Nat := b % 16 + b / 16
theorem pop_byte : ∀ b : Fin 256, pop1 b.val < 256 ∧ pop2 (pop1 b.val) < 256 ∧ pop2 (pop1 b.val) % 16 ≤ 4 ∧ pop2 (pop1 b.val) / 16 ≤ 4 ∧ pop3 (pop2 (pop1 b.val)) = popA 8 b.val := by decide +kernel
theorem join_1 : ∀ l : List Nat, (∀ b ∈ l, b < 256) → (joinB l / 2 &&& joinB (List.replicate l.length 85)) + (joinB l &&& joinB (List.replicate l.length 85)) = joinB (l.map pop1)
  | [], _ => rfl
  | b :: l, h => by
    have hb := h b List.mem_cons_self
    have ih := join_1 l (fun c hc => h c (List.mem_cons_of_mem _ hc))
    have k := low_1 ⟨b, hb⟩ ⟨joinB l % 2, Nat.mod_lt _ (by omega)⟩
    simp only at k
    rw [List.length_cons, List.replicate_succ, joinB, joinB, List.map_cons, joinB, ← ih]
    rw [show (b + 256 * joinB l) / 2 = (b / 2 + 128 * (joinB l % 2)) + 256 * (joinB l / 2) by omega, and_join _ _ _ _ (by omega) (by omega), and_join _ _ _ _ hb (by omega), k, pop1]
    omega
theorem join_2 : ∀ l : List Nat, (∀ b ∈ l, b < 256) → (joinB l / 4 &&& joinB (List.replicate l.length 51)) + (joinB l &&& joinB (List.replicate l.length 51)) = joinB (l.map pop2)
  | [], _ => rfl
  | b :: l, h => by
    have hb := h b List.mem_cons_self
    have ih := join_2 l (fun c hc => h c (List.mem_cons_of_mem _ hc))
    have k := low_2 ⟨b, hb⟩ ⟨joinB l % 4, Nat.mod_lt _ (by omega)⟩
    simp only at k
    rw [List.length_cons, List.replicate_succ, joinB, joinB, List.map_cons, joinB, ← ih]
    rw [show (b + 256 * joinB l) / 4 = (b / 4 + 64 * (joinB l % 4)) + 256 * (joinB l / 4) by omega, and_join _ _ _ _ (by omega) (by omega), and_join _ _ _ _ hb (by omega), k, pop2]
    omega
theorem join_low (l : List Nat) (h : ∀ b ∈ l, b % 16 ≤ 4 ∧ b / 16 ≤ 4) : joinB l % 16 ≤ 4 := by
  cases l with
  | nil => simp [joinB]
  | cons b l => have := (h b List.mem_cons_self).1; rw [joinB]; omega
theorem join_3 : ∀ l : List Nat, (∀ b ∈ l, b % 16 ≤ 4 ∧ b / 16 ≤ 4) → ((joinB l / 16 + joinB l) &&& joinB (List.replicate l.length 15)) = joinB (l.map pop3)
  | [], _ => rfl
  | b :: l, h => by
    obtain ⟨h1, h2⟩ := h b List.mem_cons_self
    have hl := fun c hc => h c (List.mem_cons_of_mem b hc)
    have ih := join_3 l hl
    have k := join_low l hl
    rw [List.length_cons, List.replicate_succ, joinB, joinB, List.map_cons, joinB, ← ih]
    rw [show (b + 256 * joinB l) / 16 + (b + 256 * joinB l) = (b / 16 + 16 * (joinB l % 16) + b) + 256 * (joinB l / 16 + joinB l) by omega, and_join _ _ _ _ (by omega) (by omega)]
    rw [show (15 : Nat) = 2 ^ 4 - 1 from rfl, Nat.and_two_pow_sub_one_eq_mod, pop3]
    omega
theorem join_lt : ∀ l : List Nat, (∀ b ∈ l, b < 256) → joinB l < 256 ^ l.length
  | [], _ => by simp [joinB]
  | b :: l, h => by
    have := join_lt l (fun c hc => h c (List.mem_cons_of_mem _ hc))
    have hb := h b List.mem_cons_self
    rw [joinB, List.length_cons, Nat.pow_succ]; omega
set_option maxRecDepth 10000 in
theorem join_le (m : Nat) : ∀ l : List Nat, (∀ b ∈ l, b ≤ m) → joinB l * 255 + m ≤ m * 256 ^ l.length
  | [], _ => by simp [joinB]
  | b :: l, h => by
    have := join_le m l (fun c hc => h c (List.mem_cons_of_mem _ hc))
    have hb := h b List.mem_cons_self
    rw [joinB, List.length_cons, Nat.pow_succ, ← Nat.mul_assoc]
    generalize m * 256 ^ l.length = X at *
    omega
theorem u64_sum (a b : Nat) (h : a + b < 18446744073709551616) : IntKind.u64.wrap ((a : Int) + (b : Int)) = ((a + b : Nat) : Int) := by
  rw [u64_wrap_of (by omega) (by omega)]; omega
theorem pop_e2 {q0 q1 q2 r1 r2 r3 z : Nat} (g0 : q0 ≤ 8) (g1 : q1 ≤ 8) (g2 : q2 ≤ 8) (e0 : z = q0 + 256 * r1) (e1 : r1 = q1 + 256 * r2) (e2 : r2 = q2 + 256 * r3) : z / 256 = r1 ∧ (z + r1) / 65536 = r2 + r3 := by
  constructor <;> omega
theorem pop_e3 {q0 q1 q2 q3 q4 q5 q6 q7 r1 r2 r3 r4 r5 r6 z : Nat} (g0 : q0 ≤ 8) (g1 : q1 ≤ 8) (g2 : q2 ≤ 8) (g3 : q3 ≤ 8) (g4 : q4 ≤ 8) (g5 : q5 ≤ 8) (g6 : q6 ≤ 8) (e0 : z = q0 + 256 * q1 + 65536 * q2 + 16777216 * q3 + 4294967296 * r4) (e1 : r1 = q1 + 256 * q2 + 65536 * q3 + 16777216 * q4 + 4294967296 * r5) (e2 : r2 = q2 + 256 * q3 + 65536 * q4 + 16777216 * q5 + 4294967296 * r6) (e3 : r3 = q3 + 256 * q4 + 65536 * q5 + 16777216 * q6 + 4294967296 * q7) :
    (z + r1 + (r2 + r3)) / 4294967296 = r4 + r5 + r6 + q7 := by
  generalize hx : q0 + 256 * q1 + 65536 * q2 + 16777216 * q3 = x at *
  have lx : x ≤ 134744072 := by omega
  generalize hy : q1 + 256 * q2 + 65536 * q3 + 16777216 * q4 = y at *
  have ly : y ≤ 134744072 := by omega
  generalize hu : q2 + 256 * q3 + 65536 * q4 + 16777216 * q5 = u at *
  have lu : u ≤ 134744072 := by omega
  generalize hv : q3 + 256 * q4 + 65536 * q5 + 16777216 * q6 = v at *
  have lv : v ≤ 134744072 := by omega
  clear hx hy hu hv g0 g1 g2 g3 g4 g5 g6
  omega
theorem pop_end (q0 q1 q2 q3 q4 q5 q6 q7 z z1 z2 z3 : Nat) (g0 : q0 ≤ 8) (g1 : q1 ≤ 8) (g2 : q2 ≤ 8) (g3 : q3 ≤ 8) (g4 : q4 ≤ 8) (g5 : q5 ≤ 8) (g6 : q6 ≤ 8) (g7 : q7 ≤ 8)
    (hz : z = q0 + 256 * (q1 + 256 * (q2 + 256 * (q3 + 256 * (q4 + 256 * (q5 + 256 * (q6 + 256 * q7))))))) (h1 : z1 = z + z / 256) (h2 : z2 = z1 + z1 / 65536) (h3 : z3 = z2 + z2 / 4294967296) :
    z3 % 128 = q0 + (q1 + (q2 + (q3 + (q4 + (q5 + (q6 + q7)))))) := by
  obtain ⟨r6, e6⟩ : ∃ r, r = q6 + 256 * q7 := ⟨_, rfl⟩
  obtain ⟨r5, e5⟩ : ∃ r, r = q5 + 256 * r6 := ⟨_, rfl⟩
  obtain ⟨r4, e4⟩ : ∃ r, r = q4 + 256 * r5 := ⟨_, rfl⟩
  obtain ⟨r3, e3⟩ : ∃ r, r = q3 + 256 * r4 := ⟨_, rfl⟩
  obtain ⟨r2, e2⟩ : ∃ r, r = q2 + 256 * r3 := ⟨_, rfl⟩
  obtain ⟨r1, e1⟩ : ∃ r, r = q1 + 256 * r2 := ⟨_, rfl⟩
  rw [← e6, ← e5, ← e4, ← e3, ← e2, ← e1] at hz
  obtain ⟨a1, a2⟩ := pop_e2 g0 g1 g2 hz e1 e2
  rw [a1] at h1
  rw [h1, a2] at h2
  have a3 := pop_e3 (z := z) (q7 := q7) (r1 := r1) (r2 := r2) (r3 := r3) (r4 := r4) (r5 := r5) (r6 := r6) g0 g1 g2 g3 g4 g5 g6 (by rw [hz, e1, e2, e3]; omega) (by rw [e1, e2, e3, e4]; omega) (by rw [e2, e3, e4, e5]; omega) (by rw [e3, e4, e5, e6]; omega)
  rw [h2, a3] at h3
  clear a1 a2 a3 h1 h2
  omega
set_option maxHeartbeats 1000000 in
theorem bits_OnesCount64_of (x : Nat) (hx : x < 18446744073709551616) : bits_OnesCount64.f (x : Int) = some ((popA 64 x : Nat) : Int) := by
  obtain ⟨b0, b1, b2, b3, b4, b5, b6, b7, h0, h1, h2, h3, h4, h5, h6, h7, e⟩ : ∃ b0 b1 b2 b3 b4 b5 b6 b7 : Nat, b0 < 256 ∧ b1 < 256 ∧ b2 < 256 ∧ b3 < 256 ∧ b4 < 256 ∧ b5 < 256 ∧ b6 < 256 ∧ b7 < 256 ∧ x = joinB [b0, b1, b2, b3, b4, b5, b6, b7] :=
    ⟨x % 256, x / 256 % 256, x / 65536 % 256, x / 16777216 % 256, x / 4294967296 % 256, x / 1099511627776 % 256, x / 281474976710656 % 256, x / 72057594037927936, by omega, by omega, by omega, by omega, by omega, by omega, by omega, by omega, by simp only [joinB]; omega⟩
  generalize hl : [b0, b1, b2, b3, b4, b5, b6, b7] = l at e
  have hlen : l.length = 8 := by rw [← hl]; rfl
  have hb : ∀ b ∈ l, b < 256 := by rw [← hl]; simp only [List.mem_cons, List.not_mem_nil, or_false]; rintro b (rfl | rfl | rfl | rfl | rfl | rfl | rfl | rfl) <;> assumption
  have q1 := join_1 l hb
  have hb1 : ∀ b ∈ l.map pop1, b < 256 := fun b hm => by obtain ⟨c, hc, rfl⟩ := List.mem_map.1 hm; exact (pop_byte ⟨c, hb c hc⟩).1
  have q2 := join_2 (l.map pop1) hb1
  have hb2 : ∀ b ∈ (l.map pop1).map pop2, b % 16 ≤ 4 ∧ b / 16 ≤ 4 := fun b hm => by
    obtain ⟨c, hc, rfl⟩ := List.mem_map.1 hm
    obtain ⟨d, hd, rfl⟩ := List.mem_map.1 hc
    have := pop_byte ⟨d, hb d hd⟩
    exact ⟨this.2.2.1, this.2.2.2.1⟩
  have q3 := join_3 ((l.map pop1).map pop2) hb2
  have e4 : ((l.map pop1).map pop2).map pop3 = l.map (popA 8) := by
    rw [List.map_map, List.map_map]
    refine List.map_congr_left (fun c hc => ?_)
    exact (pop_byte ⟨c, hb c hc⟩).2.2.2.2
  rw [e4] at q3
  rw [List.length_map] at q2
  rw [List.length_map, List.length_map] at q3
  rw [hlen] at q1 q2 q3
  have p8 : (256 : Nat) ^ 8 = 18446744073709551616 := by decide
  have l1 := join_lt _ hb1
  rw [List.length_map, hlen, p8] at l1
  have l2 := join_lt ((l.map pop1).map pop2) (fun b hm => by have := hb2 b hm; omega)
  rw [List.length_map, List.length_map, hlen, p8] at l2
  have l2' := join_le 68 ((l.map pop1).map pop2) (fun b hm => by have := hb2 b hm; omega)
  rw [List.length_map, List.length_map, hlen, p8] at l2'
  rw [show joinB (List.replicate 8 85) = 6148914691236517205 from rfl, ← e] at q1
  rw [show joinB (List.replicate 8 51) = 3689348814741910323 from rfl] at q2
  rw [show joinB (List.replicate 8 15) = 1085102592571150095 from rfl] at q3
  generalize joinB (l.map pop1) = y1 at *
  generalize joinB ((l.map pop1).map pop2) = y2 at *
  have hz : joinB (l.map (popA 8)) = popA 8 b0 + 256 * (popA 8 b1 + 256 * (popA 8 b2 + 256 * (popA 8 b3 + 256 * (popA 8 b4 + 256 * (popA 8 b5 + 256 * (popA 8 b6 + 256 * popA 8 b7)))))) := by rw [← hl]; simp only [List.map, joinB, Nat.mul_zero, Nat.add_zero]
  have hp : popA 64 x = popA 8 b0 + (popA 8 b1 + (popA 8 b2 + (popA 8 b3 + (popA 8 b4 + (popA 8 b5 + (popA 8 b6 + popA 8 b7)))))) := by
    rw [e, ← hl]
    simp only [joinB, Nat.mul_zero, Nat.add_zero]
    rw [show (64 : Nat) = 8 + 56 from rfl, show (256 : Nat) = 2 ^ 8 from rfl, popA_add _ _ _ _ h0, show (56 : Nat) = 8 + 48 from rfl, popA_add _ _ _ _ h1, show (48 : Nat) = 8 + 40 from rfl, popA_add _ _ _ _ h2, show (40 : Nat) = 8 + 32 from rfl, popA_add _ _ _ _ h3, show (32 : Nat) = 8 + 24 from rfl, popA_add _ _ _ _ h4, show (24 : Nat) = 8 + 16 from rfl, popA_add _ _ _ _ h5, show (16 : Nat) = 8 + 8 from rfl, popA_add _ _ _ _ h6]
  have g0 := popA_le 8 b0
  have g1 := popA_le 8 b1
  have g2 := popA_le 8 b2
  have g3 := popA_le 8 b3
  have g4 := popA_le 8 b4
  have g5 := popA_le 8 b5
  have g6 := popA_le 8 b6
  have g7 := popA_le 8 b7
  generalize joinB (l.map (popA 8)) = z at *
  have d2 : (x : Int) / 2 = ((x / 2 : Nat) : Int) := by omega
  have d4 : (y1 : Int) / 4 = ((y1 / 4 : Nat) : Int) := by omega
  have d16 : (y2 : Int) / 16 = ((y2 / 16 : Nat) : Int) := by omega
  have i1 : IntKind.u64.wrap (Go.bits .and .u64 ((x : Int) / 2) 6148914691236517205 + Go.bits .and .u64 (x : Int) 6148914691236517205) = (y1 : Int) := by
    have k1 : Go.bits .and .u64 ((x / 2 : Nat) : Int) 6148914691236517205 = ((x / 2 &&& 6148914691236517205 : Nat) : Int) := u64_and_nat (x / 2) 6148914691236517205 (by omega) (by omega)
    have k2 : Go.bits .and .u64 (x : Int) 6148914691236517205 = ((x &&& 6148914691236517205 : Nat) : Int) := u64_and_nat x 6148914691236517205 hx (by omega)
    rw [d2, k1, k2, u64_sum _ _ (by rw [q1]; exact l1), q1]
  have i2 : IntKind.u64.wrap (Go.bits .and .u64 ((y1 : Int) / 4) 3689348814741910323 + Go.bits .and .u64 (y1 : Int) 3689348814741910323) = (y2 : Int) := by
    have k1 : Go.bits .and .u64 ((y1 / 4 : Nat) : Int) 3689348814741910323 = ((y1 / 4 &&& 3689348814741910323 : Nat) : Int) := u64_and_nat (y1 / 4) 3689348814741910323 (by omega) (by omega)
    have k2 : Go.bits .and .u64 (y1 : Int) 3689348814741910323 = ((y1 &&& 3689348814741910323 : Nat) : Int) := u64_and_nat y1 3689348814741910323 l1 (by omega)
    rw [d4, k1, k2, u64_sum _ _ (by rw [q2]; exact l2), q2]
  have l3 : y2 / 16 + y2 < 18446744073709551616 := by omega
  have i3 : Go.bits .and .u64 (IntKind.u64.wrap ((y2 : Int) / 16 + (y2 : Int))) 1085102592571150095 = (z : Int) := by
    have k1 : Go.bits .and .u64 ((y2 / 16 + y2 : Nat) : Int) 1085102592571150095 = ((y2 / 16 + y2 &&& 1085102592571150095 : Nat) : Int) := u64_and_nat (y2 / 16 + y2) 1085102592571150095 l3 (by omega)
    rw [d16, u64_sum _ _ l3, k1, q3]
  unfold bits_OnesCount64.f
  rw [i1, i2, i3]
  have i4 : IntKind.u64.wrap ((z : Int) + (z : Int) / 256) = ((z + z / 256 : Nat) : Int) := by
    rw [show (z : Int) / 256 = ((z / 256 : Nat) : Int) by omega]; exact u64_sum _ _ (by omega)
  rw [i4]
  generalize hz1 : z + z / 256 = z1
  have i5 : IntKind.u64.wrap ((z1 : Int) + (z1 : Int) / 65536) = ((z1 + z1 / 65536 : Nat) : Int) := by
    rw [show (z1 : Int) / 65536 = ((z1 / 65536 : Nat) : Int) by omega]; exact u64_sum _ _ (by omega)
  rw [i5]
  generalize hz2 : z1 + z1 / 65536 = z2
  have i6 : IntKind.u64.wrap ((z2 : Int) + (z2 : Int) / 4294967296) = ((z2 + z2 / 4294967296 : Nat) : Int) := by
    rw [show (z2 : Int) / 4294967296 = ((z2 / 4294967296 : Nat) : Int) by omega]; exact u64_sum _ _ (by omega)
  rw [i6]
  generalize hz3 : z2 + z2 / 4294967296 = z3
  have l4 : z3 < 9223372036854775808 := by omega
  have i7 : Go.bits .and .i64 (wrap64 (z3 : Int)) 127 = ((z3 % 128 : Nat) : Int) := by
    rw [wrap64_of (by omega) (by omega)]
    have := bits_mask .i64 63 (by decide) (fun n h0 h1 => by rw [IntKind.wrap_i64]; omega) 7 (by decide) (z3 : Int) (by omega) (by omega)
    rw [show ((2 : Int) ^ 7 - 1) = 127 from rfl] at this
    rw [this]; omega
  rw [i7, hp]
  have hq : z3 % 128 = popA 8 b0 + (popA 8 b1 + (popA 8 b2 + (popA 8 b3 + (popA 8 b4 + (popA 8 b5 + (popA 8 b6 + popA 8 b7)))))) := pop_end _ _ _ _ _ _ _ _ _ _ _ _ g0 g1 g2 g3 g4 g5 g6 g7 hz hz1.symm hz2.symm hz3.symm
  rw [hq]
end Go.Proofs.Ytnkeecogengfhaa.Px
