/- part 9 of the proof of the law PostWrites: texts merged by this session's bundle.py. What is proved: the statement at the end of the last of these texts; its conditions are those of the given row. -/
import Derived.Test.YtnkeecogengfhaaZPostWritesD
import Derived.Test.YtnkeecogengfhaaZPostWritesE
import Derived.Test.YtnkeecogengfhaaZPostWritesH
namespace Go.Proofs.Ytnkeecogengfhaa.Px
open Go.RowKit Go.Proofs.YtnkeecogengfhaaW.PrintWords Go.Proofs.YtnkeecogengfhaaW.PrintLast Go.Proofs.YtnkeecogengfhaaW.PrintMore
attribute [local go_sem] max2_int min2_int max_two min_two max_three min_three max_four min_four
set_option linter.unusedVariables false
set_option linter.unusedSimpArgs false
def lessL : Bs → Bs → Bool
  | [], b => !b.isEmpty
  | _ :: _, [] => false
  | x :: xs, y :: ys => if x = y then lessL xs ys else decide (x.toNat < y.toNat)
theorem bt_toB (l : Bs) (j : Nat) : bt (toB l) (j : Int) = ((l.getD j 0).toNat : Int) := by rw [bt_ofB, ofB_toB]
theorem drop_getD (l : Bs) (j : Nat) (h : j < l.length) : l.drop j = l.getD j 0 :: l.drop (j + 1) := by
  rw [List.drop_eq_getElem_cons h, List.getD_eq_getElem?_getD, List.getElem?_eq_getElem h]; rfl
theorem less_loop (a b : Bs) (ha : a.length < 4611686018427387904) (d : Nat) : ∀ j, j + d = a.length →
    Ev (fun k => selvedgeref01_Less.l0 k (toB a) (toB b) (j : Int)) (lessL (a.drop j) (b.drop j)) := by
  induction d with
  | zero =>
    intro j hj
    have e : a.drop j = [] := List.drop_eq_nil_of_le (by omega)
    refine Ev.step (fun k => by rw [selvedgeref01_Less.l0]) ?_
    refine ev_neg (by rw [toB_size]; omega) (Ev.step (fun k => by rw [selvedgeref01_Less.j1]) ?_)
    refine ev_neg (by simp) (ev_eq (Ev.now _) ?_)
    rw [e, lessL, toB_size, toB_size]
    by_cases h : j < b.length
    · rw [drop_getD b j h]; simp; omega
    · rw [List.drop_eq_nil_of_le (by omega)]; simp; omega
  | succ d ih =>
    intro j hj
    have e := drop_getD a j (by omega)
    refine Ev.step (fun k => by rw [selvedgeref01_Less.l0]) ?_
    refine ev_pos (by rw [toB_size]; omega) (Ev.step (fun k => by rw [selvedgeref01_Less.j1]) ?_)
    by_cases h : j < b.length
    · have f := drop_getD b j h
      refine ev_pos (by rw [toB_size]; simp; omega) (ev_pos (by omega) (ev_pos (by rw [toB_size]; omega) (ev_pos (by rw [toB_size]; omega) ?_)))
      rw [bt_toB, bt_toB, wrap64_of (by omega) (by omega), e, f, lessL]
      by_cases hx : a.getD j 0 = b.getD j 0
      · rw [if_pos hx]
        exact ev_pos (by rw [hx]) (ih (j + 1) (by omega))
      · rw [if_neg hx]
        exact ev_neg (fun h => hx (UInt8.toNat_inj.1 (by omega))) (ev_eq (Ev.now _) (by simp))
    · have f : b.drop j = [] := List.drop_eq_nil_of_le (by omega)
      refine ev_neg (by rw [toB_size]; simp; omega) (ev_eq (Ev.now _) ?_)
      rw [e, f, lessL, toB_size, toB_size]
      simp; omega
theorem less_ev (a b : ByteArray) (ha : a.size < 4611686018427387904) : Ev (fun k => selvedgeref01_Less.f k a b) (lessL (ofB a) (ofB b)) := by
  have h := less_loop (ofB a) (ofB b) (by rw [ofB_length]; exact ha) (ofB a).length 0 (by omega)
  rw [toB_ofB, toB_ofB] at h
  exact h
end Go.Proofs.Ytnkeecogengfhaa.Px

namespace Go.Proofs.Ytnkeecogengfhaa.Px
open Go.RowKit Go.Proofs.YtnkeecogengfhaaW.PrintWords Go.Proofs.YtnkeecogengfhaaW.PrintLast Go.Proofs.YtnkeecogengfhaaW.PrintMore
attribute [local go_sem] max2_int min2_int max_two min_two max_three min_three max_four min_four
set_option linter.unusedVariables false
set_option linter.unusedSimpArgs false
theorem bytesLess_lessL : ∀ a b : Bs, Op.bytesLess a b = lessL a b
  | [], [] => rfl
  | [], _ :: _ => rfl
  | _ :: _, [] => rfl
  | x :: xs, y :: ys => by
    rw [Op.bytesLess, lessL, bytesLess_lessL xs ys]
    by_cases h : x = y
    · subst h; simp
    · rw [if_neg h]
      have hn : x.toNat ≠ y.toNat := fun e => h (UInt8.toNat_inj.1 e)
      by_cases h1 : x < y
      · have := UInt8.lt_iff_toNat_lt.1 h1
        simp [h1, this]
      · have h2 : ¬ x.toNat < y.toNat := fun e => h1 (UInt8.lt_iff_toNat_lt.2 e)
        have h3 : y < x := UInt8.lt_iff_toNat_lt.2 (by omega)
        simp [h1, h2]
        exact fun e => absurd e h
def mayN (n : Int) : Bool := decide (4 ≤ n) && decide (n ≤ 64) && decide (n % 3 = 1)
theorem seats_May_of (n : Int) : seats_May.f n = some (mayN n) := by
  unfold seats_May.f mayN
  by_cases h : n ≥ 4
  · rw [if_pos h]
    by_cases h1 : n ≤ 64
    · rw [if_pos h1, Int.tmod_eq_emod_of_nonneg (by omega)]
      by_cases h2 : n % 3 = 1
      · simp [h1, h2]; omega
      · simp [h2]
    · rw [if_neg h1]; simp [h1]
  · rw [if_neg h]
    have : ¬ 4 ≤ n := by omega
    simp [this]
theorem mayN_iff (n : Int) : mayN n = true ↔ 4 ≤ n ∧ n ≤ 64 ∧ n % 3 = 1 := by
  unfold mayN; simp [and_assoc]
def quorumN (n : Int) : Int := if mayN n = true then n - (n - 1) / 3 else 0
theorem seats_Quorum_of (n : Int) : seats_Quorum.f n = some (quorumN n) := by
  unfold seats_Quorum.f seats_Faults.f quorumN
  rw [seats_May_of]
  simp only [Option.bind_some]
  by_cases h : mayN n = true
  · rw [if_pos h, if_pos h, if_pos h]
    obtain ⟨h1, h2, h3⟩ := (mayN_iff n).1 h
    simp only [Option.bind_some]
    rw [wrap64_of (x := n - 1) (by omega) (by omega), Int.tdiv_eq_ediv_of_nonneg (by omega), wrap64_of (x := (n - 1) / 3) (by omega) (by omega), wrap64_of (by omega) (by omega)]
  · rw [if_neg h, if_neg h]
def mayE (a b : Int) : Bool := decide (0 ≤ a) && decide (a < 10007) && decide (0 ≤ b) && decide (b < 10007)
theorem mayE_iff (a b : Int) : mayE a b = true ↔ 0 ≤ a ∧ a < 10007 ∧ 0 ≤ b ∧ b < 10007 := by
  unfold mayE; simp [and_assoc]
theorem gauss_May_of (a b : Int) : gauss_May.f a b = some (mayE a b) := by
  unfold gauss_May.f mayE
  by_cases h1 : 0 ≤ a <;> by_cases h2 : a < 10007 <;> by_cases h3 : 0 ≤ b <;> simp [h1, h2, h3]
def thirdR (r : Int) : Bool := decide (3 ≤ r) && decide (r % 3 = 0)
theorem vertex_Third_of (r : Int) : vertex_Third.f r = some (thirdR r) := by
  unfold vertex_Third.f thirdR
  by_cases h : r ≥ 3
  · rw [if_pos h, Int.tmod_eq_emod_of_nonneg (by omega)]
    have : 3 ≤ r := h
    by_cases h2 : r % 3 = 0 <;> simp [this, h2]
  · rw [if_neg h]
    have : ¬ 3 ≤ r := by omega
    simp [this]
def upAt (l : List ByteArray) (j : Nat) : Bool := decide ((l.getD j ByteArray.empty).size = 32) && (decide (j = 0) || lessL (ofB (l.getD (j - 1) ByteArray.empty)) (ofB (l.getD j ByteArray.empty)))
def upFrom (l : List ByteArray) : Nat → Nat → Bool
  | 0, _ => true
  | d + 1, j => upAt l j && upFrom l d (j + 1)
def parentsB (l : List ByteArray) (r n : Int) : Bool :=
  if r = 1 then decide (l.length = 0) else upFrom l l.length 0 && decide (quorumN n ≤ l.length) && decide ((l.length : Int) ≤ n)
theorem parents_loop (l : List ByteArray) (n : Int) (hl : l.length ≤ 9223372036854775807) (d : Nat) : ∀ j, j + d = l.length →
    Ev (fun k => vertex_parents.l0 k l n l (l.length : Int) (j : Int)) (upFrom l d j && decide (quorumN n ≤ l.length) && decide ((l.length : Int) ≤ n)) := by
  induction d with
  | zero =>
    intro j hj
    refine Ev.step (fun k => by rw [vertex_parents.l0]) ?_
    refine ev_neg (by omega) (ev_bind_const (seats_Quorum_of n) ?_)
    by_cases h : quorumN n ≤ l.length
    · exact ev_pos h (ev_eq (Ev.now _) (by simp [upFrom, h]))
    · exact ev_neg h (ev_eq (Ev.now _) (by simp [upFrom, h]))
  | succ d ih =>
    intro j hj
    refine Ev.step (fun k => by rw [vertex_parents.l0]) ?_
    refine ev_pos (by omega) (ev_pos (by omega) (ev_pos (by omega) ?_))
    have e1 : rdOf ByteArray.empty l (j : Int) = l.getD j ByteArray.empty := by rw [rdOf, Int.toNat_natCast]
    rw [e1]
    by_cases h : (l.getD j ByteArray.empty).size = 32
    · refine ev_pos (by omega) ?_
      rw [wrap64_of (x := (j : Int) + 1) (by omega) (by omega)]
      by_cases h0 : j = 0
      · subst h0
        refine ev_neg (by omega) (ev_eq (ih 1 (by omega)) ?_)
        simp only [upFrom, upAt, h]; simp
      · refine ev_pos (by omega) ?_
        have e2 : wrap64 ((j : Int) - 1) = ((j - 1 : Nat) : Int) := by rw [wrap64_of (by omega) (by omega)]; omega
        rw [e2]
        refine ev_pos (by omega) (ev_pos (by omega) ?_)
        have e3 : rdOf ByteArray.empty l ((j - 1 : Nat) : Int) = l.getD (j - 1) ByteArray.empty := by rw [rdOf, Int.toNat_natCast]
        rw [e3, toList_ofB, toList_ofB, bytesLess_lessL]
        by_cases h2 : lessL (ofB (l.getD (j - 1) ByteArray.empty)) (ofB (l.getD j ByteArray.empty)) = true
        · refine ev_pos h2 (ev_eq (ih (j + 1) (by omega)) ?_)
          simp only [upFrom, upAt, h, h2]; simp
        · refine ev_neg h2 (ev_eq (Ev.now _) ?_)
          rw [Bool.not_eq_true] at h2
          simp only [upFrom, upAt, h, h0, h2]; simp
    · refine ev_neg (by omega) (ev_eq (Ev.now _) ?_)
      simp only [upFrom, upAt, h]; simp
theorem parents_ev (l : List ByteArray) (r n : Int) (hl : l.length ≤ 9223372036854775807) : Ev (fun k => vertex_parents.f k l r n) (parentsB l r n) := by
  unfold parentsB
  by_cases h : r = 1
  · rw [if_pos h]
    refine ev_pos h (ev_eq (Ev.now _) ?_)
    by_cases h0 : l.length = 0 <;> simp [h0]
  · rw [if_neg h]
    exact ev_neg h (parents_loop l n hl l.length 0 (by omega))
end Go.Proofs.Ytnkeecogengfhaa.Px
