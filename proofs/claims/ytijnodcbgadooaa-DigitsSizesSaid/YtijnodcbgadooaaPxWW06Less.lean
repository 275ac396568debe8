-- printed by this session's pprint.py (the kit's print, with this session's plugs) out of the translation; Lean checks it
import Derived.Test.YtijnodcbgadooaaPx0
import Derived.Test.YtijnodcbgadooaaPxSelvedgeref01Less
import Derived.Test.YtijnodcbgadooaaPxWW00Ev
import Derived.Test.YtijnodcbgadooaaPxWW01Be
namespace Go.Proofs.Ytijnodcbgadooaa.Px
open Go.RowKit Go.Proofs.YtijnodcbgadooaaW.PrintWords Go.Proofs.YtijnodcbgadooaaW.PrintLast Go.Proofs.YtijnodcbgadooaaW.PrintMore
attribute [local go_sem] max2_int min2_int max_two min_two max_three min_three max_four min_four   -- for this text's walks alone
set_option linter.unusedVariables false
set_option linter.unusedSimpArgs false

/-! ### words: w06_less.tpl -/

/-! bytes in order -/
def lessL : Bs → Bs → Bool
  | [], b => !b.isEmpty
  | _ :: _, [] => false
  | x :: xs, y :: ys => if x = y then lessL xs ys else decide (x.toNat < y.toNat)
theorem bt_toB (l : Bs) (j : Nat) : bt (toB l) (j : Int) = ((l.getD j 0).toNat : Int) := by rw [bt_ofB, ofB_toB]
theorem drop_getD (l : Bs) (j : Nat) (h : j < l.length) : l.drop j = l.getD j 0 :: l.drop (j + 1) := by
  rw [List.drop_eq_getElem_cons h, List.getD_eq_getElem?_getD, List.getElem?_eq_getElem h]; rfl
theorem less_loop (a b : Bs) (ha : a.length < 4611686018427387904) (d : Nat) : ∀ j, j + d = a.length →
    Ev (fun k => selvedgeref01_Less.l0 k (toB a) (toB b) (j : Int)) (lessL (a.drop j) (b.drop j)) := by
  induction d with
  | zero =>
    intro j hj
    have e : a.drop j = [] := List.drop_eq_nil_of_le (by omega)
    refine Ev.step (fun k => by rw [selvedgeref01_Less.l0]) ?_
    refine ev_neg (by rw [toB_size]; omega) (Ev.step (fun k => by rw [selvedgeref01_Less.j1]) ?_)
    refine ev_neg (by simp) (ev_eq (Ev.now _) ?_)
    rw [e, lessL, toB_size, toB_size]
    by_cases h : j < b.length
    · rw [drop_getD b j h]; simp; omega
    · rw [List.drop_eq_nil_of_le (by omega)]; simp; omega
  | succ d ih =>
    intro j hj
    have e := drop_getD a j (by omega)
    refine Ev.step (fun k => by rw [selvedgeref01_Less.l0]) ?_
    refine ev_pos (by rw [toB_size]; omega) (Ev.step (fun k => by rw [selvedgeref01_Less.j1]) ?_)
    by_cases h : j < b.length
    · have f := drop_getD b j h
      refine ev_pos (by rw [toB_size]; simp; omega) (ev_pos (by omega) (ev_pos (by rw [toB_size]; omega) (ev_pos (by rw [toB_size]; omega) ?_)))
      rw [bt_toB, bt_toB, wrap64_of (by omega) (by omega), e, f, lessL]
      by_cases hx : a.getD j 0 = b.getD j 0
      · rw [if_pos hx]
        exact ev_pos (by rw [hx]) (ih (j + 1) (by omega))
      · rw [if_neg hx]
        exact ev_neg (fun h => hx (UInt8.toNat_inj.1 (by omega))) (ev_eq (Ev.now _) (by simp))
    · have f : b.drop j = [] := List.drop_eq_nil_of_le (by omega)
      refine ev_neg (by rw [toB_size]; simp; omega) (ev_eq (Ev.now _) ?_)
      rw [e, f, lessL, toB_size, toB_size]
      simp; omega
theorem less_ev (a b : ByteArray) (ha : a.size < 4611686018427387904) : Ev (fun k => selvedgeref01_Less.f k a b) (lessL (ofB a) (ofB b)) := by
  have h := less_loop (ofB a) (ofB b) (by rw [ofB_length]; exact ha) (ofB a).length 0 (by omega)
  rw [toB_ofB, toB_ofB] at h
  exact h
theorem val_cons (c : UInt8) (l : Bs) : val (c :: l) = c.toNat * 256 ^ l.length + val l := by
  suffices k : ∀ (r : Bs) (c : UInt8), val (c :: r.reverse) = c.toNat * 256 ^ r.length + val r.reverse by
    have := k l.reverse c; rwa [List.reverse_reverse, List.length_reverse] at this
  intro r
  induction r with
  | nil => intro c; simp [val]
  | cons x r ih =>
    intro c
    rw [List.reverse_cons, ← List.cons_append, val_snoc, val_snoc, ih, List.length_cons, Nat.pow_succ, Nat.add_mul, Nat.mul_assoc, Nat.add_assoc]
theorem lessL_same : ∀ (a b : Bs), a.length = b.length → lessL a b = decide (val a < val b)
  | [], [], _ => by simp [lessL]
  | x :: a, y :: b, h => by
    have hl : a.length = b.length := by simpa using h
    rw [lessL, val_cons, val_cons, hl]
    have ha := val_lt a
    have hb := val_lt b
    rw [hl] at ha
    by_cases hx : x = y
    · rw [if_pos hx, hx, lessL_same a b hl]
      simp
    · rw [if_neg hx]
      rcases Nat.lt_or_ge x.toNat y.toNat with h1 | h1
      · have := Nat.mul_le_mul_right (256 ^ b.length) (Nat.succ_le_of_lt h1)
        rw [Nat.succ_mul] at this
        simp [h1]; omega
      · have h2 : y.toNat < x.toNat := Nat.lt_of_le_of_ne h1 (fun e => hx (UInt8.toNat_inj.1 e.symm))
        have := Nat.mul_le_mul_right (256 ^ b.length) (Nat.succ_le_of_lt h2)
        rw [Nat.succ_mul] at this
        have e1 : ¬ x.toNat < y.toNat := by omega
        simp [e1]; omega
theorem lessL_num {v w : Nat} (hv : v < 18446744073709551616) (hw : w < 18446744073709551616) : lessL (numL v) (numL w) = decide (v < w) := by
  have h1 := be_len8 hv
  have h2 := be_len8 hw
  have c1 : (UInt8.ofNat (be v).length).toNat = (be v).length := by simp; omega
  have c2 : (UInt8.ofNat (be w).length).toNat = (be w).length := by simp; omega
  rw [numL, numL, lessL]
  by_cases he : (be v).length = (be w).length
  · rw [if_pos (by rw [he]), lessL_same _ _ he, val_be, val_be]
  · rw [if_neg (fun h => he (by have := congrArg UInt8.toNat h; omega)), c1, c2]
    rcases Nat.lt_or_ge (be v).length (be w).length with h | h
    · have a1 := (be_length (be v).length v).1 (Nat.le_refl _)
      have a2 : ¬ w < 256 ^ (be v).length := fun hh => by have := (be_length (be v).length w).2 hh; omega
      simp [h]; omega
    · have h' : (be w).length < (be v).length := by omega
      have a1 := (be_length (be w).length w).1 (Nat.le_refl _)
      have a2 : ¬ v < 256 ^ (be w).length := fun hh => by have := (be_length (be w).length v).2 hh; omega
      have e1 : ¬ (be v).length < (be w).length := by omega
      simp [e1]; omega
theorem numL_inj {v w : Nat} (h : numL v = numL w) : v = w := by
  have := congrArg List.tail h
  rw [numL, numL, List.tail_cons, List.tail_cons] at this
  rw [← val_be v, this, val_be]


end Go.Proofs.Ytijnodcbgadooaa.Px
