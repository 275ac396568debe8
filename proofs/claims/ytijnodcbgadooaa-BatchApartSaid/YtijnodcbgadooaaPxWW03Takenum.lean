-- printed by this session's pprint.py (the kit's print, with this session's plugs) out of the translation; Lean checks it
import Derived.Test.YtijnodcbgadooaaPx0
import Derived.Test.YtijnodcbgadooaaPxDigitsNum
import Derived.Test.YtijnodcbgadooaaPxDigitsTakeNum
import Derived.Test.YtijnodcbgadooaaPxDigitsText
import Derived.Test.YtijnodcbgadooaaPxSelvedgeref01TakeNum
import Derived.Test.YtijnodcbgadooaaPxSelvedgeref01Text
import Derived.Test.YtijnodcbgadooaaPxWW00Ev
import Derived.Test.YtijnodcbgadooaaPxWW01Be
namespace Go.Proofs.Ytijnodcbgadooaa.Px
open Go.RowKit Go.Proofs.YtijnodcbgadooaaW.PrintWords Go.Proofs.YtijnodcbgadooaaW.PrintLast Go.Proofs.YtijnodcbgadooaaW.PrintMore
attribute [local go_sem] max2_int min2_int max_two min_two max_three min_three max_four min_four   -- for this text's walks alone
set_option linter.unusedVariables false
set_option linter.unusedSimpArgs false

/-! ### words: w03_takenum.tpl -/

theorem or_byte (v : Nat) (c : UInt8) (hv : v < 72057594037927936) : Go.bits .or .u64 (IntKind.u64.wrap ((v : Int) * 256)) (IntKind.u64.wrap (c.toNat : Int)) = ((v * 256 + c.toNat : Nat) : Int) := by
  have hc := c.toNat_lt
  rw [u64_wrap_of (by omega) (by omega), u64_wrap_of (by omega) (by omega), show (v : Int) * 256 = ((v * 256 : Nat) : Int) by omega, u64_or_nat _ _ (by omega) (by omega)]
  have := Nat.two_pow_add_eq_or_of_lt (i := 8) (b := c.toNat) (by omega) v
  rw [Nat.mul_comm v 256, show (256 : Nat) = 2 ^ 8 from rfl, this]
theorem add_byte (v : Nat) (c : UInt8) (hv : v < 72057594037927936) : IntKind.u64.wrap (IntKind.u64.wrap ((v : Int) * 256) + IntKind.u64.wrap (c.toNat : Int)) = ((v * 256 + c.toNat : Nat) : Int) := by
  have hc := c.toNat_lt
  rw [u64_wrap_of (x := (v : Int) * 256) (by omega) (by omega), u64_wrap_of (x := (c.toNat : Int)) (by omega) (by omega), u64_wrap_of (by omega) (by omega)]
  omega
theorem val_take_succ (t : Bs) (j : Nat) (h : j < t.length) : val (t.take (j + 1)) = val (t.take j) * 256 + (t.getD j 0).toNat := by
  rw [List.take_succ_eq_append_getElem h, val_snoc, List.getD_eq_getElem?_getD, List.getElem?_eq_getElem h]; rfl
theorem val_take_lt (t : Bs) (j : Nat) (h : j < 8) : val (t.take j) < 72057594037927936 := by
  have h1 := val_lt (t.take j)
  have h2 : 256 ^ (t.take j).length ≤ 256 ^ 7 := Nat.pow_le_pow_right (by omega) (by rw [List.length_take]; omega)
  have : (256 : Nat) ^ 7 = 72057594037927936 := by decide
  omega
/-- what a number's taking comes to -/
def takeNumB (s : ByteArray) : Int × ByteArray × Int := (((takeNumL (ofB s)).1 : Int), toB (takeNumL (ofB s)).2.1, (takeNumL (ofB s)).2.2)
theorem takeNumB_toB (l : Bs) : takeNumB (toB l) = (((takeNumL l).1 : Int), toB (takeNumL l).2.1, (takeNumL l).2.2) := by rw [takeNumB, ofB_toB]
theorem bt_toB_succ (c : UInt8) (t : Bs) (j : Nat) : bt (toB (c :: t)) ((j + 1 : Nat) : Int) = ((t.getD j 0).toNat : Int) := by
  rw [bt_ofB, ofB_toB]; rfl
theorem drop_toB (c : UInt8) (t : Bs) (n : Nat) : (toB (c :: t)).extract (n + 1) (toB (c :: t)).size = toB (t.drop n) := by
  apply ofB_inj
  rw [ofB_extract, ofB_toB, ofB_toB, toB_size, List.drop_succ_cons, List.take_of_length_le (by simp)]
theorem takeNum_loop (c : UInt8) (t : Bs) (hc : c.toNat ≤ 8) (hl : c.toNat ≤ t.length) (hs : t.length < 4611686018427387904) (d : Nat) : ∀ j, j + d = c.toNat →
    Ev (fun k => digits_TakeNum.l0 k (toB (c :: t)) (c.toNat : Int) (val (t.take j) : Int) ((j + 1 : Nat) : Int)) ((val (t.take c.toNat) : Int), toB (t.drop c.toNat), 0) := by
  induction d with
  | zero =>
    intro j hj
    refine Ev.step (fun k => by rw [digits_TakeNum.l0]) ?_
    rw [wrap64_of (x := (c.toNat : Int) + 1) (by omega) (by omega)]
    refine ev_neg (by omega) (ev_pos (by omega) (ev_pos (by rw [toB_size, List.length_cons]; omega) ?_))
    rw [show ((c.toNat : Int) + 1).toNat = c.toNat + 1 by omega, drop_toB]
    obtain rfl : j = c.toNat := by omega
    exact Ev.now _
  | succ d ih =>
    intro j hj
    refine Ev.step (fun k => by rw [digits_TakeNum.l0]) ?_
    refine ev_pos (by omega) (ev_pos (by omega) (ev_pos (by rw [toB_size, List.length_cons]; omega) ?_))
    rw [bt_toB_succ, or_byte _ _ (val_take_lt t j (by omega)), ← val_take_succ t j (by omega), wrap64_of (by omega) (by omega)]
    exact ih (j + 1) (by omega)
theorem takeNum_ev (s : ByteArray) (hs : s.size < 4611686018427387904) : Ev (fun k => digits_TakeNum.f k s) (takeNumB s) := by
  obtain ⟨l, rfl⟩ : ∃ l, s = toB l := ⟨_, (toB_ofB s).symm⟩
  rw [toB_size] at hs
  rw [takeNumB_toB]
  rcases l with _ | ⟨c, t⟩
  · exact ev_pos (by rw [toList_ofB, ofB_toB]) (Ev.now _)
  · have hc := c.toNat_lt
    rw [List.length_cons] at hs
    have e0 : bt (toB (c :: t)) 0 = (c.toNat : Int) := by rw [show (0 : Int) = ((0 : Nat) : Int) from rfl, bt_ofB, ofB_toB]; rfl
    have e1 : bt (toB (c :: t)) 1 = ((t.getD 0 0).toNat : Int) := bt_toB_succ c t 0
    refine ev_neg (by rw [toList_ofB, ofB_toB]; simp) (ev_pos (by rw [toB_size, List.length_cons]; omega) ?_)
    rw [e0, e1, wrap64_of (by omega) (by omega), toB_size, List.length_cons]
    have hj : c.toNat ≤ 8 → c.toNat ≤ t.length → Ev (fun k => digits_TakeNum.j0 k (toB (c :: t)) (c.toNat : Int)) ((val (t.take c.toNat) : Int), toB (t.drop c.toNat), 0) := fun h8 hl => by
      refine Ev.step (fun k => by rw [digits_TakeNum.j0]) ?_
      exact takeNum_loop c t h8 hl (by omega) c.toNat 0 (by omega)
    by_cases h8 : 8 < c.toNat
    · refine ev_pos (by omega) ?_
      simp only [takeNumL, if_pos h8]
      exact Ev.now _
    refine ev_neg (by omega) ?_
    by_cases hl : t.length < c.toNat
    · refine ev_pos (by omega) ?_
      simp only [takeNumL, if_neg h8, if_pos hl]
      exact Ev.now _
    refine ev_neg (by omega) ?_
    by_cases h0 : 0 < c.toNat
    · refine ev_pos (by omega) (ev_pos (by omega) ?_)
      by_cases hz : t.getD 0 0 = 0
      · refine ev_pos (by rw [hz]; rfl) ?_
        simp only [takeNumL, if_neg h8, if_neg hl, if_pos (And.intro h0 hz)]
        exact Ev.now _
      · refine ev_neg (fun h => hz (UInt8.toNat_inj.1 (by show _ = 0; omega))) ?_
        simp only [takeNumL, if_neg h8, if_neg hl, if_neg (fun h : _ ∧ _ => hz h.2)]
        exact hj (by omega) (by omega)
    · refine ev_neg (by omega) ?_
      simp only [takeNumL, if_neg h8, if_neg hl, if_neg (fun h : _ ∧ _ => h0 h.1)]
      exact hj (by omega) (by omega)

theorem refTakeNum_loop (c : UInt8) (t : Bs) (hc : c.toNat ≤ 8) (hl : c.toNat ≤ t.length) (hs : t.length < 4611686018427387904) (d : Nat) : ∀ j, j + d = c.toNat →
    Ev (fun k => selvedgeref01_TakeNum.l0 k (toB (c :: t)) (c.toNat : Int) (val (t.take j) : Int) ((j + 1 : Nat) : Int)) ((val (t.take c.toNat) : Int), toB (t.drop c.toNat), 0) := by
  induction d with
  | zero =>
    intro j hj
    refine Ev.step (fun k => by rw [selvedgeref01_TakeNum.l0]) ?_
    rw [wrap64_of (x := 1 + (c.toNat : Int)) (by omega) (by omega)]
    refine ev_neg (by omega) (ev_pos (by omega) (ev_pos (by rw [toB_size, List.length_cons]; omega) ?_))
    rw [show (1 + (c.toNat : Int)).toNat = c.toNat + 1 by omega, drop_toB]
    obtain rfl : j = c.toNat := by omega
    exact Ev.now _
  | succ d ih =>
    intro j hj
    refine Ev.step (fun k => by rw [selvedgeref01_TakeNum.l0]) ?_
    refine ev_pos (by omega) (ev_pos (by omega) (ev_pos (by rw [toB_size, List.length_cons]; omega) ?_))
    rw [bt_toB_succ, add_byte _ _ (val_take_lt t j (by omega)), ← val_take_succ t j (by omega), wrap64_of (by omega) (by omega)]
    exact ih (j + 1) (by omega)
theorem refTakeNum_ev (s : ByteArray) (hs : s.size < 4611686018427387904) : Ev (fun k => selvedgeref01_TakeNum.f k s) (takeNumB s) := by
  obtain ⟨l, rfl⟩ : ∃ l, s = toB l := ⟨_, (toB_ofB s).symm⟩
  rw [toB_size] at hs
  rw [takeNumB_toB]
  rcases l with _ | ⟨c, t⟩
  · exact ev_pos (by rw [toB_size]; rfl) (Ev.now _)
  · have hc := c.toNat_lt
    rw [List.length_cons] at hs
    have e0 : bt (toB (c :: t)) 0 = (c.toNat : Int) := by rw [show (0 : Int) = ((0 : Nat) : Int) from rfl, bt_ofB, ofB_toB]; rfl
    have e1 : bt (toB (c :: t)) 1 = ((t.getD 0 0).toNat : Int) := bt_toB_succ c t 0
    have eb : ((c.toNat : Int) < 0) = False := eq_false (by omega)
    refine ev_neg (by rw [toB_size, List.length_cons]; omega) (ev_pos (by rw [toB_size, List.length_cons]; omega) ?_)
    rw [e0, e1, wrap64_of (x := (c.toNat : Int)) (by omega) (by omega), wrap64_of (x := 1 + (c.toNat : Int)) (by omega) (by omega), toB_size, List.length_cons]
    have hj : c.toNat ≤ 8 → c.toNat ≤ t.length → Ev (fun k => selvedgeref01_TakeNum.j0 k (toB (c :: t)) (c.toNat : Int) false) ((val (t.take c.toNat) : Int), toB (t.drop c.toNat), 0) := fun h8 hl => by
      refine Ev.step (fun k => by rw [selvedgeref01_TakeNum.j0]) ?_
      exact ev_neg (by simp) (refTakeNum_loop c t h8 hl (by omega) c.toNat 0 (by omega))
    by_cases h8 : 8 < c.toNat
    · refine ev_pos (by omega) ?_
      simp only [takeNumL, if_pos h8]
      exact Ev.now _
    refine ev_neg (by omega) ?_
    by_cases hl : t.length < c.toNat
    · refine ev_pos (by omega) ?_
      simp only [takeNumL, if_neg h8, if_pos hl]
      exact Ev.now _
    refine ev_neg (by omega) ?_
    by_cases h0 : 0 < c.toNat
    · refine ev_pos (by omega) (ev_pos (by omega) ?_)
      by_cases hz : t.getD 0 0 = 0
      · rw [hz]
        simp only [takeNumL, if_neg h8, if_neg hl, if_pos (And.intro h0 hz)]
        refine Ev.step (fun k => by rw [selvedgeref01_TakeNum.j0]) ?_
        exact ev_pos rfl (Ev.now _)
      · have hz' : (((t.getD 0 0).toNat : Int) == 0) = false := beq_eq_false_iff_ne.2 (fun h => hz (UInt8.toNat_inj.1 (by show _ = 0; omega)))
        rw [hz']
        simp only [takeNumL, if_neg h8, if_neg hl, if_neg (fun h : _ ∧ _ => hz h.2)]
        exact hj (by omega) (by omega)
    · refine ev_neg (by omega) ?_
      simp only [takeNumL, if_neg h8, if_neg hl, if_neg (fun h : _ ∧ _ => h0 h.1)]
      exact hj (by omega) (by omega)

/-! the examples that stand at the head of the statements -/
theorem digits_Num_of (v : Nat) (hv : v < 18446744073709551616) : digits_Num.f (v : Int) = some (numB v) := by
  unfold digits_Num.f
  rw [if_pos (by omega), if_pos (by omega), Int.toNat_natCast]
theorem digits_Text_of (t : ByteArray) (h : t.size ≤ 1152921504606846976) : digits_Text.f t = some (textB t) := by unfold digits_Text.f; rw [if_pos h]
theorem selvedgeref01_Text_of (t : ByteArray) (h : t.size ≤ 1152921504606846976) : selvedgeref01_Text.f t = some (textB t) := by unfold selvedgeref01_Text.f; rw [if_pos h]
theorem be_256 : be 256 = [1, 0] := by
  rw [be_pos (by omega), be_pos (by omega)]
  simp [be_zero]
theorem be_2 : be 2 = [2] := by
  rw [be_pos (by omega)]
  simp [be_zero]


end Go.Proofs.Ytijnodcbgadooaa.Px
