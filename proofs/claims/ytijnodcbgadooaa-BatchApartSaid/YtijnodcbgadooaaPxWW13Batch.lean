-- printed by this session's pprint.py (the kit's print, with this session's plugs) out of the translation; Lean checks it
import Derived.Test.YtijnodcbgadooaaPx0
import Derived.Test.YtijnodcbgadooaaPxBatchBytes
import Derived.Test.YtijnodcbgadooaaPxBatchMay
import Derived.Test.YtijnodcbgadooaaPxBatchSame
import Derived.Test.YtijnodcbgadooaaPxDigitsRow
import Derived.Test.YtijnodcbgadooaaPxSelvedgelaw07Shown
import Derived.Test.YtijnodcbgadooaaPxSelvedgeref01Same
import Derived.Test.YtijnodcbgadooaaPxSelvedgeref07Same
import Derived.Test.YtijnodcbgadooaaPxSlicesEqualStringString
import Derived.Test.YtijnodcbgadooaaPxWW00Ev
import Derived.Test.YtijnodcbgadooaaPxWW01Be
import Derived.Test.YtijnodcbgadooaaPxWW03Takenum
import Derived.Test.YtijnodcbgadooaaPxWW09Row
namespace Go.Proofs.Ytijnodcbgadooaa.Px
open Go.RowKit Go.Proofs.YtijnodcbgadooaaW.PrintWords Go.Proofs.YtijnodcbgadooaaW.PrintLast Go.Proofs.YtijnodcbgadooaaW.PrintMore
attribute [local go_sem] max2_int min2_int max_two min_two max_three min_three max_four min_four   -- for this text's walks alone
set_option linter.unusedVariables false
set_option linter.unusedSimpArgs false

/-! ### words: w13_batch.tpl -/

/-! two rows of texts; batches -/
theorem rdOf_at (l : List ByteArray) (j : Nat) (h : j < l.length) : rdOf ByteArray.empty l (j : Int) = l[j] := by
  rw [rdOf, Int.toNat_natCast, List.getD_eq_getElem?_getD, List.getElem?_eq_getElem h]; rfl
theorem toList_eq_iff (a b : ByteArray) : a.toList = b.toList ↔ a = b := by
  rw [toList_ofB, toList_ofB]
  exact ⟨fun h => ofB_inj h, fun h => by rw [h]⟩
theorem beq_toList (a b : ByteArray) : (a.toList == b.toList) = decide (a = b) := by
  rw [Bool.eq_iff_iff]; simp [toList_eq_iff]
theorem equal_loop (a b : List ByteArray) (hl : a.length = b.length) (hb : a.length < 4611686018427387904) (d : Nat) : ∀ j, j + d = a.length →
    Ev (fun k => slices_Equal_string_string.l0 k a b (a.length : Int) (j : Int)) (decide (a.drop j = b.drop j)) := by
  induction d with
  | zero =>
    intro j hj
    refine Ev.step (fun k => by rw [slices_Equal_string_string.l0]) ?_
    refine ev_neg (by omega) (ev_eq (Ev.now _) ?_)
    rw [List.drop_eq_nil_of_le (by omega), List.drop_eq_nil_of_le (by omega)]; rfl
  | succ d ih =>
    intro j hj
    refine Ev.step (fun k => by rw [slices_Equal_string_string.l0]) ?_
    have h1 : j < a.length := by omega
    have h2 : j < b.length := by omega
    refine ev_pos (by omega) (ev_pos (by omega) (ev_pos (by omega) (ev_pos (by omega) ?_)))
    rw [rdOf_at a j h1, rdOf_at b j h2, List.drop_eq_getElem_cons h1, List.drop_eq_getElem_cons h2, wrap64_of (by omega) (by omega)]
    by_cases h : a[j] = b[j]
    · refine ev_pos (by rw [h]) (ev_eq (ih (j + 1) (by omega)) ?_)
      simp only [List.cons.injEq, h, true_and]
    · refine ev_neg (by simpa [toList_eq_iff] using h) (ev_eq (Ev.now _) ?_)
      simp only [List.cons.injEq, h, false_and, decide_false]
theorem equal_ev (a b : List ByteArray) (hb : a.length < 4611686018427387904) : Ev (fun k => slices_Equal_string_string.f k a b) (decide (a = b)) := by
  by_cases hl : a.length = b.length
  · exact ev_pos (by omega) (equal_loop a b hl hb a.length 0 (by omega))
  · refine ev_neg (by omega) (ev_eq (Ev.now _) ?_)
    rw [eq_comm, decide_eq_false_iff_not]
    exact fun h => hl (by rw [h])
theorem refSame_loop (a b : List ByteArray) (hl : a.length = b.length) (hb : a.length < 4611686018427387904) (d : Nat) : ∀ j, j + d = a.length →
    Ev (fun k => selvedgeref01_Same.l0 k a b (j : Int)) (decide (a.drop j = b.drop j)) := by
  induction d with
  | zero =>
    intro j hj
    refine Ev.step (fun k => by rw [selvedgeref01_Same.l0]) ?_
    refine ev_neg (by omega) (ev_eq (Ev.now _) ?_)
    rw [List.drop_eq_nil_of_le (by omega), List.drop_eq_nil_of_le (by omega)]; rfl
  | succ d ih =>
    intro j hj
    refine Ev.step (fun k => by rw [selvedgeref01_Same.l0]) ?_
    have h1 : j < a.length := by omega
    have h2 : j < b.length := by omega
    refine ev_pos (by omega) (ev_pos (by omega) (ev_pos (by omega) ?_))
    rw [rdOf_at a j h1, rdOf_at b j h2, List.drop_eq_getElem_cons h1, List.drop_eq_getElem_cons h2, wrap64_of (by omega) (by omega)]
    by_cases h : a[j] = b[j]
    · refine ev_pos (by rw [h]) (ev_eq (ih (j + 1) (by omega)) ?_)
      simp only [List.cons.injEq, h, true_and]
    · refine ev_neg (by simpa [toList_eq_iff] using h) (ev_eq (Ev.now _) ?_)
      simp only [List.cons.injEq, h, false_and, decide_false]
theorem refSame_ev (a b : List ByteArray) (hb : a.length < 4611686018427387904) : Ev (fun k => selvedgeref01_Same.f k a b) (decide (a = b)) := by
  by_cases hl : a.length = b.length
  · exact ev_pos (by omega) (refSame_loop a b hl hb a.length 0 (by omega))
  · refine ev_neg (by omega) (ev_eq (Ev.now _) ?_)
    rw [eq_comm, decide_eq_false_iff_not]
    exact fun h => hl (by rw [h])
/-- a batch's parts are another one's -/
def batchEq (o q : Int) (l : List ByteArray) (o' q' : Int) (l' : List ByteArray) : Bool := decide (o = o' ∧ q = q' ∧ l = l')
theorem batchSame_ev (o q : Int) (l : List ByteArray) (o' q' : Int) (l' : List ByteArray) (hb : l.length < 4611686018427387904) : Ev (fun k => batch_Same.f k o q l o' q' l') (batchEq o q l o' q' l') := by
  unfold batchEq
  by_cases h1 : o = o'
  · refine ev_pos h1 ?_
    by_cases h2 : q = q'
    · exact ev_pos h2 (Ev.bind (equal_ev l l' hb) (ev_eq (Ev.now _) (by simp [h1, h2])))
    · exact ev_neg h2 (ev_eq (Ev.now _) (by simp [h2]))
  · exact ev_neg h1 (ev_eq (Ev.now _) (by simp [h1]))
theorem refBatchSame_ev (o q : Int) (l : List ByteArray) (o' q' : Int) (l' : List ByteArray) (hb : l.length < 4611686018427387904) : Ev (fun k => selvedgeref07_Same.f k o q l o' q' l') (batchEq o q l o' q' l') := by
  unfold batchEq
  refine Ev.bind (refSame_ev l l' hb) ?_
  by_cases h3 : l = l'
  · refine ev_pos (by simp [h3]) ?_
    by_cases h1 : o = o'
    · exact ev_pos h1 (ev_eq (Ev.now _) (by simp [h1, h3, Bool.beq_eq_decide_eq]))
    · exact ev_neg h1 (ev_eq (Ev.now _) (by simp [h1]))
  · exact ev_neg (by simp [h3]) (ev_eq (Ev.now _) (by simp [h3]))
theorem rowOf_le (l : List ByteArray) (m : Nat) (hm : m < 18446744073709551616) (h : ∀ t ∈ l, t.size ≤ m) : (rowOf l).length ≤ l.length * (m + 9) := by
  induction l with
  | nil => simp [rowOf]
  | cons t l ih =>
    have e : rowOf (t :: l) = textL (ofB t) ++ rowOf l := rfl
    have h1 := h t List.mem_cons_self
    have h2 := ih (fun x hx => h x (List.mem_cons_of_mem _ hx))
    have h3 := numL_length (v := (ofB t).length) (by rw [ofB_length]; omega)
    rw [e, List.length_append, textL, List.length_append, ofB_length, List.length_cons, Nat.succ_mul]
    rw [ofB_length] at h3
    omega
theorem mayB_iff (o q : Int) (l : List ByteArray) : mayB o q l = true ↔ 1 ≤ o ∧ o ≤ 64 ∧ 1 ≤ q ∧ q ≤ 1073741824 ∧ 1 ≤ l.length ∧ l.length ≤ 4 ∧ ∀ t ∈ l, 1 ≤ t.size ∧ t.size ≤ 48 := by
  unfold mayB
  simp only [Bool.and_eq_true, decide_eq_true_eq, Bool.not_eq_true', List.any_eq_false]
  constructor
  · rintro ⟨⟨⟨⟨⟨⟨h1, h2⟩, h3⟩, h4⟩, h5⟩, h6⟩, h7⟩
    refine ⟨h1, h2, h3, h4, h5, h6, fun t ht => ?_⟩
    have h8 := h7 t ht
    simp only [oddTx, Bool.or_eq_true, decide_eq_true_eq, not_or] at h8
    omega
  · rintro ⟨h1, h2, h3, h4, h5, h6, h7⟩
    refine ⟨⟨⟨⟨⟨⟨h1, h2⟩, h3⟩, h4⟩, h5⟩, h6⟩, fun t ht => ?_⟩
    have h8 := h7 t ht
    simp only [oddTx, Bool.or_eq_true, decide_eq_true_eq, not_or]
    omega
/-- a batch's bytes -/
def batchL (o q : Int) (l : List ByteArray) : Bs := numL o.toNat ++ numL q.toNat ++ rowL l
theorem batch_Bytes_of (o q : Int) (l : List ByteArray) : batch_Bytes.f o q l = some (if mayB o q l = true then (toB (batchL o q l), 0) else ((⟨#[]⟩ : ByteArray), 1)) := by
  unfold batch_Bytes.f batch_May.f
  rw [Option.bind_some]
  by_cases h : mayB o q l = true
  · rw [if_pos h, if_pos h]
    obtain ⟨h1, h2, h3, h4, h5, h6, h7⟩ := (mayB_iff o q l).1 h
    obtain ⟨a, rfl⟩ := Int.eq_ofNat_of_zero_le (show 0 ≤ o by omega)
    obtain ⟨b, rfl⟩ := Int.eq_ofNat_of_zero_le (show 0 ≤ q by omega)
    have r1 := rowOf_le l 48 (by omega) (fun t ht => (h7 t ht).2)
    have r2 := numL_length (v := l.length) (by omega)
    have r3 : (rowL l).length ≤ 300 := by rw [rowL, List.length_append]; omega
    have n1 := numB_size (v := a) (by omega)
    have n2 := numB_size (v := b) (by omega)
    have r4 : digits_Row.f l = some (toB (rowL l)) := by unfold digits_Row.f; rw [if_pos (by omega)]
    rw [u64_wrap_of (by omega) (by omega), u64_wrap_of (by omega) (by omega), digits_Num_of a (by omega), digits_Num_of b (by omega)]
    simp only [Option.bind_some]
    rw [if_pos (by omega), r4]
    simp only [Option.bind_some]
    rw [if_pos (by rw [ByteArray.size_append, toB_size]; omega), batchL, toB_append, toB_append, Int.toNat_natCast, Int.toNat_natCast]
    rfl
  · rw [if_neg h, if_neg h]
/-! what was written is taken -/
theorem numL_cancel {v w : Nat} (hv : v < 18446744073709551616) (hw : w < 18446744073709551616) {r t : Bs} (h : numL v ++ r = numL w ++ t) : v = w ∧ r = t := by
  have h1 := takeNumL_num hv r
  rw [h, takeNumL_num hw t] at h1
  simp only [Prod.mk.injEq, and_true] at h1
  exact ⟨h1.1.symm, h1.2.symm⟩
theorem textL_cancel {a b : ByteArray} (ha : a.size < 18446744073709551616) (hb : b.size < 18446744073709551616) {r t : Bs} (h : textL (ofB a) ++ r = textL (ofB b) ++ t) : a = b ∧ r = t := by
  rw [textL, textL, List.append_assoc, List.append_assoc, ofB_length, ofB_length] at h
  obtain ⟨h1, h2⟩ := numL_cancel ha hb h
  have h3 := List.append_inj h2 (by rw [ofB_length, ofB_length, h1])
  exact ⟨ofB_inj h3.1, h3.2⟩
theorem rowOf_cancel : ∀ {a b : List ByteArray}, a.length = b.length → (∀ t ∈ a, t.size < 18446744073709551616) → (∀ t ∈ b, t.size < 18446744073709551616) → ∀ {r t : Bs}, rowOf a ++ r = rowOf b ++ t → a = b ∧ r = t
  | [], [], _, _, _, _, _, h => ⟨rfl, h⟩
  | x :: a, y :: b, hl, ha, hb, r, t, h => by
    have e1 : rowOf (x :: a) = textL (ofB x) ++ rowOf a := rfl
    have e2 : rowOf (y :: b) = textL (ofB y) ++ rowOf b := rfl
    rw [e1, e2, List.append_assoc, List.append_assoc] at h
    obtain ⟨h1, h2⟩ := textL_cancel (ha x List.mem_cons_self) (hb y List.mem_cons_self) h
    obtain ⟨h3, h4⟩ := rowOf_cancel (by simpa using hl) (fun z hz => ha z (List.mem_cons_of_mem _ hz)) (fun z hz => hb z (List.mem_cons_of_mem _ hz)) h2
    exact ⟨by rw [h1, h3], h4⟩
theorem rowL_cancel {a b : List ByteArray} (hla : a.length < 18446744073709551616) (hlb : b.length < 18446744073709551616) (ha : ∀ t ∈ a, t.size < 18446744073709551616) (hb : ∀ t ∈ b, t.size < 18446744073709551616) {r t : Bs} (h : rowL a ++ r = rowL b ++ t) : a = b ∧ r = t := by
  rw [rowL, rowL, List.append_assoc, List.append_assoc] at h
  obtain ⟨h1, h2⟩ := numL_cancel hla hlb h
  exact rowOf_cancel h1 ha hb h2
theorem batchL_cancel {o q : Int} {l : List ByteArray} {o' q' : Int} {l' : List ByteArray} (h : mayB o q l = true) (h' : mayB o' q' l' = true) {r t : Bs} (e : batchL o q l ++ r = batchL o' q' l' ++ t) : o = o' ∧ q = q' ∧ l = l' ∧ r = t := by
  obtain ⟨h1, h2, h3, h4, h5, h6, h7⟩ := (mayB_iff o q l).1 h
  obtain ⟨k1, k2, k3, k4, k5, k6, k7⟩ := (mayB_iff o' q' l').1 h'
  rw [batchL, batchL] at e
  simp only [List.append_assoc] at e
  obtain ⟨e1, e⟩ := numL_cancel (by omega) (by omega) e
  obtain ⟨e2, e⟩ := numL_cancel (by omega) (by omega) e
  obtain ⟨e3, e⟩ := rowL_cancel (by omega) (by omega) (fun t ht => by have := h7 t ht; omega) (fun t ht => by have := k7 t ht; omega) e
  exact ⟨by omega, by omega, e3, e⟩
theorem be_1 : be 1 = [1] := by
  rw [be_pos (by omega)]
  simp [be_zero]
theorem shown07_of : selvedgelaw07_shown.f = some true := by
  unfold selvedgelaw07_shown.f
  rw [batch_Bytes_of, if_pos (by rw [mayB_iff]; simp; decide)]
  simp only [Option.bind_some]
  rw [if_pos]
  · rfl
  · have e2 : textL (ofB (⟨#[97, 98]⟩ : ByteArray)) = [1, 2, 97, 98] := by
      show numL 2 ++ [97, 98] = _
      rw [numL, be_2]; rfl
    rw [toList_ofB, ofB_toB, batchL, rowL, rowOf, List.flatMap_cons, List.flatMap_nil, e2]
    show numL 1 ++ numL 2 ++ (numL 1 ++ _) = _
    rw [numL, numL, be_1, be_2]
    rfl


end Go.Proofs.Ytijnodcbgadooaa.Px
