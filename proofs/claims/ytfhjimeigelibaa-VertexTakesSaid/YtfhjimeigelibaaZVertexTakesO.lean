/- part 15 of the proof of the law VertexTakes: texts merged by this session's bundle.py. What is proved: the statement at the end of the last of these texts; its conditions are those of the given row. -/
import Derived.Test.YtfhjimeigelibaaRows
import Derived.WalkKit
import Derived.ProofKit
import Derived.OpenShut
import Derived.ShutString
import Derived.ChangeOld
import Derived.Below
import Derived.SizedLaws
import Derived.Test.YtfhjimeigelibaaZVertexTakesC
import Derived.Test.YtfhjimeigelibaaZVertexTakesD
import Derived.Test.YtfhjimeigelibaaZVertexTakesE
import Derived.Test.YtfhjimeigelibaaZVertexTakesH
import Derived.Test.YtfhjimeigelibaaZVertexTakesI
import Derived.Test.YtfhjimeigelibaaZVertexTakesJ
import Derived.Test.YtfhjimeigelibaaZVertexTakesK
import Derived.Test.YtfhjimeigelibaaZVertexTakesL
import Derived.Test.YtfhjimeigelibaaZVertexTakesM
import Derived.Test.YtfhjimeigelibaaZVertexTakesN
namespace Go.Proofs.Ytfhjimeigelibaa.Px
open Go.RowKit Go.Proofs.YtfhjimeigelibaaW.PrintWords Go.Proofs.YtfhjimeigelibaaW.PrintLast Go.Proofs.YtfhjimeigelibaaW.PrintMore
attribute [local go_sem] max2_int min2_int max_two min_two max_three min_three max_four min_four
set_option linter.unusedVariables false
set_option linter.unusedSimpArgs false
def takeRowB (s : ByteArray) (many most : Int) : List ByteArray × ByteArray × Int := ((takeRowL (ofB s) many most).1, toB (takeRowL (ofB s) many most).2.1, (takeRowL (ofB s) many most).2.2)
theorem digits_TakeRow_of (s : ByteArray) (many most : Int) (h1 : (Lit.int .i64 many).wf = true) (h2 : (Lit.int .i64 most).wf = true) (h3 : s.size < 4611686018427387904) (h4 : s.size ≤ 8796093022207 ∨ many ≤ 8796093022207) : digits_TakeRow.f s many most = some (takeRowB s many most) := by
  unfold digits_TakeRow.f
  rw [if_pos ⟨h1, h2, h3, h4⟩]; rfl
theorem refTakeTexts_ev (most : Int) (hw : (Lit.int .i64 most).wf = true) (n : Nat) (hn : n < 18446744073709551616) (d : Nat) : ∀ (j : Nat) (s : Bs) (acc : List ByteArray), j + d = n → s.length < 4611686018427387904 → (n ≤ 8796093022207 ∧ acc.length ≤ j ∨ acc.length + s.length ≤ 8796093022207) →
    Ev (fun k => selvedgeref01_TakeRow.l0 k most (n : Int) (toB s) acc (j : Int)) ((takeTexts most d s acc).1, toB (takeTexts most d s acc).2.1, (takeTexts most d s acc).2.2) := by
  induction d with
  | zero =>
    intro j s acc hj hs hroom
    refine Ev.step (fun k => by rw [selvedgeref01_TakeRow.l0]) ?_
    exact ev_neg (by omega) (Ev.now _)
  | succ d ih =>
    intro j s acc hj hs hroom
    refine Ev.step (fun k => by rw [selvedgeref01_TakeRow.l0]) ?_
    refine ev_pos (by omega) (Ev.bind (refTakeText_ev (toB s) most (by rw [toB_size]; omega) hw) ?_)
    simp only [takeTextB, ofB_toB]
    by_cases h0 : (takeTextL s most).2.2 = 0
    · have hsh := takeTextL_short h0
      refine ev_pos h0 (ev_pos (by omega) ?_)
      rw [takeTexts, if_pos h0, u64_wrap_of (by omega) (by omega)]
      exact ih (j + 1) _ _ (by omega) (by omega) (by rw [List.length_append, List.length_singleton]; omega)
    · refine ev_neg h0 ?_
      rw [takeTexts, if_neg h0]
      exact Ev.now _
theorem refTakeRow_ev (s : ByteArray) (many most : Int) (h1 : (Lit.int .i64 many).wf = true) (h2 : (Lit.int .i64 most).wf = true) (h3 : s.size < 4611686018427387904) (h4 : s.size ≤ 8796093022207 ∨ many ≤ 8796093022207) : Ev (fun k => selvedgeref01_TakeRow.f k s many most) (takeRowB s many most) := by
  obtain ⟨m0, m1⟩ := i64_wf h1
  have hv := takeNumL_val (ofB s)
  have hl := takeNumL_len (ofB s)
  rw [ofB_length] at hl
  refine Ev.bind (refTakeNum_ev s h3) ?_
  rcases hq : takeNumL (ofB s) with ⟨v, r, e⟩
  rw [hq] at hv hl
  simp only [takeNumB, takeRowB, takeRowL, hq]
  simp only at hv hl
  by_cases he : e = 0
  · subst he
    refine ev_pos rfl ?_
    have hj : ∀ b : Bool, (b = true ↔ (many < 0 ∨ many < (v : Int))) → Ev (fun k => selvedgeref01_TakeRow.j0 k most (v : Int) (toB r) b) ((takeRowIf (v, r, 0) many most).1, toB (takeRowIf (v, r, 0) many most).2.1, (takeRowIf (v, r, 0) many most).2.2) := by
      intro b hb
      refine Ev.step (fun k => by rw [selvedgeref01_TakeRow.j0]) ?_
      rw [takeRowIf, if_pos rfl]
      by_cases h5 : many < 0 ∨ many < (v : Int)
      · rw [if_pos h5]
        exact ev_pos (hb.2 h5) (Ev.now _)
      · rw [if_neg h5]
        exact ev_neg (fun h => h5 (hb.1 h)) (refTakeTexts_ev most h2 v hv v 0 r [] (by omega) (by omega) (by simp only [List.length_nil]; omega))
    by_cases hm : many < 0
    · exact ev_pos hm (hj true (by simp [hm]))
    · refine ev_neg hm ?_
      rw [u64_wrap_of (by omega) (by omega)]
      exact hj _ (by simp; omega)
  · refine ev_neg he ?_
    rw [takeRowIf, if_neg he]
    exact Ev.now _
theorem takeTextL_text {t : ByteArray} {most : Int} (h0 : (t.size : Int) ≤ most) (h1 : t.size < 18446744073709551616) (r : Bs) : takeTextL (textL (ofB t) ++ r) most = (ofB t, r, 0) := by
  rw [takeTextL, textL, List.append_assoc, takeNumL_num (by rw [ofB_length]; exact h1), takeTextIf, if_pos rfl, takeTextOf, if_neg (by rw [ofB_length]; omega)]
  simp only
  rw [if_neg (by rw [List.length_append]; omega), List.take_left, List.drop_left]
theorem takeTextL_ok {s t r : Bs} {most : Int} (h : takeTextL s most = (t, r, 0)) : s = textL t ++ r ∧ (t.length : Int) ≤ most ∧ t.length < 18446744073709551616 := by
  unfold takeTextL takeTextIf at h
  split at h
  · rename_i h0
    rcases hq : takeNumL s with ⟨v, q, e⟩
    rw [hq] at h h0
    simp only at h0 h
    subst h0
    obtain ⟨rfl, hv⟩ := takeNumL_ok hq
    unfold takeTextOf at h
    split at h
    · cases h
    · rename_i h1
      split at h
      · cases h
      · rename_i h2
        simp only [Prod.mk.injEq, and_true] at h
        obtain ⟨rfl, rfl⟩ := h
        have hl : (List.take v q).length = v := by rw [List.length_take]; omega
        refine ⟨?_, by rw [hl]; omega, by rw [hl]; exact hv⟩
        rw [textL, hl, List.append_assoc, List.take_append_drop]
  · rename_i h0
    simp only [Prod.mk.injEq] at h
    exact absurd h.2.2 h0
theorem takeTexts_row (most : Int) : ∀ (l : List ByteArray) (r : Bs) (acc : List ByteArray), (∀ t ∈ l, (t.size : Int) ≤ most ∧ t.size < 18446744073709551616) → takeTexts most l.length (rowOf l ++ r) acc = (acc ++ l, r, 0)
  | [], r, acc, _ => by simp [takeTexts, rowOf]
  | t :: l, r, acc, h => by
    have e : rowOf (t :: l) ++ r = textL (ofB t) ++ (rowOf l ++ r) := by rw [← List.append_assoc]; rfl
    obtain ⟨h1, h2⟩ := h t List.mem_cons_self
    rw [List.length_cons, takeTexts, e, takeTextL_text h1 h2, if_pos rfl, takeTexts_row most l r _ (fun x hx => h x (List.mem_cons_of_mem _ hx)), toB_ofB]
    simp
theorem takeTexts_ok (most : Int) : ∀ (n : Nat) (s : Bs) (acc l : List ByteArray) (r : Bs), takeTexts most n s acc = (l, r, 0) → ∃ l', l = acc ++ l' ∧ l'.length = n ∧ s = rowOf l' ++ r ∧ ∀ t ∈ l', (t.size : Int) ≤ most ∧ t.size < 18446744073709551616
  | 0, s, acc, l, r, h => by
    simp only [takeTexts, Prod.mk.injEq, and_true] at h
    obtain ⟨rfl, rfl⟩ := h
    exact ⟨[], by simp, rfl, by simp [rowOf], by simp⟩
  | n + 1, s, acc, l, r, h => by
    rw [takeTexts] at h
    split at h
    · rename_i h0
      obtain ⟨l', rfl, h2, h3, h4⟩ := takeTexts_ok most n _ _ _ _ h
      rcases hq : takeTextL s most with ⟨t, q, e⟩
      rw [hq] at h0 h3
      simp only at h0 h3
      subst h0
      obtain ⟨h5, h6, h7⟩ := takeTextL_ok hq
      refine ⟨toB t :: l', by simp, by simp [h2], ?_, ?_⟩
      · rw [h5, h3]
        have e : rowOf (toB t :: l') = textL (ofB (toB t)) ++ rowOf l' := rfl
        rw [e, ofB_toB, List.append_assoc]
      · intro x hx
        rcases List.mem_cons.1 hx with rfl | hx
        · rw [toB_size]; exact ⟨h6, h7⟩
        · exact h4 x hx
    · rename_i h0
      simp only [Prod.mk.injEq] at h
      exact absurd h.2.2 h0
theorem takeRowL_row {l : List ByteArray} {many most : Int} (hm : (l.length : Int) ≤ many) (hl : l.length < 18446744073709551616) (h : ∀ t ∈ l, (t.size : Int) ≤ most ∧ t.size < 18446744073709551616) (r : Bs) : takeRowL (rowL l ++ r) many most = (l, r, 0) := by
  rw [takeRowL, rowL, List.append_assoc, takeNumL_num hl, takeRowIf, if_pos rfl, if_neg (by simp only; omega)]
  simp only
  rw [takeTexts_row most l r [] h, List.nil_append]
theorem takeRowL_ok {s r : Bs} {l : List ByteArray} {many most : Int} (h : takeRowL s many most = (l, r, 0)) : s = rowL l ++ r ∧ (l.length : Int) ≤ many ∧ l.length < 18446744073709551616 ∧ ∀ t ∈ l, (t.size : Int) ≤ most ∧ t.size < 18446744073709551616 := by
  unfold takeRowL takeRowIf at h
  split at h
  · rename_i h0
    rcases hq : takeNumL s with ⟨v, q, e⟩
    rw [hq] at h h0
    simp only at h0 h
    subst h0
    obtain ⟨rfl, hv⟩ := takeNumL_ok hq
    split at h
    · cases h
    · rename_i h1
      obtain ⟨l', hl', h2, h3, h4⟩ := takeTexts_ok most v q [] l r h
      rw [List.nil_append] at hl'
      subst hl'
      refine ⟨?_, by omega, by omega, h4⟩
      rw [rowL, h2, h3, List.append_assoc]
  · rename_i h0
    simp only [Prod.mk.injEq] at h
    exact absurd h.2.2 h0
end Go.Proofs.Ytfhjimeigelibaa.Px

namespace Go.Proofs.Ytfhjimeigelibaa.Px
open Go.RowKit Go.Proofs.YtfhjimeigelibaaW.PrintWords Go.Proofs.YtfhjimeigelibaaW.PrintLast Go.Proofs.YtfhjimeigelibaaW.PrintMore
attribute [local go_sem] max2_int min2_int max_two min_two max_three min_three max_four min_four
set_option linter.unusedVariables false
set_option linter.unusedSimpArgs false
def takeBatchIf (o q : Int) (e : Bool) (s : Bs) : Int × Int × List ByteArray × Int :=
  if e = true ∧ o ≤ 64 ∧ q ≤ 1073741824 ∧ (takeRowL s 4 48).2.2 = 0 ∧ (takeRowL s 4 48).2.1 = [] ∧ mayB o q (takeRowL s 4 48).1 = true then (o, q, (takeRowL s 4 48).1, 0) else (0, 0, [], 3)
theorem takeBatchIf_pos {o q : Int} {e : Bool} {s : Bs} (h : e = true ∧ o ≤ 64 ∧ q ≤ 1073741824 ∧ (takeRowL s 4 48).2.2 = 0 ∧ (takeRowL s 4 48).2.1 = [] ∧ mayB o q (takeRowL s 4 48).1 = true) : takeBatchIf o q e s = (o, q, (takeRowL s 4 48).1, 0) := if_pos h
theorem takeBatchIf_neg {o q : Int} {e : Bool} {s : Bs} (h : ¬ (e = true ∧ o ≤ 64 ∧ q ≤ 1073741824 ∧ (takeRowL s 4 48).2.2 = 0 ∧ (takeRowL s 4 48).2.1 = [] ∧ mayB o q (takeRowL s 4 48).1 = true)) : takeBatchIf o q e s = (0, 0, [], 3) := if_neg h
def takeBatchL (s : Bs) : Int × Int × List ByteArray × Int :=
  takeBatchIf (takeNumL s).1 (takeNumL (takeNumL s).2.1).1 (decide ((takeNumL s).2.2 = 0 ∧ (takeNumL (takeNumL s).2.1).2.2 = 0)) (takeNumL (takeNumL s).2.1).2.1
theorem toList_nil (s : ByteArray) : s.toList = ([] : List UInt8) ↔ ofB s = [] := by rw [toList_ofB]
theorem batchTake_j0 (s : Bs) (o q : Nat) (e b : Bool) (hs : s.length < 4611686018427387904) (ho : o < 18446744073709551616) (hq : q < 18446744073709551616) (hb : b = true ↔ ¬ (e = true ∧ (o : Int) ≤ 64 ∧ (q : Int) ≤ 1073741824)) :
    Ev (fun k => batch_Take.j0 k (toB s) (o : Int) (q : Int) b) (takeBatchIf o q e s) := by
  refine Ev.step (fun k => by rw [batch_Take.j0]) ?_
  by_cases h : e = true ∧ (o : Int) ≤ 64 ∧ (q : Int) ≤ 1073741824
  · obtain ⟨h1, h2, h3⟩ := h
    refine ev_neg (fun hh => hb.1 hh ⟨h1, h2, h3⟩) (ev_bind_const (digits_TakeRow_of (toB s) 4 48 (by decide) (by decide) (by rw [toB_size]; exact hs) (.inr (by omega))) ?_)
    simp only [takeRowB, ofB_toB]
    rw [wrap64_of (by omega) (by omega), wrap64_of (by omega) (by omega)]
    by_cases h4 : (takeRowL s 4 48).2.2 = 0
    · refine ev_pos h4 ?_
      by_cases h5 : (takeRowL s 4 48).2.1 = []
      · refine ev_pos (by rw [toList_nil, ofB_toB]; exact h5) (ev_bind_const rfl ?_)
        by_cases h6 : mayB o q (takeRowL s 4 48).1 = true
        · rw [takeBatchIf_pos ⟨h1, h2, h3, h4, h5, h6⟩]
          exact ev_pos h6 (Ev.now _)
        · rw [takeBatchIf_neg (fun hh => h6 hh.2.2.2.2.2)]
          exact ev_neg h6 (Ev.now _)
      · rw [takeBatchIf_neg (fun hh => h5 hh.2.2.2.2.1)]
        exact ev_neg (by rw [toList_nil, ofB_toB]; exact h5) (Ev.now _)
    · rw [takeBatchIf_neg (fun hh => h4 hh.2.2.2.1)]
      exact ev_neg h4 (Ev.now _)
  · rw [takeBatchIf_neg (fun hh => h ⟨hh.1, hh.2.1, hh.2.2.1⟩)]
    exact ev_pos (hb.2 h) (Ev.now _)
theorem batchTake_ev (s : ByteArray) (hs : s.size < 4611686018427387904) : Ev (fun k => batch_Take.f k s) (takeBatchL (ofB s)) := by
  have h1 := takeNumL_len (ofB s)
  have h2 := takeNumL_len (takeNumL (ofB s)).2.1
  have h3 := takeNumL_val (ofB s)
  have h4 := takeNumL_val (takeNumL (ofB s)).2.1
  rw [ofB_length] at h1
  have t2 := takeNum_ev (takeNumB s).2.1 (by simp only [takeNumB, toB_size]; omega)
  refine Ev.bind (takeNum_ev s hs) (Ev.bind t2 ?_)
  simp only [takeNumB, ofB_toB]
  have key := fun b => batchTake_j0 (takeNumL (takeNumL (ofB s)).2.1).2.1 (takeNumL (ofB s)).1 (takeNumL (takeNumL (ofB s)).2.1).1 (decide ((takeNumL (ofB s)).2.2 = 0 ∧ (takeNumL (takeNumL (ofB s)).2.1).2.2 = 0)) b (by omega) h3 h4
  by_cases e1 : (takeNumL (ofB s)).2.2 = 0
  · refine ev_pos e1 ?_
    by_cases e2 : (takeNumL (takeNumL (ofB s)).2.1).2.2 = 0
    · refine ev_pos e2 ?_
      by_cases e3 : ((takeNumL (ofB s)).1 : Int) > 64
      · exact ev_pos e3 (key true (by simp [e1, e2]; omega))
      · exact ev_neg e3 (key _ (by simp [e1, e2]; omega))
    · exact ev_neg e2 (key true (by simp [e2]))
  · exact ev_neg e1 (key true (by simp [e1]))
theorem refMay_loop (o q : Int) (l : List ByteArray) (hl : l.length < 4611686018427387904) (d : Nat) : ∀ j, j + d = l.length →
    Ev (fun k => selvedgeref07_May.l0 k (j : Int) o q l) (!(l.drop j).any oddTx) := by
  induction d with
  | zero =>
    intro j hj
    refine Ev.step (fun k => by rw [selvedgeref07_May.l0]) ?_
    refine ev_neg (by omega) (ev_eq (Ev.now _) ?_)
    rw [List.drop_eq_nil_of_le (by omega)]; rfl
  | succ d ih =>
    intro j hj
    have hjl : j < l.length := by omega
    refine Ev.step (fun k => by rw [selvedgeref07_May.l0]) ?_
    refine ev_pos (by omega) (ev_pos (by omega) ?_)
    rw [rdOf_at l j hjl, List.drop_eq_getElem_cons hjl, wrap64_of (by omega) (by omega), List.any_cons]
    by_cases h1 : (l[j].size : Int) < 1
    · refine ev_pos h1 (ev_eq (Ev.now _) ?_)
      have : l[j].size = 0 := by omega
      simp [oddTx, this]
    · refine ev_neg h1 ?_
      by_cases h2 : (l[j].size : Int) > 48
      · refine ev_pos h2 (ev_eq (Ev.now _) ?_)
        have : 48 < l[j].size := by omega
        simp [oddTx, this]
      · refine ev_neg h2 (ev_eq (ih (j + 1) (by omega)) ?_)
        have e1 : oddTx l[j] = false := by
          have : ¬ l[j].size = 0 := by omega
          have h3 : ¬ 48 < l[j].size := by omega
          simp [oddTx, this, h3]
        rw [e1, Bool.false_or]
theorem refMay_ev (o q : Int) (l : List ByteArray) (hl : l.length < 4611686018427387904) : Ev (fun k => selvedgeref07_May.f k o q l) (mayB o q l) := by
  have key : ∀ b : Bool, (b = true ↔ ¬ (1 ≤ o ∧ o ≤ 64 ∧ 1 ≤ q ∧ q ≤ 1073741824 ∧ 1 ≤ l.length ∧ l.length ≤ 4)) → Ev (fun k => selvedgeref07_May.j0 k b o q l) (mayB o q l) := by
    intro b hb
    refine Ev.step (fun k => by rw [selvedgeref07_May.j0]) ?_
    by_cases h : 1 ≤ o ∧ o ≤ 64 ∧ 1 ≤ q ∧ q ≤ 1073741824 ∧ 1 ≤ l.length ∧ l.length ≤ 4
    · refine ev_neg (fun hh => hb.1 hh h) (ev_eq (refMay_loop o q l hl l.length 0 (by omega)) ?_)
      obtain ⟨h1, h2, h3, h4, h5, h6⟩ := h
      simp [mayB, h1, h2, h3, h4, h5, h6]
    · refine ev_pos (hb.2 h) (ev_eq (Ev.now _) ?_)
      symm
      rw [← Bool.not_eq_true, mayB_iff]
      exact fun ⟨h1, h2, h3, h4, h5, h6, _⟩ => h ⟨h1, h2, h3, h4, h5, h6⟩
  by_cases h1 : o < 1
  · exact ev_pos h1 (key true (by simp; omega))
  refine ev_neg h1 ?_
  by_cases h2 : o > 64
  · exact ev_pos h2 (key true (by simp; omega))
  refine ev_neg h2 ?_
  by_cases h3 : q < 1
  · exact ev_pos h3 (key true (by simp; omega))
  refine ev_neg h3 ?_
  by_cases h4 : q > 1073741824
  · exact ev_pos h4 (key true (by simp; omega))
  refine ev_neg h4 ?_
  by_cases h5 : (l.length : Int) < 1
  · exact ev_pos h5 (key true (by simp; omega))
  exact ev_neg h5 (key _ (by simp; omega))
theorem takeRowL_fail {s : Bs} {many most : Int} (h : ¬ (takeRowL s many most).2.2 = 0) : (takeRowL s many most).1.length < 4611686018427387904 := by
  have key : ∀ (n : Nat) (s : Bs) (acc : List ByteArray), (takeTexts most n s acc).2.2 ≠ 0 → (takeTexts most n s acc).1 = [] := by
    intro n
    induction n with
    | zero => intro s acc hh; exact absurd rfl hh
    | succ n ih =>
      intro s acc hh
      rw [takeTexts] at hh ⊢
      split
      · rename_i h0; rw [if_pos h0] at hh; exact ih _ _ hh
      · rfl
  unfold takeRowL takeRowIf at h ⊢
  split
  · rename_i h0
    rw [if_pos h0] at h
    split
    · simp
    · rename_i h1
      rw [if_neg h1] at h
      rw [key _ _ _ h]; simp
  · simp
theorem takeRowL_len (s : Bs) (many most : Int) (hm : many < 4611686018427387904) : (takeRowL s many most).1.length < 4611686018427387904 := by
  by_cases h : (takeRowL s many most).2.2 = 0
  · rcases hq : takeRowL s many most with ⟨l, r, e⟩
    rw [hq] at h
    simp only at h
    subst h
    obtain ⟨_, h2, _⟩ := takeRowL_ok hq
    simp only; omega
  · exact takeRowL_fail h
theorem refBatchTake_ev (s : ByteArray) (hs : s.size < 4611686018427387904) : Ev (fun k => selvedgeref07_Take.f k s) (takeBatchL (ofB s)) := by
  have h1 := takeNumL_len (ofB s)
  have h2 := takeNumL_len (takeNumL (ofB s)).2.1
  have h3 := takeNumL_val (ofB s)
  have h4 := takeNumL_val (takeNumL (ofB s)).2.1
  rw [ofB_length] at h1
  have t2 := refTakeNum_ev (toB (takeNumL (ofB s)).2.1) (by simp only [toB_size]; omega)
  refine Ev.bind (refTakeNum_ev s hs) ?_
  simp only [takeNumB, ofB_toB] at t2 ⊢
  have key1 : ∀ b : Bool, (b = true ↔ ¬ ((takeNumL (takeNumL (ofB s)).2.1).2.2 = 0 ∧ ((takeNumL (takeNumL (ofB s)).2.1).1 : Int) ≤ 1073741824)) → (takeNumL (ofB s)).2.2 = 0 → ((takeNumL (ofB s)).1 : Int) ≤ 64 →
      Ev (fun k => selvedgeref07_Take.j1 k ((takeNumL (ofB s)).1 : Int) ((takeNumL (takeNumL (ofB s)).2.1).1 : Int) (toB (takeNumL (takeNumL (ofB s)).2.1).2.1) b) (takeBatchL (ofB s)) := by
    intro b hb e1 e0
    refine Ev.step (fun k => by rw [selvedgeref07_Take.j1]) ?_
    rw [takeBatchL]
    by_cases h : (takeNumL (takeNumL (ofB s)).2.1).2.2 = 0 ∧ ((takeNumL (takeNumL (ofB s)).2.1).1 : Int) ≤ 1073741824
    · obtain ⟨h5, h6⟩ := h
      refine ev_neg (fun hh => hb.1 hh ⟨h5, h6⟩) (Ev.bind (refTakeRow_ev (toB (takeNumL (takeNumL (ofB s)).2.1).2.1) 4 48 (by decide) (by decide) (by rw [toB_size]; omega) (.inr (by omega))) ?_)
      simp only [takeRowB, ofB_toB]
      rw [wrap64_of (by omega) (by omega), wrap64_of (by omega) (by omega)]
      refine Ev.bind (refMay_ev _ _ _ (takeRowL_len _ _ _ (by omega))) ?_
      by_cases h7 : (takeRowL (takeNumL (takeNumL (ofB s)).2.1).2.1 4 48).2.2 = 0
      · refine ev_pos h7 ?_
        by_cases h8 : (takeRowL (takeNumL (takeNumL (ofB s)).2.1).2.1 4 48).2.1 = []
        · refine ev_neg (by rw [h8, toB_size]; simp) ?_
          by_cases h9 : mayB (takeNumL (ofB s)).1 (takeNumL (takeNumL (ofB s)).2.1).1 (takeRowL (takeNumL (takeNumL (ofB s)).2.1).2.1 4 48).1 = true
          · rw [takeBatchIf_pos ⟨by simp [e1, h5], e0, h6, h7, h8, h9⟩]
            exact ev_pos h9 (Ev.now _)
          · rw [takeBatchIf_neg (fun hh => h9 hh.2.2.2.2.2)]
            exact ev_neg h9 (Ev.now _)
        · rw [takeBatchIf_neg (fun hh => h8 hh.2.2.2.2.1)]
          refine ev_pos ?_ (Ev.now _)
          rw [toB_size]
          have : (takeRowL (takeNumL (takeNumL (ofB s)).2.1).2.1 4 48).2.1.length ≠ 0 := fun hh => h8 (List.eq_nil_of_length_eq_zero hh)
          omega
      · rw [takeBatchIf_neg (fun hh => h7 hh.2.2.2.1)]
        exact ev_neg h7 (Ev.now _)
    · rw [takeBatchIf_neg (fun hh => h ⟨(of_decide_eq_true hh.1).2, hh.2.2.1⟩)]
      exact ev_pos (hb.2 h) (Ev.now _)
  have key0 : ∀ b : Bool, (b = true ↔ ¬ ((takeNumL (ofB s)).2.2 = 0 ∧ ((takeNumL (ofB s)).1 : Int) ≤ 64)) → Ev (fun k => selvedgeref07_Take.j0 k ((takeNumL (ofB s)).1 : Int) (toB (takeNumL (ofB s)).2.1) b) (takeBatchL (ofB s)) := by
    intro b hb
    refine Ev.step (fun k => by rw [selvedgeref07_Take.j0]) ?_
    by_cases h : (takeNumL (ofB s)).2.2 = 0 ∧ ((takeNumL (ofB s)).1 : Int) ≤ 64
    · obtain ⟨e1, e0⟩ := h
      refine ev_neg (fun hh => hb.1 hh ⟨e1, e0⟩) (Ev.bind t2 ?_)
      by_cases e2 : (takeNumL (takeNumL (ofB s)).2.1).2.2 = 0
      · exact ev_pos e2 (key1 _ (by simp [e2]) e1 e0)
      · exact ev_neg e2 (key1 true (by simp [e2]) e1 e0)
    · rw [takeBatchL, takeBatchIf_neg (fun hh => h ⟨(of_decide_eq_true hh.1).1, hh.2.1⟩)]
      exact ev_pos (hb.2 h) (Ev.now _)
  by_cases e1 : (takeNumL (ofB s)).2.2 = 0
  · exact ev_pos e1 (key0 _ (by simp [e1]))
  · exact ev_neg e1 (key0 true (by simp [e1]))
theorem takeBatchL_len (s : Bs) : (takeBatchL s).2.2.1.length < 4611686018427387904 := by
  unfold takeBatchL takeBatchIf
  split
  · exact takeRowL_len _ _ _ (by omega)
  · simp
theorem takeBatchL_ok {s : Bs} {o q : Int} {l : List ByteArray} (h : takeBatchL s = (o, q, l, 0)) : s = batchL o q l ∧ mayB o q l = true := by
  unfold takeBatchL takeBatchIf at h
  split at h
  · rename_i hc
    obtain ⟨h1, h2, h3, h4, h5, h6⟩ := hc
    obtain ⟨h7, h8⟩ := of_decide_eq_true h1
    simp only [Prod.mk.injEq, and_true] at h
    obtain ⟨rfl, rfl, rfl⟩ := h
    refine ⟨?_, h6⟩
    rcases hq : takeNumL s with ⟨v, r, e⟩
    rw [hq] at h4 h5 h7 h8
    simp only at h4 h5 h7 h8 ⊢
    subst h7
    obtain ⟨rfl, _⟩ := takeNumL_ok hq
    rcases hq2 : takeNumL r with ⟨v2, r2, e2⟩
    rw [hq2] at h4 h5 h8
    simp only at h4 h5 h8 ⊢
    subst h8
    obtain ⟨rfl, _⟩ := takeNumL_ok hq2
    rcases hq3 : takeRowL r2 4 48 with ⟨l, r3, e3⟩
    rw [hq3] at h4 h5
    simp only at h4 h5 ⊢
    subst h4 h5
    obtain ⟨h9, _⟩ := takeRowL_ok hq3
    rw [List.append_nil] at h9
    rw [batchL, ← h9, Int.toNat_natCast, Int.toNat_natCast, List.append_assoc]
  · simp at h
theorem takeBatchL_batch {o q : Int} {l : List ByteArray} (h : mayB o q l = true) : takeBatchL (batchL o q l) = (o, q, l, 0) := by
  obtain ⟨h1, h2, h3, h4, h5, h6, h7⟩ := (mayB_iff o q l).1 h
  obtain ⟨a, rfl⟩ := Int.eq_ofNat_of_zero_le (show 0 ≤ o by omega)
  obtain ⟨b, rfl⟩ := Int.eq_ofNat_of_zero_le (show 0 ≤ q by omega)
  have e1 : takeNumL (batchL a b l) = (a, numL b ++ rowL l, 0) := by
    rw [batchL, Int.toNat_natCast, Int.toNat_natCast, List.append_assoc]
    exact takeNumL_num (by omega) _
  have e2 : takeNumL (numL b ++ rowL l) = (b, rowL l, 0) := takeNumL_num (by omega) _
  have e3 : takeRowL (rowL l) 4 48 = (l, [], 0) := by
    have := takeRowL_row (l := l) (many := 4) (most := 48) (by omega) (by omega) (fun t ht => by have := h7 t ht; omega) []
    rwa [List.append_nil] at this
  rw [takeBatchL, e1]
  simp only
  rw [e2]
  simp only
  rw [takeBatchIf_pos (by rw [e3]; exact ⟨by simp, h2, h4, rfl, rfl, h⟩), e3]
end Go.Proofs.Ytfhjimeigelibaa.Px

namespace Go.Proofs.Ytfhjimeigelibaa.Px
open Go.RowKit Go.Proofs.YtfhjimeigelibaaW.PrintWords Go.Proofs.YtfhjimeigelibaaW.PrintLast Go.Proofs.YtfhjimeigelibaaW.PrintMore
attribute [local go_sem] max2_int min2_int max_two min_two max_three min_three max_four min_four
set_option linter.unusedVariables false
set_option linter.unusedSimpArgs false
abbrev VT := Int × Int × List S24 × List ByteArray × Int × Int × Int
def badV : VT := (0, 0, [], [], 0, 0, 3)
def batchesL : List ByteArray → Option (List S24)
  | [] => some []
  | t :: l => if (takeBatchL (ofB t)).2.2.2 = 0 then (batchesL l).map (fun bs => ⟨(takeBatchL (ofB t)).1, (takeBatchL (ofB t)).2.1, (takeBatchL (ofB t)).2.2.1⟩ :: bs) else none
def endV (a r : Int) (ps : List ByteArray) (x y n : Int) : Option (List S24) → VT
  | none => badV
  | some bs => if mayV a r bs ps x y n = true then (a, r, bs, ps, x, y, 0) else badV
theorem batchesL_ok : ∀ {l : List ByteArray} {bs : List S24}, batchesL l = some bs → l = bs.map bB ∧ ∀ b ∈ bs, mayB b.f0 b.f1 b.f2 = true
  | [], bs, h => by
    have : bs = [] := (Option.some.inj h).symm
    subst this; exact ⟨rfl, fun b hb => absurd hb (by simp)⟩
  | t :: l, bs, h => by
    rw [batchesL] at h
    split at h
    · rename_i h0
      obtain ⟨cs, hc, rfl⟩ := Option.map_eq_some_iff.1 h
      obtain ⟨h1, h2⟩ := batchesL_ok hc
      rcases hq : takeBatchL (ofB t) with ⟨o, q, l', e⟩
      rw [hq] at h0
      simp only at h0
      subst h0
      obtain ⟨h3, h4⟩ := takeBatchL_ok hq
      refine ⟨?_, ?_⟩
      · rw [List.map_cons, ← h1, bB]
        simp only
        rw [if_pos h4, ← h3, toB_ofB]
      · intro b hb
        rcases List.mem_cons.1 hb with rfl | hb
        · exact h4
        · exact h2 b hb
    · cases h
theorem batchesL_map : ∀ {bs : List S24}, (∀ b ∈ bs, mayB b.f0 b.f1 b.f2 = true) → batchesL (bs.map bB) = some bs
  | [], _ => rfl
  | b :: bs, h => by
    have hb := h b List.mem_cons_self
    have e : takeBatchL (ofB (bB b)) = (b.f0, b.f1, b.f2, 0) := by rw [bB, if_pos hb, ofB_toB]; exact takeBatchL_batch hb
    rw [List.map_cons, batchesL, e, if_pos rfl, batchesL_map (fun c hc => h c (List.mem_cons_of_mem _ hc))]
    rfl
theorem takeRowL_rest (s : Bs) (many most : Int) : (takeRowL s many most).2.1.length ≤ s.length := by
  have key : ∀ (n : Nat) (s : Bs) (acc : List ByteArray), (takeTexts most n s acc).2.1.length ≤ s.length := by
    intro n
    induction n with
    | zero => intro s acc; exact Nat.le_refl _
    | succ n ih =>
      intro s acc
      rw [takeTexts]
      split
      · rename_i h0
        have := takeTextL_short h0
        exact Nat.le_trans (ih _ _) (by omega)
      · exact Nat.zero_le _
  have h := takeNumL_len s
  unfold takeRowL takeRowIf
  split
  · split
    · exact Nat.zero_le _
    · exact Nat.le_trans (key _ _ _) h
  · exact Nat.zero_le _
theorem numbersL_rest (s : Bs) : (numbersL s).2.2.1.length ≤ s.length := by
  unfold numbersL
  rcases h : smallL s with _ | ⟨a, s1⟩
  · exact Nat.zero_le _
  · simp only
    have h1 := smallL_len h
    rcases h' : smallL s1 with _ | ⟨b, s2⟩
    · exact Nat.zero_le _
    · have h2 := smallL_len h'
      simp only; omega
def vA (s : Bs) : List ByteArray × Bs × Int := takeRowL (numbersL s).2.2.1 4 65536
def vB (s : Bs) : List ByteArray × Bs × Int := takeRowL (vA s).2.1 64 32
def vC (s : Bs) : Int × Int × Bs × Bool := numbersL (vB s).2.1
def okV (s : Bs) : Prop := (numbersL s).2.2.2 = true ∧ (vA s).2.2 = 0 ∧ (vB s).2.2 = 0 ∧ (vC s).2.2.2 = true ∧ (vC s).2.2.1 = []
instance decOkV (s : Bs) : Decidable (okV s) := by unfold okV; infer_instance
def takeV (s : Bs) (n : Int) : VT := if okV s then endV (numbersL s).1 (numbersL s).2.1 (vB s).1 (vC s).1 (vC s).2.1 n (batchesL (vA s).1) else badV
theorem takeV_pos {s : Bs} {n : Int} (h : okV s) : takeV s n = endV (numbersL s).1 (numbersL s).2.1 (vB s).1 (vC s).1 (vC s).2.1 n (batchesL (vA s).1) := if_pos h
theorem takeV_neg {s : Bs} {n : Int} (h : ¬ okV s) : takeV s n = badV := if_neg h
theorem vA_small {s : Bs} (h : (vA s).2.2 = 0) : (vA s).1.length ≤ 4 ∧ ∀ t ∈ (vA s).1, t.size < 4611686018427387904 := by
  rcases hq : vA s with ⟨l, r, e⟩
  rw [hq] at h
  simp only at h ⊢
  subst h
  obtain ⟨_, h2, _, h4⟩ := takeRowL_ok hq
  exact ⟨by omega, fun t ht => by have := (h4 t ht).1; omega⟩
theorem vertexTake_loop (n : Int) (l : List ByteArray) (a r : Int) (ps : List ByteArray) (x y : Int) (hl : l.length ≤ 4) (hs : ∀ t ∈ l, t.size < 4611686018427387904) (d : Nat) : ∀ (j : Nat) (acc : List S24), j + d = l.length → acc.length = j →
    Ev (fun k => vertex_Take.l0 k n l (l.length : Int) (j : Int) a r acc ps x y) (endV a r ps x y n ((batchesL (l.drop j)).map (acc ++ ·))) := by
  induction d with
  | zero =>
    intro j acc hj ha
    refine Ev.step (fun k => by rw [vertex_Take.l0]) ?_
    rw [List.drop_eq_nil_of_le (by omega)]
    refine ev_neg (by omega) (ev_bind_const (show vertex_May.f a r acc ps x y n = some (mayV a r acc ps x y n) from rfl) ?_)
    show Ev _ (endV a r ps x y n (some (acc ++ [])))
    rw [List.append_nil, endV]
    by_cases h : mayV a r acc ps x y n = true
    · exact ev_eq (ev_pos h (Ev.now _)) (by rw [if_pos h])
    · exact ev_eq (ev_neg h (Ev.now _)) (by rw [if_neg h]; rfl)
  | succ d ih =>
    intro j acc hj ha
    have hj' : j < l.length := by omega
    refine Ev.step (fun k => by rw [vertex_Take.l0]) ?_
    refine ev_pos (by omega) (ev_pos (by omega) (ev_pos (by omega) ?_))
    rw [rdOf_at l j hj', List.drop_eq_getElem_cons hj']
    refine Ev.bind (batchTake_ev _ (hs _ (List.getElem_mem hj'))) ?_
    rw [batchesL]
    by_cases h : (takeBatchL (ofB l[j])).2.2.2 = 0
    · rw [if_pos h]
      refine ev_pos h (ev_pos (by omega) ?_)
      rw [wrap64_of (by omega) (by omega)]
      refine ev_eq (ih (j + 1) _ (by omega) (by rw [List.length_append, ha]; rfl)) ?_
      congr 1
      rcases batchesL (l.drop (j + 1)) with _ | bs
      · rfl
      · simp
    · rw [if_neg h]
      exact ev_neg h (Ev.now _)
theorem vertex_numbers_of (s : ByteArray) (hs : s.size < 4611686018427387904) : vertex_numbers.f s = some ((numbersL (ofB s)).1, (numbersL (ofB s)).2.1, toB (numbersL (ofB s)).2.2.1, (numbersL (ofB s)).2.2.2) := if_pos hs
theorem vertexTake_ev (s : ByteArray) (n : Int) (hs : s.size < 4611686018427387904) : Ev (fun k => vertex_Take.f k s n) (takeV (ofB s) n) := by
  have l0 : (ofB s).length < 4611686018427387904 := by rw [ofB_length]; exact hs
  have l1 := numbersL_rest (ofB s)
  have l2 : (vA (ofB s)).2.1.length ≤ _ := takeRowL_rest (numbersL (ofB s)).2.2.1 4 65536
  have l3 : (vB (ofB s)).2.1.length ≤ _ := takeRowL_rest (vA (ofB s)).2.1 64 32
  refine ev_bind_const (vertex_numbers_of s hs) ?_
  simp only
  refine ev_bind_const (digits_TakeRow_of _ 4 65536 (by decide) (by decide) (by rw [toB_size]; omega) (.inr (by omega))) ?_
  simp only [takeRowB, ofB_toB]
  refine ev_bind_const (digits_TakeRow_of _ 64 32 (by decide) (by decide) (by rw [toB_size]; exact Nat.lt_of_le_of_lt (Nat.le_trans l2 l1) l0) (.inr (by omega))) ?_
  simp only [takeRowB, ofB_toB]
  refine ev_bind_const (vertex_numbers_of _ (by rw [toB_size]; exact Nat.lt_of_le_of_lt (Nat.le_trans l3 (Nat.le_trans l2 l1)) l0)) ?_
  simp only [ofB_toB]
  have key : ∀ b : Bool, (b = true ↔ ¬ okV (ofB s)) → Ev (fun k => vertex_Take.j0 k n (vA (ofB s)).1 (vB (ofB s)).1 b (numbersL (ofB s)).1 (numbersL (ofB s)).2.1 (vC (ofB s)).1 (vC (ofB s)).2.1) (takeV (ofB s) n) := by
    intro b hb
    refine Ev.step (fun k => by rw [vertex_Take.j0]) ?_
    by_cases h : okV (ofB s)
    · rw [takeV_pos h]
      obtain ⟨h1, h2⟩ := vA_small h.2.1
      refine ev_neg (fun hh => hb.1 hh h) (ev_eq (vertexTake_loop n (vA (ofB s)).1 _ _ _ _ _ h1 h2 (vA (ofB s)).1.length 0 [] (by omega) rfl) ?_)
      rw [List.drop_zero]
      rcases batchesL (vA (ofB s)).1 with _ | bs <;> rfl
    · rw [takeV_neg h]
      exact ev_pos (hb.2 h) (Ev.now _)
  show Ev (fun k => if (numbersL (ofB s)).2.2.2 = true then (if (vA (ofB s)).2.2 = 0 then (if (vB (ofB s)).2.2 = 0 then (if (vC (ofB s)).2.2.2 = true then vertex_Take.j0 k n (vA (ofB s)).1 (vB (ofB s)).1 ((toB (vC (ofB s)).2.2.1).toList != ([] : List UInt8)) (numbersL (ofB s)).1 (numbersL (ofB s)).2.1 (vC (ofB s)).1 (vC (ofB s)).2.1 else _) else _) else _) else _) _
  by_cases h1 : (numbersL (ofB s)).2.2.2 = true
  · refine ev_pos h1 ?_
    by_cases h2 : (vA (ofB s)).2.2 = 0
    · refine ev_pos h2 ?_
      by_cases h3 : (vB (ofB s)).2.2 = 0
      · refine ev_pos h3 ?_
        by_cases h4 : (vC (ofB s)).2.2.2 = true
        · refine ev_pos h4 (key _ ?_)
          rw [toList_ofB, ofB_toB, bne_iff_ne]
          exact ⟨fun hh hv => hh hv.2.2.2.2, fun hh hv => hh ⟨h1, h2, h3, h4, hv⟩⟩
        · exact ev_neg h4 (key true ⟨fun _ hv => h4 hv.2.2.2.1, fun _ => rfl⟩)
      · exact ev_neg h3 (key true ⟨fun _ hv => h3 hv.2.2.1, fun _ => rfl⟩)
    · exact ev_neg h2 (key true ⟨fun _ hv => h2 hv.2.1, fun _ => rfl⟩)
  · exact ev_neg h1 (key true ⟨fun _ hv => h1 hv.1, fun _ => rfl⟩)
theorem numbersL_ok {s : Bs} (h : (numbersL s).2.2.2 = true) : ∃ a b : Nat, (numbersL s).1 = a ∧ (numbersL s).2.1 = b ∧ a ≤ 1048576 ∧ b ≤ 1048576 ∧ s = numL a ++ (numL b ++ (numbersL s).2.2.1) := by
  unfold numbersL at h ⊢
  rcases h1 : smallL s with _ | ⟨a, s1⟩
  · rw [h1] at h; cases h
  · rw [h1] at h
    simp only at h ⊢
    rcases h2 : smallL s1 with _ | ⟨b, s2⟩
    · rw [h2] at h; cases h
    · obtain ⟨e1, k1⟩ := smallL_ok h1
      obtain ⟨e2, k2⟩ := smallL_ok h2
      exact ⟨a, b, rfl, rfl, k1, k2, by rw [e1, e2]⟩
theorem numbersL_two {a b : Nat} (ha : a ≤ 1048576) (hb : b ≤ 1048576) (r : Bs) : numbersL (numL a ++ (numL b ++ r)) = ((a : Int), (b : Int), r, true) := by
  rw [numbersL, smallL_num ha]
  simp only
  rw [smallL_num hb]
theorem endV_err (a r : Int) (ps : List ByteArray) (x y n : Int) (o : Option (List S24)) : endV a r ps x y n o = badV ∨ ∃ bs, o = some bs ∧ mayV a r bs ps x y n = true ∧ endV a r ps x y n o = (a, r, bs, ps, x, y, 0) := by
  rcases o with _ | bs
  · exact .inl rfl
  · by_cases h : mayV a r bs ps x y n = true
    · exact .inr ⟨bs, rfl, h, if_pos h⟩
    · exact .inl (if_neg h)
theorem takeV_ok (s : Bs) (n : Int) : takeV s n = badV ∨ ∃ a r bs ps x y, takeV s n = (a, r, bs, ps, x, y, 0) ∧ mayV a r bs ps x y n = true ∧ s = vertexL a r bs ps x y := by
  by_cases h : okV s
  · rw [takeV_pos h]
    rcases endV_err (numbersL s).1 (numbersL s).2.1 (vB s).1 (vC s).1 (vC s).2.1 n (batchesL (vA s).1) with h0 | ⟨bs, h1, h2, h3⟩
    · exact .inl h0
    · refine .inr ⟨_, _, _, _, _, _, h3, h2, ?_⟩
      obtain ⟨k1, k2, k3, k4, k5⟩ := h
      obtain ⟨a, b, e1, e2, _, _, e3⟩ := numbersL_ok k1
      obtain ⟨c, d, e4, e5, _, _, e6⟩ := numbersL_ok k4
      obtain ⟨e7, _⟩ := batchesL_ok h1
      have r1 : (numbersL s).2.2.1 = rowL (vA s).1 ++ (vA s).2.1 := (takeRowL_ok (many := 4) (most := 65536) (show takeRowL (numbersL s).2.2.1 4 65536 = ((vA s).1, (vA s).2.1, 0) by rw [← k2]; rfl)).1
      have r2 : (vA s).2.1 = rowL (vB s).1 ++ (vB s).2.1 := (takeRowL_ok (many := 64) (most := 32) (show takeRowL (vA s).2.1 64 32 = ((vB s).1, (vB s).2.1, 0) by rw [← k3]; rfl)).1
      have e6' : (vB s).2.1 = numL c ++ (numL d ++ (vC s).2.2.1) := e6
      have e4' : (vC s).1 = c := e4
      have e5' : (vC s).2.1 = d := e5
      rw [k5, List.append_nil] at e6'
      rw [vertexL, e1, e2, e4', e5', Int.toNat_natCast, Int.toNat_natCast, Int.toNat_natCast, Int.toNat_natCast, ← e7]
      rw [e6'] at r2
      rw [r2] at r1
      rw [r1] at e3
      simp only [List.append_assoc]
      exact e3
  · exact .inl (takeV_neg h)
theorem takeV_vertex {a r : Int} {bs : List S24} {ps : List ByteArray} {x y n : Int} (h : mayV a r bs ps x y n = true) : takeV (vertexL a r bs ps x y) n = (a, r, bs, ps, x, y, 0) := by
  obtain ⟨h0, h1, h2, h3, h4, h5, h6, h7, h8, h9⟩ := (mayV_iff ..).1 h
  obtain ⟨k1, k2, k3⟩ := (mayN_iff n).1 h0
  obtain ⟨x1, x2, y1, y2⟩ := (mayE_iff x y).1 h7
  have hp := parentsB_small h0 h9
  obtain ⟨a', rfl⟩ := Int.eq_ofNat_of_zero_le (show 0 ≤ a by omega)
  obtain ⟨r', rfl⟩ := Int.eq_ofNat_of_zero_le (show 0 ≤ r by omega)
  obtain ⟨x', rfl⟩ := Int.eq_ofNat_of_zero_le x1
  obtain ⟨y', rfl⟩ := Int.eq_ofNat_of_zero_le y1
  have e1 : numbersL (vertexL a' r' bs ps x' y') = ((a' : Int), (r' : Int), rowL (bs.map bB) ++ (rowL ps ++ (numL x' ++ numL y')), true) := by
    rw [vertexL, Int.toNat_natCast, Int.toNat_natCast, Int.toNat_natCast, Int.toNat_natCast]
    simp only [List.append_assoc]
    exact numbersL_two (by omega) (by omega) _
  have e2 : vA (vertexL a' r' bs ps x' y') = (bs.map bB, rowL ps ++ (numL x' ++ numL y'), 0) := by
    rw [vA, e1]
    exact takeRowL_row (by rw [List.length_map]; omega) (by rw [List.length_map]; omega) (fun t ht => by
      obtain ⟨b, _, rfl⟩ := List.mem_map.1 ht
      have := bB_size b; omega) _
  have e3 : vB (vertexL a' r' bs ps x' y') = (ps, numL x' ++ numL y', 0) := by
    rw [vB, e2]
    exact takeRowL_row (by have := hp.1; omega) (by have := hp.1; omega) (fun t ht => by have := hp.2 t ht; omega) _
  have e4 : vC (vertexL a' r' bs ps x' y') = ((x' : Int), (y' : Int), [], true) := by
    rw [vC, e3]
    have := numbersL_two (a := x') (b := y') (by omega) (by omega) []
    rwa [List.append_nil] at this
  have hv : okV (vertexL a' r' bs ps x' y') := by
    unfold okV
    rw [e1, e2, e3, e4]
    exact ⟨rfl, rfl, rfl, rfl, rfl⟩
  rw [takeV_pos hv, e1, e2, e3, e4, batchesL_map (fun b hb => (any_odd h6 b hb).1), endV, if_pos h]
end Go.Proofs.Ytfhjimeigelibaa.Px

namespace Go.Proofs.Ytfhjimeigelibaa.Px
open Go.RowKit Go.Proofs.YtfhjimeigelibaaW.PrintWords Go.Proofs.YtfhjimeigelibaaW.PrintLast Go.Proofs.YtfhjimeigelibaaW.PrintMore
attribute [local go_sem] max2_int min2_int max_two min_two max_three min_three max_four min_four
set_option linter.unusedVariables false
set_option linter.unusedSimpArgs false
theorem ref05_May_of (n : Int) : selvedgeref05_May.f n = some (mayN n) := by
  unfold selvedgeref05_May.f mayN
  by_cases h4 : n = 4
  · subst h4; rfl
  · rw [if_neg h4]
    by_cases h : n > 4
    · rw [if_pos h]
      by_cases h1 : n ≤ 64
      · rw [if_pos h1, wrap64_of (by omega) (by omega), Int.tmod_eq_emod_of_nonneg (by omega)]
        by_cases h2 : n % 3 = 1
        · have : (n - 1) % 3 = 0 := by omega
          simp [h1, h2, this]; omega
        · have : ¬ (n - 1) % 3 = 0 := by omega
          simp [h2, this]
      · rw [if_neg h1]; simp [h1]
    · rw [if_neg h]
      have : ¬ 4 ≤ n := by omega
      simp [this]
theorem ref05_Quorum_of (n : Int) : selvedgeref05_Quorum.f n = some (quorumN n) := by
  unfold selvedgeref05_Quorum.f quorumN
  rw [ref05_May_of]
  simp only [Option.bind_some]
  by_cases h : mayN n = true
  · rw [if_pos h, if_pos h]
    obtain ⟨h1, h2, h3⟩ := (mayN_iff n).1 h
    rw [wrap64_of (x := n - 1) (by omega) (by omega), Int.tdiv_eq_ediv_of_nonneg (by omega), wrap64_of (x := (n - 1) / 3) (by omega) (by omega), wrap64_of (by omega) (by omega)]
  · rw [if_neg h, if_neg h]
theorem ref03_May_of (a b : Int) : selvedgeref03_May.f a b = some (mayE a b) := by
  unfold selvedgeref03_May.f mayE
  by_cases h1 : 0 ≤ a <;> by_cases h2 : a < 10007 <;> by_cases h3 : 0 ≤ b <;> simp [h1, h2, h3]
theorem ref08_Third_of (r : Int) : selvedgeref08_Third.f r = some (thirdR r) := by
  unfold selvedgeref08_Third.f thirdR
  by_cases h : r > 0
  · rw [if_pos h, Int.tmod_eq_emod_of_nonneg (by omega)]
    by_cases h2 : r % 3 = 0
    · have : 3 ≤ r := by omega
      simp [h2, this]
    · simp [h2]
  · rw [if_neg h]
    have : ¬ 3 ≤ r := by omega
    simp [this]
def shareB (r x y : Int) : Bool := mayE x y && (thirdR r || (decide (x = 0) && decide (y = 0)))
theorem refVMay_l1 (a r : Int) (bs : List S24) (ps : List ByteArray) (x y : Int) (hl : ps.length < 4611686018427387904) (hp : ∀ t ∈ ps, t.size < 4611686018427387904) (d : Nat) : ∀ j, j + d = ps.length →
    Ev (fun k => selvedgeref08_May.l1 k (j : Int) a r bs ps x y) (upFrom ps d j && shareB r x y) := by
  induction d with
  | zero =>
    intro j hj
    refine Ev.step (fun k => by rw [selvedgeref08_May.l1]) ?_
    refine ev_neg (by omega) (ev_bind_const (ref03_May_of x y) (ev_bind_const (ref08_Third_of r) ?_))
    unfold shareB
    by_cases h1 : mayE x y = true
    · refine ev_pos h1 ?_
      by_cases h2 : thirdR r = true
      · exact ev_pos h2 (ev_eq (Ev.now _) (by simp [upFrom, h1, h2]))
      · refine ev_neg h2 ?_
        by_cases h3 : x = 0
        · refine ev_pos h3 (ev_eq (Ev.now _) ?_)
          rw [Bool.not_eq_true] at h2
          subst h3
          by_cases h4 : y = 0
          · subst h4; simp [upFrom, h1, h2]
          · simp [upFrom, h1, h2, h4]
        · rw [Bool.not_eq_true] at h2
          exact ev_neg h3 (ev_eq (Ev.now _) (by simp [upFrom, h2, h3]))
    · rw [Bool.not_eq_true] at h1
      exact ev_neg (by rw [h1]; simp) (ev_eq (Ev.now _) (by simp [upFrom, h1]))
  | succ d ih =>
    intro j hj
    have hj' : j < ps.length := by omega
    refine Ev.step (fun k => by rw [selvedgeref08_May.l1]) ?_
    refine ev_pos (by omega) (ev_pos (by omega) ?_)
    have e1 : rdOf ByteArray.empty ps (j : Int) = ps.getD j ByteArray.empty := by rw [rdOf, Int.toNat_natCast]
    rw [e1]
    by_cases h : (ps.getD j ByteArray.empty).size = 32
    · refine ev_pos (by omega) ?_
      rw [wrap64_of (x := (j : Int) + 1) (by omega) (by omega)]
      by_cases h0 : j = 0
      · subst h0
        refine ev_neg (by omega) (ev_eq (ih 1 (by omega)) ?_)
        simp only [upFrom, upAt, h]; simp
      · refine ev_pos (by omega) ?_
        have e2 : wrap64 ((j : Int) - 1) = ((j - 1 : Nat) : Int) := by rw [wrap64_of (by omega) (by omega)]; omega
        rw [e2]
        refine ev_pos (by omega) (ev_pos (by omega) ?_)
        have e3 : rdOf ByteArray.empty ps ((j - 1 : Nat) : Int) = ps.getD (j - 1) ByteArray.empty := by rw [rdOf, Int.toNat_natCast]
        rw [e3]
        have hsz : (ps.getD (j - 1) ByteArray.empty).size < 4611686018427387904 := by
          rw [List.getD_eq_getElem?_getD, List.getElem?_eq_getElem (show j - 1 < ps.length by omega)]
          exact hp _ (List.getElem_mem _)
        refine Ev.bind (less_ev _ _ hsz) ?_
        by_cases h2 : lessL (ofB (ps.getD (j - 1) ByteArray.empty)) (ofB (ps.getD j ByteArray.empty)) = true
        · refine ev_pos h2 (ev_eq (ih (j + 1) (by omega)) ?_)
          simp only [upFrom, upAt, h, h2]; simp
        · refine ev_neg h2 (ev_eq (Ev.now _) ?_)
          rw [Bool.not_eq_true] at h2
          simp only [upFrom, upAt, h, h0, h2]; simp
    · refine ev_neg (by omega) (ev_eq (Ev.now _) ?_)
      simp only [upFrom, upAt, h]; simp
def refRest (r : Int) (ps : List ByteArray) (x y n : Int) : Bool :=
  !(decide (r = 1) && decide (0 < ps.length)) && !(decide (1 < r) && (decide ((ps.length : Int) < quorumN n) || decide (n < ps.length))) && (upFrom ps ps.length 0 && shareB r x y)
theorem refVMay_l0 (a r : Int) (bs : List S24) (ps : List ByteArray) (x y n : Int) (hb : bs.length < 4611686018427387904) (hbs : ∀ b ∈ bs, b.f2.length < 4611686018427387904) (hl : ps.length < 4611686018427387904) (hp : ∀ t ∈ ps, t.size < 4611686018427387904) (d : Nat) : ∀ j, j + d = bs.length →
    Ev (fun k => selvedgeref08_May.l0 k n (j : Int) a r bs ps x y) (!(bs.drop j).any (oddB n) && refRest r ps x y n) := by
  induction d with
  | zero =>
    intro j hj
    refine Ev.step (fun k => by rw [selvedgeref08_May.l0]) ?_
    rw [List.drop_eq_nil_of_le (by omega)]
    refine ev_neg (by omega) ?_
    have J3 : ∀ b : Bool, Ev (fun k => selvedgeref08_May.j3 k b a r bs ps x y) (!b && (upFrom ps ps.length 0 && shareB r x y)) := by
      intro b
      refine Ev.step (fun k => by rw [selvedgeref08_May.j3]) ?_
      rcases b with _ | _
      · exact ev_neg (by simp) (ev_eq (refVMay_l1 a r bs ps x y hl hp ps.length 0 (by omega)) (by simp))
      · exact ev_pos rfl (ev_eq (Ev.now _) (by simp))
    have J2 : ∀ b : Bool, Ev (fun k => selvedgeref08_May.j2 k n b a r bs ps x y) (!b && (!(decide (1 < r) && (decide ((ps.length : Int) < quorumN n) || decide (n < ps.length))) && (upFrom ps ps.length 0 && shareB r x y))) := by
      intro b
      refine Ev.step (fun k => by rw [selvedgeref08_May.j2]) ?_
      rcases b with _ | _
      · refine ev_neg (by simp) ?_
        by_cases h : r > 1
        · have h' : 1 < r := h
          refine ev_pos h (ev_bind_const (ref05_Quorum_of n) ?_)
          by_cases h2 : (ps.length : Int) < quorumN n
          · exact ev_pos h2 (ev_eq (J3 true) (by simp [h', h2]))
          · exact ev_neg h2 (ev_eq (J3 _) (by simp [h', h2]))
        · have h' : ¬ 1 < r := h
          exact ev_neg h (ev_eq (J3 false) (by simp [h']))
      · exact ev_pos rfl (ev_eq (Ev.now _) (by simp))
    unfold refRest
    by_cases h : r = 1
    · refine ev_pos h (ev_eq (J2 _) ?_)
      subst h
      by_cases h0 : 0 < ps.length
      · have : decide ((ps.length : Int) > 0) = true := decide_eq_true (by omega)
        simp [this, h0]
      · have : decide ((ps.length : Int) > 0) = false := decide_eq_false (by omega)
        simp [this, h0]
    · exact ev_neg h (ev_eq (J2 false) (by simp [h]))
  | succ d ih =>
    intro j hj
    have hj' : j < bs.length := by omega
    refine Ev.step (fun k => by rw [selvedgeref08_May.l0]) ?_
    refine ev_pos (by omega) (ev_pos (by omega) ?_)
    rw [rd_Batch_at bs j hj', wrap64_of (by omega) (by omega), List.drop_eq_getElem_cons hj', List.any_cons]
    refine Ev.bind (refMay_ev _ _ _ (hbs _ (List.getElem_mem hj'))) ?_
    by_cases h : mayB bs[j].f0 bs[j].f1 bs[j].f2 = true
    · refine ev_pos h ?_
      by_cases h2 : bs[j].f0 > n
      · have h3 : n < bs[j].f0 := h2
        exact ev_pos h2 (ev_eq (Ev.now _) (by simp [oddB, h3]))
      · have h3 : ¬ n < bs[j].f0 := h2
        refine ev_neg h2 (ev_eq (ih (j + 1) (by omega)) ?_)
        have : oddB n bs[j] = false := by simp [oddB, h, h3]
        rw [this, Bool.false_or]
    · refine ev_neg h (ev_eq (Ev.now _) ?_)
      rw [Bool.not_eq_true] at h
      simp [oddB, h]
theorem mayV_ref (a r : Int) (bs : List S24) (ps : List ByteArray) (x y n : Int) (h0 : mayN n = true) (h1 : 1 ≤ a) (h2 : a ≤ n) (h3 : 1 ≤ r) (h4 : r ≤ 1048576) (h5 : bs.length ≤ 4) :
    mayV a r bs ps x y n = (!bs.any (oddB n) && refRest r ps x y n) := by
  unfold mayV refRest parentsB shareB
  simp only [h0, h1, h2, h3, h4, h5]
  by_cases e : r = 1
  · subst e
    rcases ps with _ | ⟨p, ps⟩
    · simp [upFrom, Bool.and_assoc]
    · simp
  · have h6 : 1 < r := by omega
    simp only [if_neg e, e, h6]
    have q1 : decide ((ps.length : Int) < quorumN n) = !decide (quorumN n ≤ (ps.length : Int)) := by
      by_cases q : quorumN n ≤ (ps.length : Int) <;> simp [q] <;> omega
    have q2 : decide (n < (ps.length : Int)) = !decide ((ps.length : Int) ≤ n) := by
      by_cases q : (ps.length : Int) ≤ n <;> simp [q] <;> omega
    rw [q1, q2]
    cases bs.any (oddB n) <;> cases mayE x y <;> cases thirdR r <;> cases upFrom ps ps.length 0 <;> cases decide (quorumN n ≤ (ps.length : Int)) <;> cases decide ((ps.length : Int) ≤ n) <;> simp
theorem refVMay_ev (a r : Int) (bs : List S24) (ps : List ByteArray) (x y n : Int) (hb : bs.length < 4611686018427387904) (hbs : ∀ b ∈ bs, b.f2.length < 4611686018427387904) (hl : ps.length < 4611686018427387904) (hp : ∀ t ∈ ps, t.size < 4611686018427387904) :
    Ev (fun k => selvedgeref08_May.f k a r bs ps x y n) (mayV a r bs ps x y n) := by
  have key : ∀ b : Bool, (b = true ↔ ¬ (mayN n = true ∧ 1 ≤ a ∧ a ≤ n ∧ 1 ≤ r ∧ r ≤ 1048576 ∧ bs.length ≤ 4)) → Ev (fun k => selvedgeref08_May.j0 k n b a r bs ps x y) (mayV a r bs ps x y n) := by
    intro b hb'
    refine Ev.step (fun k => by rw [selvedgeref08_May.j0]) ?_
    by_cases h : mayN n = true ∧ 1 ≤ a ∧ a ≤ n ∧ 1 ≤ r ∧ r ≤ 1048576 ∧ bs.length ≤ 4
    · refine ev_neg (fun hh => hb'.1 hh h) (ev_eq (refVMay_l0 a r bs ps x y n hb hbs hl hp bs.length 0 (by omega)) ?_)
      obtain ⟨h0, h1, h2, h3, h4, h5⟩ := h
      rw [mayV_ref a r bs ps x y n h0 h1 h2 h3 h4 h5, List.drop_zero]
    · refine ev_pos (hb'.2 h) (ev_eq (Ev.now _) ?_)
      symm
      rw [← Bool.not_eq_true, mayV_iff]
      exact fun ⟨h0, h1, h2, h3, h4, h5, _⟩ => h ⟨h0, h1, h2, h3, h4, h5⟩
  refine ev_bind_const (ref05_May_of n) ?_
  by_cases h0 : mayN n = true
  · refine ev_pos h0 ?_
    by_cases h1 : a < 1
    · exact ev_pos h1 (key true (by simp; omega))
    refine ev_neg h1 ?_
    by_cases h2 : a > n
    · exact ev_pos h2 (key true (by simp; omega))
    refine ev_neg h2 ?_
    by_cases h3 : r < 1
    · exact ev_pos h3 (key true (by simp; omega))
    refine ev_neg h3 ?_
    by_cases h4 : r > 1048576
    · exact ev_pos h4 (key true (by simp; omega))
    exact ev_neg h4 (key _ (by simp [h0]; omega))
  · exact ev_neg h0 (key true (by simp [h0]))
end Go.Proofs.Ytfhjimeigelibaa.Px

namespace Go.Proofs.Ytfhjimeigelibaa.Px
open Go.RowKit Go.Proofs.YtfhjimeigelibaaW.PrintWords Go.Proofs.YtfhjimeigelibaaW.PrintLast Go.Proofs.YtfhjimeigelibaaW.PrintMore
attribute [local go_sem] max2_int min2_int max_two min_two max_three min_three max_four min_four
set_option linter.unusedVariables false
set_option linter.unusedSimpArgs false
def refNn (s : Bs) : Nat × Bs × Int := takeNumL (takeNumL s).2.1
def refAa (s : Bs) : List ByteArray × Bs × Int := takeRowL (refNn s).2.1 4 400
def refBb (s : Bs) : List ByteArray × Bs × Int := takeRowL (refAa s).2.1 64 32
def refC3 (s : Bs) : Nat × Bs × Int := takeNumL (refBb s).2.1
def refC4 (s : Bs) : Nat × Bs × Int := takeNumL (refC3 s).2.1
def okR (s : Bs) : Prop := (takeNumL s).2.2 = 0 ∧ (refNn s).2.2 = 0 ∧ (takeNumL s).1 ≤ 64 ∧ (refNn s).1 ≤ 1048576 ∧ (refAa s).2.2 = 0 ∧ (refBb s).2.2 = 0 ∧ (refC3 s).2.2 = 0 ∧ (refC3 s).1 ≤ 10006 ∧ (refC4 s).2.2 = 0 ∧ (refC4 s).1 ≤ 10006 ∧ (refC4 s).2.1 = []
instance decOkR (s : Bs) : Decidable (okR s) := by unfold okR; infer_instance
def refV (s : Bs) (n : Int) : VT := if okR s then endV (takeNumL s).1 (refNn s).1 (refBb s).1 (refC3 s).1 (refC4 s).1 n (batchesL (refAa s).1) else badV
theorem refV_pos {s : Bs} {n : Int} (h : okR s) : refV s n = endV (takeNumL s).1 (refNn s).1 (refBb s).1 (refC3 s).1 (refC4 s).1 n (batchesL (refAa s).1) := if_pos h
theorem refV_neg {s : Bs} {n : Int} (h : ¬ okR s) : refV s n = badV := if_neg h
theorem refV_ok (s : Bs) (n : Int) : refV s n = badV ∨ ∃ a r bs ps x y, refV s n = (a, r, bs, ps, x, y, 0) ∧ mayV a r bs ps x y n = true ∧ s = vertexL a r bs ps x y := by
  by_cases h : okR s
  · rw [refV_pos h]
    rcases endV_err (takeNumL s).1 (refNn s).1 (refBb s).1 (refC3 s).1 (refC4 s).1 n (batchesL (refAa s).1) with h0 | ⟨bs, h1, h2, h3⟩
    · exact .inl h0
    · refine .inr ⟨_, _, _, _, _, _, h3, h2, ?_⟩
      obtain ⟨k1, k2, _, _, k5, k6, k7, _, k9, _, k11⟩ := h
      obtain ⟨e7, _⟩ := batchesL_ok h1
      have q1 := (takeNumL_ok (s := s) (v := (takeNumL s).1) (r := (takeNumL s).2.1) (by rw [← k1])).1
      have q2 := (takeNumL_ok (s := (takeNumL s).2.1) (v := (refNn s).1) (r := (refNn s).2.1) (by rw [← k2]; rfl)).1
      have q3 := (takeRowL_ok (s := (refNn s).2.1) (l := (refAa s).1) (r := (refAa s).2.1) (many := 4) (most := 400) (by rw [← k5]; rfl)).1
      have q4 := (takeRowL_ok (s := (refAa s).2.1) (l := (refBb s).1) (r := (refBb s).2.1) (many := 64) (most := 32) (by rw [← k6]; rfl)).1
      have q5 := (takeNumL_ok (s := (refBb s).2.1) (v := (refC3 s).1) (r := (refC3 s).2.1) (by rw [← k7]; rfl)).1
      have q6 := (takeNumL_ok (s := (refC3 s).2.1) (v := (refC4 s).1) (r := (refC4 s).2.1) (by rw [← k9]; rfl)).1
      rw [k11, List.append_nil] at q6
      rw [q6] at q5
      rw [q5] at q4
      rw [q4] at q3
      rw [q3] at q2
      rw [q2] at q1
      rw [vertexL, Int.toNat_natCast, Int.toNat_natCast, Int.toNat_natCast, Int.toNat_natCast, ← e7]
      simp only [List.append_assoc]
      exact q1
  · exact .inl (refV_neg h)
theorem refV_vertex {a r : Int} {bs : List S24} {ps : List ByteArray} {x y n : Int} (h : mayV a r bs ps x y n = true) : refV (vertexL a r bs ps x y) n = (a, r, bs, ps, x, y, 0) := by
  obtain ⟨h0, h1, h2, h3, h4, h5, h6, h7, h8, h9⟩ := (mayV_iff ..).1 h
  obtain ⟨k1, k2, k3⟩ := (mayN_iff n).1 h0
  obtain ⟨x1, x2, y1, y2⟩ := (mayE_iff x y).1 h7
  have hp := parentsB_small h0 h9
  obtain ⟨a', rfl⟩ := Int.eq_ofNat_of_zero_le (show 0 ≤ a by omega)
  obtain ⟨r', rfl⟩ := Int.eq_ofNat_of_zero_le (show 0 ≤ r by omega)
  obtain ⟨x', rfl⟩ := Int.eq_ofNat_of_zero_le x1
  obtain ⟨y', rfl⟩ := Int.eq_ofNat_of_zero_le y1
  have e0 : takeNumL (vertexL a' r' bs ps x' y') = (a', numL r' ++ (rowL (bs.map bB) ++ (rowL ps ++ (numL x' ++ numL y'))), 0) := by
    rw [vertexL, Int.toNat_natCast, Int.toNat_natCast, Int.toNat_natCast, Int.toNat_natCast]
    simp only [List.append_assoc]
    exact takeNumL_num (by omega) _
  have e1 : refNn (vertexL a' r' bs ps x' y') = (r', rowL (bs.map bB) ++ (rowL ps ++ (numL x' ++ numL y')), 0) := by
    rw [refNn, e0]; exact takeNumL_num (by omega) _
  have e2 : refAa (vertexL a' r' bs ps x' y') = (bs.map bB, rowL ps ++ (numL x' ++ numL y'), 0) := by
    rw [refAa, e1]
    exact takeRowL_row (by rw [List.length_map]; omega) (by rw [List.length_map]; omega) (fun t ht => by
      obtain ⟨b, _, rfl⟩ := List.mem_map.1 ht
      have := bB_size b; omega) _
  have e3 : refBb (vertexL a' r' bs ps x' y') = (ps, numL x' ++ numL y', 0) := by
    rw [refBb, e2]
    exact takeRowL_row (by have := hp.1; omega) (by have := hp.1; omega) (fun t ht => by have := hp.2 t ht; omega) _
  have e4 : refC3 (vertexL a' r' bs ps x' y') = (x', numL y', 0) := by
    rw [refC3, e3]; exact takeNumL_num (by omega) _
  have e5 : refC4 (vertexL a' r' bs ps x' y') = (y', [], 0) := by
    rw [refC4, e4]
    have := takeNumL_num (v := y') (by omega) []
    rwa [List.append_nil] at this
  have hv : okR (vertexL a' r' bs ps x' y') := by
    unfold okR
    rw [e0, e1, e2, e3, e4, e5]
    refine ⟨rfl, rfl, ?_, ?_, rfl, rfl, rfl, ?_, rfl, ?_, rfl⟩ <;> simp only <;> omega
  rw [refV_pos hv, e0, e1, e2, e3, e4, e5, batchesL_map (fun b hb => (any_odd h6 b hb).1), endV, if_pos h]
theorem refV_eq (s : Bs) (n : Int) : refV s n = takeV s n := by
  rcases takeV_ok s n with h | ⟨a, r, bs, ps, x, y, h, hm, rfl⟩
  · rcases refV_ok s n with h' | ⟨a, r, bs, ps, x, y, h', hm, rfl⟩
    · rw [h, h']
    · rw [takeV_vertex hm] at h
      simp [badV] at h
  · rw [h, refV_vertex hm]
theorem refTake_loop (n : Int) (l : List ByteArray) (a r : Int) (ps : List ByteArray) (x y : Int) (hl : l.length ≤ 4) (hs : ∀ t ∈ l, t.size < 4611686018427387904) (hp : ps.length < 4611686018427387904) (hps : ∀ t ∈ ps, t.size < 4611686018427387904) (d : Nat) : ∀ (j : Nat) (acc : List S24), j + d = l.length → acc.length = j → (∀ b ∈ acc, b.f2.length < 4611686018427387904) →
    Ev (fun k => selvedgeref08_Take.l0 k n l (j : Int) a r acc ps x y) (endV a r ps x y n ((batchesL (l.drop j)).map (acc ++ ·))) := by
  induction d with
  | zero =>
    intro j acc hj ha hacc
    refine Ev.step (fun k => by rw [selvedgeref08_Take.l0]) ?_
    rw [List.drop_eq_nil_of_le (by omega)]
    refine ev_neg (by omega) (Ev.bind (refVMay_ev a r acc ps x y n (by omega) hacc hp hps) ?_)
    show Ev _ (endV a r ps x y n (some (acc ++ [])))
    rw [List.append_nil, endV]
    by_cases h : mayV a r acc ps x y n = true
    · exact ev_eq (ev_pos h (Ev.now _)) (by rw [if_pos h])
    · exact ev_eq (ev_neg h (Ev.now _)) (by rw [if_neg h]; rfl)
  | succ d ih =>
    intro j acc hj ha hacc
    have hj' : j < l.length := by omega
    refine Ev.step (fun k => by rw [selvedgeref08_Take.l0]) ?_
    refine ev_pos (by omega) (ev_pos (by omega) ?_)
    rw [rdOf_at l j hj', List.drop_eq_getElem_cons hj']
    refine Ev.bind (refBatchTake_ev _ (hs _ (List.getElem_mem hj'))) ?_
    rw [batchesL]
    by_cases h : (takeBatchL (ofB l[j])).2.2.2 = 0
    · rw [if_pos h]
      refine ev_pos h (ev_pos (by omega) ?_)
      rw [wrap64_of (by omega) (by omega)]
      refine ev_eq (ih (j + 1) _ (by omega) (by rw [List.length_append, ha]; rfl) ?_) ?_
      · intro b hb
        rcases List.mem_append.1 hb with hb | hb
        · exact hacc b hb
        · obtain rfl := List.mem_singleton.1 hb
          exact takeBatchL_len _
      · congr 1
        rcases batchesL (l.drop (j + 1)) with _ | bs
        · rfl
        · simp
    · rw [if_neg h]
      exact ev_neg h (Ev.now _)
theorem rA_small {s : Bs} (h : (refAa s).2.2 = 0) : (refAa s).1.length ≤ 4 ∧ ∀ t ∈ (refAa s).1, t.size < 4611686018427387904 := by
  obtain ⟨_, h2, _, h4⟩ := takeRowL_ok (s := (refNn s).2.1) (l := (refAa s).1) (r := (refAa s).2.1) (many := 4) (most := 400) (by rw [← h]; rfl)
  exact ⟨by omega, fun t ht => by have := (h4 t ht).1; omega⟩
theorem rB_small {s : Bs} (h : (refBb s).2.2 = 0) : (refBb s).1.length < 4611686018427387904 ∧ ∀ t ∈ (refBb s).1, t.size < 4611686018427387904 := by
  obtain ⟨_, h2, _, h4⟩ := takeRowL_ok (s := (refAa s).2.1) (l := (refBb s).1) (r := (refBb s).2.1) (many := 64) (most := 32) (by rw [← h]; rfl)
  exact ⟨by omega, fun t ht => by have := (h4 t ht).1; omega⟩
theorem refVTake_ev (s : ByteArray) (n : Int) (hs : s.size < 4611686018427387904) : Ev (fun k => selvedgeref08_Take.f k s n) (refV (ofB s) n) := by
  generalize hS : ofB s = S
  have l0 : S.length < 4611686018427387904 := by rw [← hS, ofB_length]; exact hs
  have l1 : (takeNumL S).2.1.length ≤ _ := takeNumL_len S
  have l2 : (refNn S).2.1.length ≤ _ := takeNumL_len (takeNumL S).2.1
  have l3 : (refAa S).2.1.length ≤ _ := takeRowL_rest (refNn S).2.1 4 400
  have l4 : (refBb S).2.1.length ≤ _ := takeRowL_rest (refAa S).2.1 64 32
  have l5 : (refC3 S).2.1.length ≤ _ := takeNumL_len (refBb S).2.1
  have v1 := takeNumL_val S
  have v2 : (refNn S).1 < _ := takeNumL_val (takeNumL S).2.1
  have v3 : (refC3 S).1 < _ := takeNumL_val (refBb S).2.1
  have v4 : (refC4 S).1 < _ := takeNumL_val (refC3 S).2.1
  have t1 := refTakeNum_ev s hs
  have t2 := refTakeNum_ev (toB (takeNumL S).2.1) (by rw [toB_size]; omega)
  have t3 := refTakeRow_ev (toB (refNn S).2.1) 4 400 (by decide) (by decide) (by rw [toB_size]; omega) (.inr (by omega))
  have t4 := refTakeRow_ev (toB (refAa S).2.1) 64 32 (by decide) (by decide) (by rw [toB_size]; omega) (.inr (by omega))
  have t5 := refTakeNum_ev (toB (refBb S).2.1) (by rw [toB_size]; omega)
  have t6 := refTakeNum_ev (toB (refC3 S).2.1) (by rw [toB_size]; omega)
  simp only [takeNumB, takeRowB, ofB_toB, hS] at t1 t2 t3 t4 t5 t6
  have badJ2 : Ev (fun k => selvedgeref08_Take.j2 k n ((takeNumL S).1 : Int) ((refNn S).1 : Int) (refAa S).1 (refBb S).1 ((refC3 S).1 : Int) ((refC4 S).1 : Int) true) badV := by refine Ev.step (fun k => by rw [selvedgeref08_Take.j2]) ?_; exact ev_pos rfl (Ev.now _)
  have goodJ2 : okR S → Ev (fun k => selvedgeref08_Take.j2 k n ((takeNumL S).1 : Int) ((refNn S).1 : Int) (refAa S).1 (refBb S).1 ((refC3 S).1 : Int) ((refC4 S).1 : Int) false) (refV S n) := by
    intro h
    obtain ⟨_, _, h3, h4, h5, h6, _, h8, _, h10, _⟩ := id h
    refine Ev.step (fun k => by rw [selvedgeref08_Take.j2]) ?_; refine ev_neg (by simp) ?_
    rw [wrap64_of (by omega) (by omega), wrap64_of (by omega) (by omega), wrap64_of (by omega) (by omega), wrap64_of (by omega) (by omega), refV_pos h]
    obtain ⟨a1, a2⟩ := rA_small h5
    obtain ⟨b1, b2⟩ := rB_small h6
    refine ev_eq (refTake_loop n (refAa S).1 _ _ _ _ _ a1 a2 b1 b2 (refAa S).1.length 0 [] (by omega) rfl (fun b hb => absurd hb (by simp))) ?_
    rw [List.drop_zero]
    rcases batchesL (refAa S).1 with _ | bs <;> rfl
  have hbad : ¬ okR S → refV S n = badV := fun h => refV_neg h
  refine Ev.bind t1 (Ev.bind t2 ?_)
  have badJ0 : Ev (fun k => selvedgeref08_Take.j0 k n ((takeNumL S).1 : Int) ((refNn S).1 : Int) (toB (refNn S).2.1) true) badV := by refine Ev.step (fun k => by rw [selvedgeref08_Take.j0]) ?_; exact ev_pos rfl (Ev.now _)
  have goodJ0 : (takeNumL S).2.2 = 0 → (refNn S).2.2 = 0 → (takeNumL S).1 ≤ 64 → (refNn S).1 ≤ 1048576 → Ev (fun k => selvedgeref08_Take.j0 k n ((takeNumL S).1 : Int) ((refNn S).1 : Int) (toB (refNn S).2.1) false) (refV S n) := by
    intro h1 h2 h3 h4
    refine Ev.step (fun k => by rw [selvedgeref08_Take.j0]) ?_; refine ev_neg (by simp) (Ev.bind t3 ?_)
    by_cases h5 : (refAa S).2.2 = 0
    · refine ev_pos h5 (Ev.bind t4 ?_)
      by_cases h6 : (refBb S).2.2 = 0
      · refine ev_pos h6 (Ev.bind t5 ?_)
        have badJ1 : Ev (fun k => selvedgeref08_Take.j1 k n ((takeNumL S).1 : Int) ((refNn S).1 : Int) (refAa S).1 (refBb S).1 ((refC3 S).1 : Int) (toB (refC3 S).2.1) true) badV := by refine Ev.step (fun k => by rw [selvedgeref08_Take.j1]) ?_; exact ev_pos rfl (Ev.now _)
        by_cases h7 : (refC3 S).2.2 = 0
        · refine ev_pos h7 ?_
          by_cases h8 : (refC3 S).1 ≤ 10006
          · have e8 : decide (((refC3 S).1 : Int) > 10006) = false := decide_eq_false (by omega)
            show Ev (fun k => selvedgeref08_Take.j1 k n ((takeNumL S).1 : Int) ((refNn S).1 : Int) (refAa S).1 (refBb S).1 ((refC3 S).1 : Int) (toB (refC3 S).2.1) (decide (((refC3 S).1 : Int) > 10006))) _
            rw [e8]
            refine Ev.step (fun k => by rw [selvedgeref08_Take.j1]) ?_; refine ev_neg (by simp) (Ev.bind t6 ?_)
            by_cases h9 : (refC4 S).2.2 = 0
            · refine ev_pos h9 ?_
              by_cases h10 : (refC4 S).1 ≤ 10006
              · refine ev_neg (by show ¬ ((refC4 S).1 : Int) > 10006; omega) ?_
                by_cases h11 : (refC4 S).2.1 = []
                · have e11 : decide (((toB (refC4 S).2.1).size : Int) > 0) = false := decide_eq_false (by rw [toB_size, h11]; simp)
                  show Ev (fun k => selvedgeref08_Take.j2 k n ((takeNumL S).1 : Int) ((refNn S).1 : Int) (refAa S).1 (refBb S).1 ((refC3 S).1 : Int) ((refC4 S).1 : Int) (decide (((toB (refC4 S).2.1).size : Int) > 0))) _
                  rw [e11]
                  exact goodJ2 ⟨h1, h2, h3, h4, h5, h6, h7, h8, h9, h10, h11⟩
                · have e11 : decide (((toB (refC4 S).2.1).size : Int) > 0) = true := decide_eq_true (by
                    rw [toB_size]
                    have : (refC4 S).2.1.length ≠ 0 := fun hh => h11 (List.eq_nil_of_length_eq_zero hh)
                    omega)
                  show Ev (fun k => selvedgeref08_Take.j2 k n ((takeNumL S).1 : Int) ((refNn S).1 : Int) (refAa S).1 (refBb S).1 ((refC3 S).1 : Int) ((refC4 S).1 : Int) (decide (((toB (refC4 S).2.1).size : Int) > 0))) _
                  rw [e11, hbad (fun hh => h11 hh.2.2.2.2.2.2.2.2.2.2)]
                  exact badJ2
              · rw [hbad (fun hh => h10 hh.2.2.2.2.2.2.2.2.2.1)]
                exact ev_pos (by show ((refC4 S).1 : Int) > 10006; omega) badJ2
            · rw [hbad (fun hh => h9 hh.2.2.2.2.2.2.2.2.1)]
              exact ev_neg h9 badJ2
          · have e8 : decide (((refC3 S).1 : Int) > 10006) = true := decide_eq_true (by omega)
            show Ev (fun k => selvedgeref08_Take.j1 k n ((takeNumL S).1 : Int) ((refNn S).1 : Int) (refAa S).1 (refBb S).1 ((refC3 S).1 : Int) (toB (refC3 S).2.1) (decide (((refC3 S).1 : Int) > 10006))) _
            rw [e8, hbad (fun hh => h8 hh.2.2.2.2.2.2.2.1)]
            exact badJ1
        · rw [hbad (fun hh => h7 hh.2.2.2.2.2.2.1)]
          exact ev_neg h7 badJ1
      · rw [hbad (fun hh => h6 hh.2.2.2.2.2.1)]
        exact ev_neg h6 (Ev.now _)
    · rw [hbad (fun hh => h5 hh.2.2.2.2.1)]
      exact ev_neg h5 (Ev.now _)
  by_cases h1 : (takeNumL S).2.2 = 0
  · refine ev_pos h1 ?_
    by_cases h2 : (refNn S).2.2 = 0
    · refine ev_pos h2 ?_
      by_cases h3 : (takeNumL S).1 ≤ 64
      · refine ev_neg (by omega) ?_
        by_cases h4 : (refNn S).1 ≤ 1048576
        · have e4 : decide (((refNn S).1 : Int) > 1048576) = false := decide_eq_false (by omega)
          show Ev (fun k => selvedgeref08_Take.j0 k n ((takeNumL S).1 : Int) ((refNn S).1 : Int) (toB (refNn S).2.1) (decide (((refNn S).1 : Int) > 1048576))) _
          rw [e4]
          exact goodJ0 h1 h2 h3 h4
        · have e4 : decide (((refNn S).1 : Int) > 1048576) = true := decide_eq_true (by omega)
          show Ev (fun k => selvedgeref08_Take.j0 k n ((takeNumL S).1 : Int) ((refNn S).1 : Int) (toB (refNn S).2.1) (decide (((refNn S).1 : Int) > 1048576))) _
          rw [e4, hbad (fun hh => h4 hh.2.2.2.1)]
          exact badJ0
      · rw [hbad (fun hh => h3 hh.2.2.1)]
        exact ev_pos (by omega) badJ0
    · rw [hbad (fun hh => h2 hh.2.1)]
      exact ev_neg h2 badJ0
  · rw [hbad (fun hh => h1 hh.1)]
    exact ev_neg h1 badJ0
theorem takeV_small (s : Bs) (n : Int) : (takeV s n).2.2.1.length < 4611686018427387904 ∧ (∀ b ∈ (takeV s n).2.2.1, b.f2.length < 4611686018427387904) ∧ (takeV s n).2.2.2.1.length < 4611686018427387904 := by
  rcases takeV_ok s n with h | ⟨a, r, bs, ps, x, y, h, hm, _⟩
  · rw [h]; exact ⟨by decide, fun b hb => absurd hb (by simp [badV]), by decide⟩
  · rw [h]; exact mayV_small hm
end Go.Proofs.Ytfhjimeigelibaa.Px

namespace Go.Proofs.Ytfhjimeigelibaa.Pure
open Go.RowKit Go.Proofs.Ytfhjimeigelibaa.Px Go.Proofs.YtfhjimeigelibaaW.PrintWords Go.Proofs.YtfhjimeigelibaaW.PrintLast Go.Proofs.YtfhjimeigelibaaW.PrintMore
theorem VertexTakes : selvedgelaw08_VertexTakes.Pure := by
  intro a0 a1 hs hw
  have hl : a0.size < 4611686018427387904 := by omega
  refine Ev.rounds (ev_bind_const shown08_of (Ev.bind (vertexTake_ev a0 a1 hl) (Ev.bind (refVTake_ev a0 a1 hl) ?_)))
  rw [refV_eq]
  obtain ⟨k1, k2, k3⟩ := takeV_small (ofB a0) a1
  exact Ev.bind (refVertexSame_ev _ _ _ _ _ _ _ _ _ _ _ _ k1 k2 k3) (ev_pos rfl (ev_pos (by simp [vertexEq]) (ev_eq (Ev.now _) (by simp))))
end Go.Proofs.Ytfhjimeigelibaa.Pure

namespace Go.Proofs.Ytfhjimeigelibaa.vertexTakes
open Go.ChangeShapes Go.WideShapes Go.ChangeAt Go.RowKit
open Go.ChangeMaps (open_string shut_string)
set_option linter.unusedVariables false
theorem own : ownKnob Try.prog.godebug = none := by kernel_rfl
set_option maxRecDepth 100000 in
theorem lifted (os : Os) (started : os.Started) (H : Type) (enc : TypeId × Value → H) :
    ReturnsInHanded {} Try.checked os 4 .any (Rows.vertexTakesSpec.pre6 enc Try.prog Try.f4 Rows.vertexTakesRow.domain false) (Rows.vertexTakesSpec.post enc Try.prog Try.f4 false true false false) := by
  refine returnsInHanded_of_change_sized (C := Try.checked) own started (by kernel_rfl) Try.func4
    (ChangeSpec.witness6 (enc := enc) (C := Try.checked) false ⟨#[], #[.string ByteArray.empty, .int .i64 0], []⟩ 8 (by kernel_rfl) (by kernel_rfl) (by kernel_rfl) (by kernel_rfl)) ?_
  intro W base args ds gs before hval0 hW hcnd hsz0 _
  have hsz : (DataW.weightsEach Try.prog (Try.f4.params.toList ++ Rows.vertexTakesSpec.plain.varTypes Try.prog) (ds ++ gs)).all (· ≤ reachBytes) = true := hsz0
  have hval : ∀ (j : Nat) t v, Try.f4.params[j]? = some t → args[j]? = some v → Value.okWide Try.prog W .any base t v := hval0
  have hW' := hW
  obtain ⟨p, q, hA0, hV, rfl, hfz, hnd⟩ := hW
  have hA : DataW.TrodAll enc Try.prog W 0 (fun _ => true) true Try.f4.params.toList args.toList ds p := hA0
  rw [Try.params4] at hA hval hsz
  obtain ⟨v0, vs0, d0, ds0, p0, q0, hargs, rfl, rfl, h0, r0⟩ := trodAll_cons hA
  obtain ⟨v1, vs1, d1, ds1, p1, q1, rfl, rfl, rfl, h1, r1⟩ := trodAll_cons r0
  obtain ⟨rfl, rfl, rfl⟩ := trodAll_nil r1
  obtain rfl : args = #[v0, v1] := by cases args; simp_all
  obtain ⟨rfl, rfl⟩ := trodVars_none hV
  obtain ⟨a0, rfl, rfl, rfl, y0⟩ := open_string Try.underlying9 (hval 0 9 v0 rfl rfl) h0
  have w0 : a0.size ≤ 140737488351232 := by
    have z := sized_string hsz (j := 0) (t := 9) rfl rfl
    rw [Array.length_toList] at z
    exact z
  obtain ⟨a1, rfl, rfl, rfl, w1⟩ := open_int Try.underlying3 (hval 1 3 v1 rfl rfl) h1
  clear hA0 hval0 hsz0 hsz
  refine (Px.selvedgelaw08_VertexTakes.walk Pure.VertexTakes a0 a1 W w0 w1).mono fun e W' ⟨he, bel⟩ => ?_
  subst he
  exact ⟨_, rfl, _, _, _, [], _, [], hW', trodAll_mk1 (shut_bool Try.underlying4 _), (trodAll_cons_mk (shut_string Try.underlying9 y0) (trodAll_cons_mk (shut_int Try.underlying3 w1) trodAll_mk0)), rfl, bel.frame _, fun h => by cases h⟩
theorem over : Rows.vertexTakesRow.holds Try.pinned (OpenSpec.ofChange Rows.vertexTakesSpec) :=
  OpenClaim.holds_of_wide 4 Try.f4 rfl rfl rfl rfl rfl rfl rfl ⟨rfl, rfl, rfl, rfl, rfl⟩ rfl rfl rfl rfl rfl (by kernel_rfl) Try.func4 (by kernel_rfl)
    (of_decide_eq_true (by kernel_rfl)) (by unfold Func.isWrapper; first | (rw [if_pos (by decide +kernel)]; kernel_rfl) | (rw [if_neg (by decide +kernel)]; exact ⟨rfl, rfl⟩))
    (fun os started H enc _ => lifted os started H enc)
theorem proved : Rows.VertexTakesSaid := over
#print axioms proved
end Go.Proofs.Ytfhjimeigelibaa.vertexTakes
namespace Go.Proofs.Ytfhjimeigelibaa
theorem vertexTakes_holds : Rows.VertexTakesSaid := vertexTakes.proved
end Go.Proofs.Ytfhjimeigelibaa
