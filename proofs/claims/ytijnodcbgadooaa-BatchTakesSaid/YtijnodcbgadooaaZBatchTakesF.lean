/- part 6 of the law BatchTakes: the texts of its proof, merged by this session's bundle.py. What is proved: the statement at the end of the last of these texts; its conditions are those of the given row. -/
import Derived.Test.YtijnodcbgadooaaRows
import Derived.WalkKit
import Derived.ProofKit
import Derived.OpenShut
import Derived.ShutString
import Derived.ChangeOld
import Derived.Below
import Derived.SizedLaws
import Derived.Test.YtijnodcbgadooaaZBatchTakesA
import Derived.Test.YtijnodcbgadooaaZBatchTakesB
import Derived.Test.YtijnodcbgadooaaZBatchTakesD
import Derived.Test.YtijnodcbgadooaaZBatchTakesE
-- printed by this session's pprint.py (the kit's print, with this session's plugs) out of the translation; Lean checks it
namespace Go.Proofs.Ytijnodcbgadooaa.Px
open Go.RowKit Go.Proofs.YtijnodcbgadooaaW.PrintWords Go.Proofs.YtijnodcbgadooaaW.PrintLast Go.Proofs.YtijnodcbgadooaaW.PrintMore
attribute [local go_sem] max2_int min2_int max_two min_two max_three min_three max_four min_four   -- for this text's walks alone
set_option linter.unusedVariables false
set_option linter.unusedSimpArgs false

/-! ### words: w15_batchtake.tpl -/

/-! the batch of bytes -/
def takeBatchIf (o q : Int) (e : Bool) (s : Bs) : Int × Int × List ByteArray × Int :=
  if e = true ∧ o ≤ 64 ∧ q ≤ 1073741824 ∧ (takeRowL s 4 48).2.2 = 0 ∧ (takeRowL s 4 48).2.1 = [] ∧ mayB o q (takeRowL s 4 48).1 = true then (o, q, (takeRowL s 4 48).1, 0) else (0, 0, [], 3)
theorem takeBatchIf_pos {o q : Int} {e : Bool} {s : Bs} (h : e = true ∧ o ≤ 64 ∧ q ≤ 1073741824 ∧ (takeRowL s 4 48).2.2 = 0 ∧ (takeRowL s 4 48).2.1 = [] ∧ mayB o q (takeRowL s 4 48).1 = true) : takeBatchIf o q e s = (o, q, (takeRowL s 4 48).1, 0) := if_pos h
theorem takeBatchIf_neg {o q : Int} {e : Bool} {s : Bs} (h : ¬ (e = true ∧ o ≤ 64 ∧ q ≤ 1073741824 ∧ (takeRowL s 4 48).2.2 = 0 ∧ (takeRowL s 4 48).2.1 = [] ∧ mayB o q (takeRowL s 4 48).1 = true)) : takeBatchIf o q e s = (0, 0, [], 3) := if_neg h
def takeBatchL (s : Bs) : Int × Int × List ByteArray × Int :=
  takeBatchIf (takeNumL s).1 (takeNumL (takeNumL s).2.1).1 (decide ((takeNumL s).2.2 = 0 ∧ (takeNumL (takeNumL s).2.1).2.2 = 0)) (takeNumL (takeNumL s).2.1).2.1
theorem toList_nil (s : ByteArray) : s.toList = ([] : List UInt8) ↔ ofB s = [] := by rw [toList_ofB]
theorem batchTake_j0 (s : Bs) (o q : Nat) (e b : Bool) (hs : s.length < 4611686018427387904) (ho : o < 18446744073709551616) (hq : q < 18446744073709551616) (hb : b = true ↔ ¬ (e = true ∧ (o : Int) ≤ 64 ∧ (q : Int) ≤ 1073741824)) :
    Ev (fun k => batch_Take.j0 k (toB s) (o : Int) (q : Int) b) (takeBatchIf o q e s) := by
  refine Ev.step (fun k => by rw [batch_Take.j0]) ?_
  by_cases h : e = true ∧ (o : Int) ≤ 64 ∧ (q : Int) ≤ 1073741824
  · obtain ⟨h1, h2, h3⟩ := h
    refine ev_neg (fun hh => hb.1 hh ⟨h1, h2, h3⟩) (ev_bind_const (digits_TakeRow_of (toB s) 4 48 (by decide) (by decide) (by rw [toB_size]; exact hs) (.inr (by omega))) ?_)
    simp only [takeRowB, ofB_toB]
    rw [wrap64_of (by omega) (by omega), wrap64_of (by omega) (by omega)]
    by_cases h4 : (takeRowL s 4 48).2.2 = 0
    · refine ev_pos h4 ?_
      by_cases h5 : (takeRowL s 4 48).2.1 = []
      · refine ev_pos (by rw [toList_nil, ofB_toB]; exact h5) (ev_bind_const rfl ?_)
        by_cases h6 : mayB o q (takeRowL s 4 48).1 = true
        · rw [takeBatchIf_pos ⟨h1, h2, h3, h4, h5, h6⟩]
          exact ev_pos h6 (Ev.now _)
        · rw [takeBatchIf_neg (fun hh => h6 hh.2.2.2.2.2)]
          exact ev_neg h6 (Ev.now _)
      · rw [takeBatchIf_neg (fun hh => h5 hh.2.2.2.2.1)]
        exact ev_neg (by rw [toList_nil, ofB_toB]; exact h5) (Ev.now _)
    · rw [takeBatchIf_neg (fun hh => h4 hh.2.2.2.1)]
      exact ev_neg h4 (Ev.now _)
  · rw [takeBatchIf_neg (fun hh => h ⟨hh.1, hh.2.1, hh.2.2.1⟩)]
    exact ev_pos (hb.2 h) (Ev.now _)
theorem batchTake_ev (s : ByteArray) (hs : s.size < 4611686018427387904) : Ev (fun k => batch_Take.f k s) (takeBatchL (ofB s)) := by
  have h1 := takeNumL_len (ofB s)
  have h2 := takeNumL_len (takeNumL (ofB s)).2.1
  have h3 := takeNumL_val (ofB s)
  have h4 := takeNumL_val (takeNumL (ofB s)).2.1
  rw [ofB_length] at h1
  have t2 := takeNum_ev (takeNumB s).2.1 (by simp only [takeNumB, toB_size]; omega)
  refine Ev.bind (takeNum_ev s hs) (Ev.bind t2 ?_)
  simp only [takeNumB, ofB_toB]
  have key := fun b => batchTake_j0 (takeNumL (takeNumL (ofB s)).2.1).2.1 (takeNumL (ofB s)).1 (takeNumL (takeNumL (ofB s)).2.1).1 (decide ((takeNumL (ofB s)).2.2 = 0 ∧ (takeNumL (takeNumL (ofB s)).2.1).2.2 = 0)) b (by omega) h3 h4
  by_cases e1 : (takeNumL (ofB s)).2.2 = 0
  · refine ev_pos e1 ?_
    by_cases e2 : (takeNumL (takeNumL (ofB s)).2.1).2.2 = 0
    · refine ev_pos e2 ?_
      by_cases e3 : ((takeNumL (ofB s)).1 : Int) > 64
      · exact ev_pos e3 (key true (by simp [e1, e2]; omega))
      · exact ev_neg e3 (key _ (by simp [e1, e2]; omega))
    · exact ev_neg e2 (key true (by simp [e2]))
  · exact ev_neg e1 (key true (by simp [e1]))
theorem refMay_loop (o q : Int) (l : List ByteArray) (hl : l.length < 4611686018427387904) (d : Nat) : ∀ j, j + d = l.length →
    Ev (fun k => selvedgeref07_May.l0 k (j : Int) o q l) (!(l.drop j).any oddTx) := by
  induction d with
  | zero =>
    intro j hj
    refine Ev.step (fun k => by rw [selvedgeref07_May.l0]) ?_
    refine ev_neg (by omega) (ev_eq (Ev.now _) ?_)
    rw [List.drop_eq_nil_of_le (by omega)]; rfl
  | succ d ih =>
    intro j hj
    have hjl : j < l.length := by omega
    refine Ev.step (fun k => by rw [selvedgeref07_May.l0]) ?_
    refine ev_pos (by omega) (ev_pos (by omega) ?_)
    rw [rdOf_at l j hjl, List.drop_eq_getElem_cons hjl, wrap64_of (by omega) (by omega), List.any_cons]
    by_cases h1 : (l[j].size : Int) < 1
    · refine ev_pos h1 (ev_eq (Ev.now _) ?_)
      have : l[j].size = 0 := by omega
      simp [oddTx, this]
    · refine ev_neg h1 ?_
      by_cases h2 : (l[j].size : Int) > 48
      · refine ev_pos h2 (ev_eq (Ev.now _) ?_)
        have : 48 < l[j].size := by omega
        simp [oddTx, this]
      · refine ev_neg h2 (ev_eq (ih (j + 1) (by omega)) ?_)
        have e1 : oddTx l[j] = false := by
          have : ¬ l[j].size = 0 := by omega
          have h3 : ¬ 48 < l[j].size := by omega
          simp [oddTx, this, h3]
        rw [e1, Bool.false_or]
theorem refMay_ev (o q : Int) (l : List ByteArray) (hl : l.length < 4611686018427387904) : Ev (fun k => selvedgeref07_May.f k o q l) (mayB o q l) := by
  have key : ∀ b : Bool, (b = true ↔ ¬ (1 ≤ o ∧ o ≤ 64 ∧ 1 ≤ q ∧ q ≤ 1073741824 ∧ 1 ≤ l.length ∧ l.length ≤ 4)) → Ev (fun k => selvedgeref07_May.j0 k b o q l) (mayB o q l) := by
    intro b hb
    refine Ev.step (fun k => by rw [selvedgeref07_May.j0]) ?_
    by_cases h : 1 ≤ o ∧ o ≤ 64 ∧ 1 ≤ q ∧ q ≤ 1073741824 ∧ 1 ≤ l.length ∧ l.length ≤ 4
    · refine ev_neg (fun hh => hb.1 hh h) (ev_eq (refMay_loop o q l hl l.length 0 (by omega)) ?_)
      obtain ⟨h1, h2, h3, h4, h5, h6⟩ := h
      simp [mayB, h1, h2, h3, h4, h5, h6]
    · refine ev_pos (hb.2 h) (ev_eq (Ev.now _) ?_)
      symm
      rw [← Bool.not_eq_true, mayB_iff]
      exact fun ⟨h1, h2, h3, h4, h5, h6, _⟩ => h ⟨h1, h2, h3, h4, h5, h6⟩
  by_cases h1 : o < 1
  · exact ev_pos h1 (key true (by simp; omega))
  refine ev_neg h1 ?_
  by_cases h2 : o > 64
  · exact ev_pos h2 (key true (by simp; omega))
  refine ev_neg h2 ?_
  by_cases h3 : q < 1
  · exact ev_pos h3 (key true (by simp; omega))
  refine ev_neg h3 ?_
  by_cases h4 : q > 1073741824
  · exact ev_pos h4 (key true (by simp; omega))
  refine ev_neg h4 ?_
  by_cases h5 : (l.length : Int) < 1
  · exact ev_pos h5 (key true (by simp; omega))
  exact ev_neg h5 (key _ (by simp; omega))
theorem takeRowL_fail {s : Bs} {many most : Int} (h : ¬ (takeRowL s many most).2.2 = 0) : (takeRowL s many most).1.length < 4611686018427387904 := by
  have key : ∀ (n : Nat) (s : Bs) (acc : List ByteArray), (takeTexts most n s acc).2.2 ≠ 0 → (takeTexts most n s acc).1 = [] := by
    intro n
    induction n with
    | zero => intro s acc hh; exact absurd rfl hh
    | succ n ih =>
      intro s acc hh
      rw [takeTexts] at hh ⊢
      split
      · rename_i h0; rw [if_pos h0] at hh; exact ih _ _ hh
      · rfl
  unfold takeRowL takeRowIf at h ⊢
  split
  · rename_i h0
    rw [if_pos h0] at h
    split
    · simp
    · rename_i h1
      rw [if_neg h1] at h
      rw [key _ _ _ h]; simp
  · simp
theorem takeRowL_len (s : Bs) (many most : Int) (hm : many < 4611686018427387904) : (takeRowL s many most).1.length < 4611686018427387904 := by
  by_cases h : (takeRowL s many most).2.2 = 0
  · rcases hq : takeRowL s many most with ⟨l, r, e⟩
    rw [hq] at h
    simp only at h
    subst h
    obtain ⟨_, h2, _⟩ := takeRowL_ok hq
    simp only; omega
  · exact takeRowL_fail h
theorem refBatchTake_ev (s : ByteArray) (hs : s.size < 4611686018427387904) : Ev (fun k => selvedgeref07_Take.f k s) (takeBatchL (ofB s)) := by
  have h1 := takeNumL_len (ofB s)
  have h2 := takeNumL_len (takeNumL (ofB s)).2.1
  have h3 := takeNumL_val (ofB s)
  have h4 := takeNumL_val (takeNumL (ofB s)).2.1
  rw [ofB_length] at h1
  have t2 := refTakeNum_ev (toB (takeNumL (ofB s)).2.1) (by simp only [toB_size]; omega)
  refine Ev.bind (refTakeNum_ev s hs) ?_
  simp only [takeNumB, ofB_toB] at t2 ⊢
  have key1 : ∀ b : Bool, (b = true ↔ ¬ ((takeNumL (takeNumL (ofB s)).2.1).2.2 = 0 ∧ ((takeNumL (takeNumL (ofB s)).2.1).1 : Int) ≤ 1073741824)) → (takeNumL (ofB s)).2.2 = 0 → ((takeNumL (ofB s)).1 : Int) ≤ 64 →
      Ev (fun k => selvedgeref07_Take.j1 k ((takeNumL (ofB s)).1 : Int) ((takeNumL (takeNumL (ofB s)).2.1).1 : Int) (toB (takeNumL (takeNumL (ofB s)).2.1).2.1) b) (takeBatchL (ofB s)) := by
    intro b hb e1 e0
    refine Ev.step (fun k => by rw [selvedgeref07_Take.j1]) ?_
    rw [takeBatchL]
    by_cases h : (takeNumL (takeNumL (ofB s)).2.1).2.2 = 0 ∧ ((takeNumL (takeNumL (ofB s)).2.1).1 : Int) ≤ 1073741824
    · obtain ⟨h5, h6⟩ := h
      refine ev_neg (fun hh => hb.1 hh ⟨h5, h6⟩) (Ev.bind (refTakeRow_ev (toB (takeNumL (takeNumL (ofB s)).2.1).2.1) 4 48 (by decide) (by decide) (by rw [toB_size]; omega) (.inr (by omega))) ?_)
      simp only [takeRowB, ofB_toB]
      rw [wrap64_of (by omega) (by omega), wrap64_of (by omega) (by omega)]
      refine Ev.bind (refMay_ev _ _ _ (takeRowL_len _ _ _ (by omega))) ?_
      by_cases h7 : (takeRowL (takeNumL (takeNumL (ofB s)).2.1).2.1 4 48).2.2 = 0
      · refine ev_pos h7 ?_
        by_cases h8 : (takeRowL (takeNumL (takeNumL (ofB s)).2.1).2.1 4 48).2.1 = []
        · refine ev_neg (by rw [h8, toB_size]; simp) ?_
          by_cases h9 : mayB (takeNumL (ofB s)).1 (takeNumL (takeNumL (ofB s)).2.1).1 (takeRowL (takeNumL (takeNumL (ofB s)).2.1).2.1 4 48).1 = true
          · rw [takeBatchIf_pos ⟨by simp [e1, h5], e0, h6, h7, h8, h9⟩]
            exact ev_pos h9 (Ev.now _)
          · rw [takeBatchIf_neg (fun hh => h9 hh.2.2.2.2.2)]
            exact ev_neg h9 (Ev.now _)
        · rw [takeBatchIf_neg (fun hh => h8 hh.2.2.2.2.1)]
          refine ev_pos ?_ (Ev.now _)
          rw [toB_size]
          have : (takeRowL (takeNumL (takeNumL (ofB s)).2.1).2.1 4 48).2.1.length ≠ 0 := fun hh => h8 (List.eq_nil_of_length_eq_zero hh)
          omega
      · rw [takeBatchIf_neg (fun hh => h7 hh.2.2.2.1)]
        exact ev_neg h7 (Ev.now _)
    · rw [takeBatchIf_neg (fun hh => h ⟨(of_decide_eq_true hh.1).2, hh.2.2.1⟩)]
      exact ev_pos (hb.2 h) (Ev.now _)
  have key0 : ∀ b : Bool, (b = true ↔ ¬ ((takeNumL (ofB s)).2.2 = 0 ∧ ((takeNumL (ofB s)).1 : Int) ≤ 64)) → Ev (fun k => selvedgeref07_Take.j0 k ((takeNumL (ofB s)).1 : Int) (toB (takeNumL (ofB s)).2.1) b) (takeBatchL (ofB s)) := by
    intro b hb
    refine Ev.step (fun k => by rw [selvedgeref07_Take.j0]) ?_
    by_cases h : (takeNumL (ofB s)).2.2 = 0 ∧ ((takeNumL (ofB s)).1 : Int) ≤ 64
    · obtain ⟨e1, e0⟩ := h
      refine ev_neg (fun hh => hb.1 hh ⟨e1, e0⟩) (Ev.bind t2 ?_)
      by_cases e2 : (takeNumL (takeNumL (ofB s)).2.1).2.2 = 0
      · exact ev_pos e2 (key1 _ (by simp [e2]) e1 e0)
      · exact ev_neg e2 (key1 true (by simp [e2]) e1 e0)
    · rw [takeBatchL, takeBatchIf_neg (fun hh => h ⟨(of_decide_eq_true hh.1).1, hh.2.1⟩)]
      exact ev_pos (hb.2 h) (Ev.now _)
  by_cases e1 : (takeNumL (ofB s)).2.2 = 0
  · exact ev_pos e1 (key0 _ (by simp [e1]))
  · exact ev_neg e1 (key0 true (by simp [e1]))
theorem takeBatchL_err (s : Bs) : (takeBatchL s).2.2.2 = 0 ∨ takeBatchL s = (0, 0, [], 3) := by
  unfold takeBatchL takeBatchIf
  split
  · exact .inl rfl
  · exact .inr rfl
theorem takeBatchL_len (s : Bs) : (takeBatchL s).2.2.1.length < 4611686018427387904 := by
  unfold takeBatchL takeBatchIf
  split
  · exact takeRowL_len _ _ _ (by omega)
  · simp
theorem takeBatchL_ok {s : Bs} {o q : Int} {l : List ByteArray} (h : takeBatchL s = (o, q, l, 0)) : s = batchL o q l ∧ mayB o q l = true := by
  unfold takeBatchL takeBatchIf at h
  split at h
  · rename_i hc
    obtain ⟨h1, h2, h3, h4, h5, h6⟩ := hc
    obtain ⟨h7, h8⟩ := of_decide_eq_true h1
    simp only [Prod.mk.injEq, and_true] at h
    obtain ⟨rfl, rfl, rfl⟩ := h
    refine ⟨?_, h6⟩
    rcases hq : takeNumL s with ⟨v, r, e⟩
    rw [hq] at h4 h5 h7 h8
    simp only at h4 h5 h7 h8 ⊢
    subst h7
    obtain ⟨rfl, _⟩ := takeNumL_ok hq
    rcases hq2 : takeNumL r with ⟨v2, r2, e2⟩
    rw [hq2] at h4 h5 h8
    simp only at h4 h5 h8 ⊢
    subst h8
    obtain ⟨rfl, _⟩ := takeNumL_ok hq2
    rcases hq3 : takeRowL r2 4 48 with ⟨l, r3, e3⟩
    rw [hq3] at h4 h5
    simp only at h4 h5 ⊢
    subst h4 h5
    obtain ⟨h9, _⟩ := takeRowL_ok hq3
    rw [List.append_nil] at h9
    rw [batchL, ← h9, Int.toNat_natCast, Int.toNat_natCast, List.append_assoc]
  · simp at h
theorem takeBatchL_batch {o q : Int} {l : List ByteArray} (h : mayB o q l = true) : takeBatchL (batchL o q l) = (o, q, l, 0) := by
  obtain ⟨h1, h2, h3, h4, h5, h6, h7⟩ := (mayB_iff o q l).1 h
  obtain ⟨a, rfl⟩ := Int.eq_ofNat_of_zero_le (show 0 ≤ o by omega)
  obtain ⟨b, rfl⟩ := Int.eq_ofNat_of_zero_le (show 0 ≤ q by omega)
  have e1 : takeNumL (batchL a b l) = (a, numL b ++ rowL l, 0) := by
    rw [batchL, Int.toNat_natCast, Int.toNat_natCast, List.append_assoc]
    exact takeNumL_num (by omega) _
  have e2 : takeNumL (numL b ++ rowL l) = (b, rowL l, 0) := takeNumL_num (by omega) _
  have e3 : takeRowL (rowL l) 4 48 = (l, [], 0) := by
    have := takeRowL_row (l := l) (many := 4) (most := 48) (by omega) (by omega) (fun t ht => by have := h7 t ht; omega) []
    rwa [List.append_nil] at this
  rw [takeBatchL, e1]
  simp only
  rw [e2]
  simp only
  rw [takeBatchIf_pos (by rw [e3]; exact ⟨by simp, h2, h4, rfl, rfl, h⟩), e3]


end Go.Proofs.Ytijnodcbgadooaa.Px

/- BatchTakes as a statement without Go: the program and the reference take the same batch, or the same error, from every bytes. -/
namespace Go.Proofs.Ytijnodcbgadooaa.Pure
open Go.RowKit Go.Proofs.Ytijnodcbgadooaa.Px Go.Proofs.YtijnodcbgadooaaW.PrintWords Go.Proofs.YtijnodcbgadooaaW.PrintLast Go.Proofs.YtijnodcbgadooaaW.PrintMore

theorem BatchTakes : selvedgelaw07_BatchTakes.Pure := by
  intro a0 hs
  refine Ev.rounds (ev_bind_const shown07_of (Ev.bind (batchTake_ev a0 (by omega)) (Ev.bind (refBatchTake_ev a0 (by omega)) ?_)))
  refine Ev.bind (refBatchSame_ev _ _ _ _ _ _ (takeBatchL_len _)) (ev_pos rfl (ev_pos (by simp [batchEq]) (ev_eq (Ev.now _) (by simp))))

end Go.Proofs.Ytijnodcbgadooaa.Pure

-- printed by this session's pprint.py (the kit's print, with this session's plugs) out of the translation; Lean checks it
namespace Go.Proofs.Ytijnodcbgadooaa.batchTakes
open Go.ChangeShapes Go.WideShapes Go.ChangeAt Go.RowKit
open Go.ChangeMaps (open_string shut_string)
set_option linter.unusedVariables false
theorem own : ownKnob Try.prog.godebug = none := by kernel_rfl
set_option maxRecDepth 100000 in
theorem lifted (os : Os) (started : os.Started) (H : Type) (enc : TypeId × Value → H) :
    ReturnsInHanded {} Try.checked os 16 .any (Rows.batchTakesSpec.pre6 enc Try.prog Try.f16 Rows.batchTakesRow.domain false) (Rows.batchTakesSpec.post enc Try.prog Try.f16 false true false false) := by
  refine returnsInHanded_of_change_sized (C := Try.checked) own started (by kernel_rfl) Try.func16
    (ChangeSpec.witness6 (enc := enc) (C := Try.checked) false ⟨#[], #[.string ByteArray.empty], []⟩ 8 (by kernel_rfl) (by kernel_rfl) (by kernel_rfl) (by kernel_rfl)) ?_
  intro W base args ds gs before hval0 hW hcnd hsz0 _
  have hsz : (DataW.weightsEach Try.prog (Try.f16.params.toList ++ Rows.batchTakesSpec.plain.varTypes Try.prog) (ds ++ gs)).all (· ≤ reachBytes) = true := hsz0
  have hval : ∀ (j : Nat) t v, Try.f16.params[j]? = some t → args[j]? = some v → Value.okWide Try.prog W .any base t v := hval0
  have hW' := hW
  obtain ⟨p, q, hA0, hV, rfl, hfz, hnd⟩ := hW
  have hA : DataW.TrodAll enc Try.prog W 0 (fun _ => true) true Try.f16.params.toList args.toList ds p := hA0
  rw [Try.params16] at hA hval hsz
  obtain ⟨v0, vs0, d0, ds0, p0, q0, hargs, rfl, rfl, h0, r0⟩ := trodAll_cons hA
  obtain ⟨rfl, rfl, rfl⟩ := trodAll_nil r0
  obtain rfl : args = #[v0] := by cases args; simp_all
  obtain ⟨rfl, rfl⟩ := trodVars_none hV
  obtain ⟨a0, rfl, rfl, rfl, y0⟩ := open_string Try.underlying9 (hval 0 9 v0 rfl rfl) h0
  have w0 : a0.size ≤ 140737488351232 := by
    have z := sized_string hsz (j := 0) (t := 9) rfl rfl
    rw [Array.length_toList] at z
    exact z
  clear hA0 hval0 hsz0 hsz
  refine (Px.selvedgelaw07_BatchTakes.walk Pure.BatchTakes a0 W w0).mono fun e W' ⟨he, bel⟩ => ?_
  subst he
  exact ⟨_, rfl, _, _, _, [], _, [], hW', trodAll_mk1 (shut_bool Try.underlying4 _), (trodAll_cons_mk (shut_string Try.underlying9 y0) trodAll_mk0), rfl, bel.frame _, fun h => by cases h⟩
theorem over : Rows.batchTakesRow.holds Try.pinned (OpenSpec.ofChange Rows.batchTakesSpec) :=
  OpenClaim.holds_of_wide 16 Try.f16 rfl rfl rfl rfl rfl rfl rfl ⟨rfl, rfl, rfl, rfl, rfl⟩ rfl rfl rfl rfl rfl (by kernel_rfl) Try.func16 (by kernel_rfl)
    (of_decide_eq_true (by kernel_rfl)) (by unfold Func.isWrapper; first | (rw [if_pos (by decide +kernel)]; kernel_rfl) | (rw [if_neg (by decide +kernel)]; exact ⟨rfl, rfl⟩))
    (fun os started H enc _ => lifted os started H enc)
theorem proved : Rows.BatchTakesSaid := over
#print axioms proved
end Go.Proofs.Ytijnodcbgadooaa.batchTakes
namespace Go.Proofs.Ytijnodcbgadooaa
/-- The row, under a short name, for the claim. -/
theorem batchTakes_holds : Rows.BatchTakesSaid := batchTakes.proved
end Go.Proofs.Ytijnodcbgadooaa
