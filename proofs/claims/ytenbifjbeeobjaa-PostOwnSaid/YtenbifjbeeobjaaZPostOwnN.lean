/- part 14 of the proof of the law PostOwn: texts merged by this session's bundle.py. What is proved: the statement at the end of the last of these texts; its conditions are those of the given row. -/
import Derived.Test.YtenbifjbeeobjaaZPostOwnD
import Derived.Test.YtenbifjbeeobjaaZPostOwnE
import Derived.Test.YtenbifjbeeobjaaZPostOwnF
import Derived.Test.YtenbifjbeeobjaaZPostOwnG
import Derived.Test.YtenbifjbeeobjaaZPostOwnH
import Derived.Test.YtenbifjbeeobjaaZPostOwnI
import Derived.Test.YtenbifjbeeobjaaZPostOwnJ
import Derived.Test.YtenbifjbeeobjaaZPostOwnK
import Derived.Test.YtenbifjbeeobjaaZPostOwnL
import Derived.Test.YtenbifjbeeobjaaZPostOwnM
namespace Go.Proofs.Ytenbifjbeeobjaa.Px
open Go.RowKit Go.Proofs.YtenbifjbeeobjaaW.PrintWords Go.Proofs.YtenbifjbeeobjaaW.PrintLast Go.Proofs.YtenbifjbeeobjaaW.PrintMore
attribute [local go_sem] max2_int min2_int max_two min_two max_three min_three max_four min_four
set_option linter.unusedVariables false
set_option linter.unusedSimpArgs false
def bB (b : S101) : ByteArray := if mayB b.f0 b.f1 b.f2 = true then toB (batchL b.f0 b.f1 b.f2) else (⟨#[]⟩ : ByteArray)
theorem vertex_each1.one (b : S101) (A : Option Addr) (c : Nat) (w : World) (hr : Kd.C Kd.string w A b.f2.length b.f2) (hc : b.f2.length ≤ c) :
    Calls Try.prog 72 #[.agg #[.int .i64 b.f0, .int .i64 b.f1, .slice A b.f2.length c]] w fun e w' => e = .returned (.string (bB b)) ∧ Below w.heap.size w w' := by
  obtain ⟨e, he⟩ : ∃ e, batch_Bytes.f b.f0 b.f1 b.f2 = some (bB b, e) := by
    rw [batch_Bytes_of, bB]
    split
    · exact ⟨_, rfl⟩
    · exact ⟨_, rfl⟩
  have HE := Aside0.mk he
  have HR := Aside0.mk hr
  have HC := Aside0.mk hc
  clear he hr hc
  generalize bB b = s at *
  obtain ⟨b0, b1, b2⟩ := b
  go_enter Try.func72, Try.ntmps72
  go_wp2_with (first
    | ((with_reducible refine gate_dst (N := 1) rfl ?_); refine box_event ?hg (N := 1) ?hd (cs := #[.int .i64 b0, .int .i64 b1, .slice A b2.length c]) (t := 101) ?hr ?_; (case hd => rfl); (case hg => rfl); (case hr => first | (go_simp; done) | (go_simp; rfl)); intro gb hg w2 hbox hb; have BK := Aside0.mk hbox; have HB := Aside0.mk hb; clear hb hbox hg; have hz0 := (blk_cell BK.out 0).trans rfl; have hz1 := (blk_cell BK.out 1).trans rfl; have hz2 := (blk_cell BK.out 2).trans rfl; have hf0 := blk_frozen BK.out 0; have hf1 := blk_frozen BK.out 1; have hf2 := blk_frozen BK.out 2)
    | (go_at_call 73; (with_reducible refine (batch_Bytes.calls b0 b1 _ _ b2 _ _ _ (Kd.C_below HR.out HB.out) HC.out HE.out).mono ?_); rintro e w3 ⟨rfl, hb⟩; have HB3 := Aside0.mk (below_step HB.out hb); clear hb))
  go_ret
  exact ⟨rfl, HB3.out⟩
end Go.Proofs.Ytenbifjbeeobjaa.Px

namespace Go.Proofs.Ytenbifjbeeobjaa.Px
open Go.RowKit Go.Proofs.YtenbifjbeeobjaaW.PrintWords Go.Proofs.YtenbifjbeeobjaaW.PrintLast Go.Proofs.YtenbifjbeeobjaaW.PrintMore
attribute [local go_sem] max2_int min2_int max_two min_two max_three min_three max_four min_four
set_option linter.unusedVariables false
set_option linter.unusedSimpArgs false
end Go.Proofs.Ytenbifjbeeobjaa.Px

namespace Go.Proofs.Ytenbifjbeeobjaa.Px
open Go.RowKit Go.Proofs.YtenbifjbeeobjaaW.PrintWords Go.Proofs.YtenbifjbeeobjaaW.PrintLast Go.Proofs.YtenbifjbeeobjaaW.PrintMore
attribute [local go_sem] max2_int min2_int max_two min_two max_three min_three max_four min_four
set_option linter.unusedVariables false
set_option linter.unusedSimpArgs false
def takeRowB (s : ByteArray) (many most : Int) : List ByteArray × ByteArray × Int := ((takeRowL (ofB s) many most).1, toB (takeRowL (ofB s) many most).2.1, (takeRowL (ofB s) many most).2.2)
theorem digits_TakeRow_of (s : ByteArray) (many most : Int) (h1 : (Lit.int .i64 many).wf = true) (h2 : (Lit.int .i64 most).wf = true) (h3 : s.size < 4611686018427387904) (h4 : s.size ≤ 8796093022207 ∨ many ≤ 8796093022207) : digits_TakeRow.f s many most = some (takeRowB s many most) := by
  unfold digits_TakeRow.f
  rw [if_pos ⟨h1, h2, h3, h4⟩]; rfl
theorem takeTextL_ok {s t r : Bs} {most : Int} (h : takeTextL s most = (t, r, 0)) : s = textL t ++ r ∧ (t.length : Int) ≤ most ∧ t.length < 18446744073709551616 := by
  unfold takeTextL takeTextIf at h
  split at h
  · rename_i h0
    rcases hq : takeNumL s with ⟨v, q, e⟩
    rw [hq] at h h0
    simp only at h0 h
    subst h0
    obtain ⟨rfl, hv⟩ := takeNumL_ok hq
    unfold takeTextOf at h
    split at h
    · cases h
    · rename_i h1
      split at h
      · cases h
      · rename_i h2
        simp only [Prod.mk.injEq, and_true] at h
        obtain ⟨rfl, rfl⟩ := h
        have hl : (List.take v q).length = v := by rw [List.length_take]; omega
        refine ⟨?_, by rw [hl]; omega, by rw [hl]; exact hv⟩
        rw [textL, hl, List.append_assoc, List.take_append_drop]
  · rename_i h0
    simp only [Prod.mk.injEq] at h
    exact absurd h.2.2 h0
theorem takeTexts_ok (most : Int) : ∀ (n : Nat) (s : Bs) (acc l : List ByteArray) (r : Bs), takeTexts most n s acc = (l, r, 0) → ∃ l', l = acc ++ l' ∧ l'.length = n ∧ s = rowOf l' ++ r ∧ ∀ t ∈ l', (t.size : Int) ≤ most ∧ t.size < 18446744073709551616
  | 0, s, acc, l, r, h => by
    simp only [takeTexts, Prod.mk.injEq, and_true] at h
    obtain ⟨rfl, rfl⟩ := h
    exact ⟨[], by simp, rfl, by simp [rowOf], by simp⟩
  | n + 1, s, acc, l, r, h => by
    rw [takeTexts] at h
    split at h
    · rename_i h0
      obtain ⟨l', rfl, h2, h3, h4⟩ := takeTexts_ok most n _ _ _ _ h
      rcases hq : takeTextL s most with ⟨t, q, e⟩
      rw [hq] at h0 h3
      simp only at h0 h3
      subst h0
      obtain ⟨h5, h6, h7⟩ := takeTextL_ok hq
      refine ⟨toB t :: l', by simp, by simp [h2], ?_, ?_⟩
      · rw [h5, h3]
        have e : rowOf (toB t :: l') = textL (ofB (toB t)) ++ rowOf l' := rfl
        rw [e, ofB_toB, List.append_assoc]
      · intro x hx
        rcases List.mem_cons.1 hx with rfl | hx
        · rw [toB_size]; exact ⟨h6, h7⟩
        · exact h4 x hx
    · rename_i h0
      simp only [Prod.mk.injEq] at h
      exact absurd h.2.2 h0
theorem takeRowL_ok {s r : Bs} {l : List ByteArray} {many most : Int} (h : takeRowL s many most = (l, r, 0)) : s = rowL l ++ r ∧ (l.length : Int) ≤ many ∧ l.length < 18446744073709551616 ∧ ∀ t ∈ l, (t.size : Int) ≤ most ∧ t.size < 18446744073709551616 := by
  unfold takeRowL takeRowIf at h
  split at h
  · rename_i h0
    rcases hq : takeNumL s with ⟨v, q, e⟩
    rw [hq] at h h0
    simp only at h0 h
    subst h0
    obtain ⟨rfl, hv⟩ := takeNumL_ok hq
    split at h
    · cases h
    · rename_i h1
      obtain ⟨l', hl', h2, h3, h4⟩ := takeTexts_ok most v q [] l r h
      rw [List.nil_append] at hl'
      subst hl'
      refine ⟨?_, by omega, by omega, h4⟩
      rw [rowL, h2, h3, List.append_assoc]
  · rename_i h0
    simp only [Prod.mk.injEq] at h
    exact absurd h.2.2 h0
end Go.Proofs.Ytenbifjbeeobjaa.Px

namespace Go.Proofs.Ytenbifjbeeobjaa.Px
open Go.RowKit Go.Proofs.YtenbifjbeeobjaaW.PrintWords Go.Proofs.YtenbifjbeeobjaaW.PrintLast Go.Proofs.YtenbifjbeeobjaaW.PrintMore
attribute [local go_sem] max2_int min2_int max_two min_two max_three min_three max_four min_four
set_option linter.unusedVariables false
set_option linter.unusedSimpArgs false
end Go.Proofs.Ytenbifjbeeobjaa.Px

namespace Go.Proofs.Ytenbifjbeeobjaa.Px
open Go.RowKit Go.Proofs.YtenbifjbeeobjaaW.PrintWords Go.Proofs.YtenbifjbeeobjaaW.PrintLast Go.Proofs.YtenbifjbeeobjaaW.PrintMore
attribute [local go_sem] max2_int min2_int max_two min_two max_three min_three max_four min_four
set_option linter.unusedVariables false
set_option linter.unusedSimpArgs false
end Go.Proofs.Ytenbifjbeeobjaa.Px

namespace Go.Proofs.Ytenbifjbeeobjaa.Px
open Go.RowKit Go.Proofs.YtenbifjbeeobjaaW.PrintWords Go.Proofs.YtenbifjbeeobjaaW.PrintLast Go.Proofs.YtenbifjbeeobjaaW.PrintMore
attribute [local go_sem] max2_int min2_int max_two min_two max_three min_three max_four min_four
set_option linter.unusedVariables false
set_option linter.unusedSimpArgs false
def takeBatchIf (o q : Int) (e : Bool) (s : Bs) : Int × Int × List ByteArray × Int :=
  if e = true ∧ o ≤ 64 ∧ q ≤ 1073741824 ∧ (takeRowL s 4 48).2.2 = 0 ∧ (takeRowL s 4 48).2.1 = [] ∧ mayB o q (takeRowL s 4 48).1 = true then (o, q, (takeRowL s 4 48).1, 0) else (0, 0, [], 3)
theorem takeBatchIf_pos {o q : Int} {e : Bool} {s : Bs} (h : e = true ∧ o ≤ 64 ∧ q ≤ 1073741824 ∧ (takeRowL s 4 48).2.2 = 0 ∧ (takeRowL s 4 48).2.1 = [] ∧ mayB o q (takeRowL s 4 48).1 = true) : takeBatchIf o q e s = (o, q, (takeRowL s 4 48).1, 0) := if_pos h
theorem takeBatchIf_neg {o q : Int} {e : Bool} {s : Bs} (h : ¬ (e = true ∧ o ≤ 64 ∧ q ≤ 1073741824 ∧ (takeRowL s 4 48).2.2 = 0 ∧ (takeRowL s 4 48).2.1 = [] ∧ mayB o q (takeRowL s 4 48).1 = true)) : takeBatchIf o q e s = (0, 0, [], 3) := if_neg h
def takeBatchL (s : Bs) : Int × Int × List ByteArray × Int :=
  takeBatchIf (takeNumL s).1 (takeNumL (takeNumL s).2.1).1 (decide ((takeNumL s).2.2 = 0 ∧ (takeNumL (takeNumL s).2.1).2.2 = 0)) (takeNumL (takeNumL s).2.1).2.1
theorem toList_nil (s : ByteArray) : s.toList = ([] : List UInt8) ↔ ofB s = [] := by rw [toList_ofB]
theorem batchTake_j0 (s : Bs) (o q : Nat) (e b : Bool) (hs : s.length < 4611686018427387904) (ho : o < 18446744073709551616) (hq : q < 18446744073709551616) (hb : b = true ↔ ¬ (e = true ∧ (o : Int) ≤ 64 ∧ (q : Int) ≤ 1073741824)) :
    Ev (fun k => batch_Take.j0 k (toB s) (o : Int) (q : Int) b) (takeBatchIf o q e s) := by
  refine Ev.step (fun k => by rw [batch_Take.j0]) ?_
  by_cases h : e = true ∧ (o : Int) ≤ 64 ∧ (q : Int) ≤ 1073741824
  · obtain ⟨h1, h2, h3⟩ := h
    refine ev_neg (fun hh => hb.1 hh ⟨h1, h2, h3⟩) (ev_bind_const (digits_TakeRow_of (toB s) 4 48 (by decide) (by decide) (by rw [toB_size]; exact hs) (.inr (by omega))) ?_)
    simp only [takeRowB, ofB_toB]
    rw [wrap64_of (by omega) (by omega), wrap64_of (by omega) (by omega)]
    by_cases h4 : (takeRowL s 4 48).2.2 = 0
    · refine ev_pos h4 ?_
      by_cases h5 : (takeRowL s 4 48).2.1 = []
      · refine ev_pos (by rw [toList_nil, ofB_toB]; exact h5) (ev_bind_const rfl ?_)
        by_cases h6 : mayB o q (takeRowL s 4 48).1 = true
        · rw [takeBatchIf_pos ⟨h1, h2, h3, h4, h5, h6⟩]
          exact ev_pos h6 (Ev.now _)
        · rw [takeBatchIf_neg (fun hh => h6 hh.2.2.2.2.2)]
          exact ev_neg h6 (Ev.now _)
      · rw [takeBatchIf_neg (fun hh => h5 hh.2.2.2.2.1)]
        exact ev_neg (by rw [toList_nil, ofB_toB]; exact h5) (Ev.now _)
    · rw [takeBatchIf_neg (fun hh => h4 hh.2.2.2.1)]
      exact ev_neg h4 (Ev.now _)
  · rw [takeBatchIf_neg (fun hh => h ⟨hh.1, hh.2.1, hh.2.2.1⟩)]
    exact ev_pos (hb.2 h) (Ev.now _)
theorem batchTake_ev (s : ByteArray) (hs : s.size < 4611686018427387904) : Ev (fun k => batch_Take.f k s) (takeBatchL (ofB s)) := by
  have h1 := takeNumL_len (ofB s)
  have h2 := takeNumL_len (takeNumL (ofB s)).2.1
  have h3 := takeNumL_val (ofB s)
  have h4 := takeNumL_val (takeNumL (ofB s)).2.1
  rw [ofB_length] at h1
  have t2 := takeNum_ev (takeNumB s).2.1 (by simp only [takeNumB, toB_size]; omega)
  refine Ev.bind (takeNum_ev s hs) (Ev.bind t2 ?_)
  simp only [takeNumB, ofB_toB]
  have key := fun b => batchTake_j0 (takeNumL (takeNumL (ofB s)).2.1).2.1 (takeNumL (ofB s)).1 (takeNumL (takeNumL (ofB s)).2.1).1 (decide ((takeNumL (ofB s)).2.2 = 0 ∧ (takeNumL (takeNumL (ofB s)).2.1).2.2 = 0)) b (by omega) h3 h4
  by_cases e1 : (takeNumL (ofB s)).2.2 = 0
  · refine ev_pos e1 ?_
    by_cases e2 : (takeNumL (takeNumL (ofB s)).2.1).2.2 = 0
    · refine ev_pos e2 ?_
      by_cases e3 : ((takeNumL (ofB s)).1 : Int) > 64
      · exact ev_pos e3 (key true (by simp [e1, e2]; omega))
      · exact ev_neg e3 (key _ (by simp [e1, e2]; omega))
    · exact ev_neg e2 (key true (by simp [e2]))
  · exact ev_neg e1 (key true (by simp [e1]))
theorem takeBatchL_ok {s : Bs} {o q : Int} {l : List ByteArray} (h : takeBatchL s = (o, q, l, 0)) : s = batchL o q l ∧ mayB o q l = true := by
  unfold takeBatchL takeBatchIf at h
  split at h
  · rename_i hc
    obtain ⟨h1, h2, h3, h4, h5, h6⟩ := hc
    obtain ⟨h7, h8⟩ := of_decide_eq_true h1
    simp only [Prod.mk.injEq, and_true] at h
    obtain ⟨rfl, rfl, rfl⟩ := h
    refine ⟨?_, h6⟩
    rcases hq : takeNumL s with ⟨v, r, e⟩
    rw [hq] at h4 h5 h7 h8
    simp only at h4 h5 h7 h8 ⊢
    subst h7
    obtain ⟨rfl, _⟩ := takeNumL_ok hq
    rcases hq2 : takeNumL r with ⟨v2, r2, e2⟩
    rw [hq2] at h4 h5 h8
    simp only at h4 h5 h8 ⊢
    subst h8
    obtain ⟨rfl, _⟩ := takeNumL_ok hq2
    rcases hq3 : takeRowL r2 4 48 with ⟨l, r3, e3⟩
    rw [hq3] at h4 h5
    simp only at h4 h5 ⊢
    subst h4 h5
    obtain ⟨h9, _⟩ := takeRowL_ok hq3
    rw [List.append_nil] at h9
    rw [batchL, ← h9, Int.toNat_natCast, Int.toNat_natCast, List.append_assoc]
  · simp at h
end Go.Proofs.Ytenbifjbeeobjaa.Px

namespace Go.Proofs.Ytenbifjbeeobjaa.Px
open Go.RowKit Go.Proofs.YtenbifjbeeobjaaW.PrintWords Go.Proofs.YtenbifjbeeobjaaW.PrintLast Go.Proofs.YtenbifjbeeobjaaW.PrintMore
attribute [local go_sem] max2_int min2_int max_two min_two max_three min_three max_four min_four
set_option linter.unusedVariables false
set_option linter.unusedSimpArgs false
def selvedgeref07_SameAll.B6 : List Nat := [0, 0, 3, 7, 0, 0, 48, 112, 255, 511]
end Go.Proofs.Ytenbifjbeeobjaa.Px

namespace Go.Proofs.Ytenbifjbeeobjaa.Px
open Go.RowKit Go.Proofs.YtenbifjbeeobjaaW.PrintWords Go.Proofs.YtenbifjbeeobjaaW.PrintLast Go.Proofs.YtenbifjbeeobjaaW.PrintMore
attribute [local go_sem] max2_int min2_int max_two min_two max_three min_three max_four min_four
set_option linter.unusedVariables false
set_option linter.unusedSimpArgs false
theorem eqA26 (d : Nat) (w : World) (x0 y0 : Int) (x1 y1 : Int) :
    (Op.equalIn (d + 2) 26 (.agg #[.int .i64 x0, .int .i64 x1]) (.agg #[.int .i64 y0, .int .i64 y1])).run Try.prog w = .ok (x0 == y0 && (x1 == y1)) w := by
  refine eqA_of Try.underlying26 (by kernel_rfl) ?_
  refine eqf_cons (by rfl) (by go_simp; rfl) (by go_simp; rfl) (by go_simp) ?_
  exact eqf_last (by rfl) (by go_simp; rfl) (by go_simp; rfl) (by go_simp)
end Go.Proofs.Ytenbifjbeeobjaa.Px

namespace Go.Proofs.Ytenbifjbeeobjaa.Px
open Go.RowKit Go.Proofs.YtenbifjbeeobjaaW.PrintWords Go.Proofs.YtenbifjbeeobjaaW.PrintLast Go.Proofs.YtenbifjbeeobjaaW.PrintMore
attribute [local go_sem] max2_int min2_int max_two min_two max_three min_three max_four min_four
set_option linter.unusedVariables false
set_option linter.unusedSimpArgs false
attribute [local go_sem high] eqA26
end Go.Proofs.Ytenbifjbeeobjaa.Px

namespace Go.Proofs.Ytenbifjbeeobjaa.Px
open Go.RowKit Go.Proofs.YtenbifjbeeobjaaW.PrintWords Go.Proofs.YtenbifjbeeobjaaW.PrintLast Go.Proofs.YtenbifjbeeobjaaW.PrintMore
attribute [local go_sem] max2_int min2_int max_two min_two max_three min_three max_four min_four
set_option linter.unusedVariables false
set_option linter.unusedSimpArgs false
end Go.Proofs.Ytenbifjbeeobjaa.Px

namespace Go.Proofs.Ytenbifjbeeobjaa.Px
open Go.RowKit Go.Proofs.YtenbifjbeeobjaaW.PrintWords Go.Proofs.YtenbifjbeeobjaaW.PrintLast Go.Proofs.YtenbifjbeeobjaaW.PrintMore
attribute [local go_sem] max2_int min2_int max_two min_two max_three min_three max_four min_four
set_option linter.unusedVariables false
set_option linter.unusedSimpArgs false
def vertex_Bytes.B5 : List Nat := [0, 1, 3, 0, 8, 24, 63, 0, 128, 511, 0, 1024, 3456, 8191, 0, 16384, 49152, 131071, 0, 262144, 786432, 2097151, 4194303, 8388607]
end Go.Proofs.Ytenbifjbeeobjaa.Px

namespace Go.Proofs.Ytenbifjbeeobjaa.Px
open Go.RowKit Go.Proofs.YtenbifjbeeobjaaW.PrintWords Go.Proofs.YtenbifjbeeobjaaW.PrintLast Go.Proofs.YtenbifjbeeobjaaW.PrintMore
attribute [local go_sem] max2_int min2_int max_two min_two max_three min_three max_four min_four
set_option linter.unusedVariables false
set_option linter.unusedSimpArgs false
def vertexL (a r : Int) (bs : List S101) (ps : List ByteArray) (x y : Int) : Bs :=
  numL a.toNat ++ numL r.toNat ++ rowL (bs.map bB) ++ rowL ps ++ numL x.toNat ++ numL y.toNat
instance decBatch : DecidableEq S101 := fun a b => decidable_of_iff (a.f0 = b.f0 ∧ a.f1 = b.f1 ∧ a.f2 = b.f2) ⟨fun ⟨h0, h1, h2⟩ => by obtain ⟨a0, a1, a2⟩ := a; obtain ⟨b0, b1, b2⟩ := b; simp only at h0 h1 h2; rw [h0, h1, h2], fun h => by rw [h]; exact ⟨rfl, rfl, rfl⟩⟩
end Go.Proofs.Ytenbifjbeeobjaa.Px

namespace Go.Proofs.Ytenbifjbeeobjaa.Px
open Go.RowKit Go.Proofs.YtenbifjbeeobjaaW.PrintWords Go.Proofs.YtenbifjbeeobjaaW.PrintLast Go.Proofs.YtenbifjbeeobjaaW.PrintMore
attribute [local go_sem] max2_int min2_int max_two min_two max_three min_three max_four min_four
set_option linter.unusedVariables false
set_option linter.unusedSimpArgs false
abbrev VT := Int × Int × List S101 × List ByteArray × Int × Int × Int
def badV : VT := (0, 0, [], [], 0, 0, 3)
def batchesL : List ByteArray → Option (List S101)
  | [] => some []
  | t :: l => if (takeBatchL (ofB t)).2.2.2 = 0 then (batchesL l).map (fun bs => ⟨(takeBatchL (ofB t)).1, (takeBatchL (ofB t)).2.1, (takeBatchL (ofB t)).2.2.1⟩ :: bs) else none
def endV (a r : Int) (ps : List ByteArray) (x y n : Int) : Option (List S101) → VT
  | none => badV
  | some bs => if mayV a r bs ps x y n = true then (a, r, bs, ps, x, y, 0) else badV
theorem batchesL_ok : ∀ {l : List ByteArray} {bs : List S101}, batchesL l = some bs → l = bs.map bB ∧ ∀ b ∈ bs, mayB b.f0 b.f1 b.f2 = true
  | [], bs, h => by
    have : bs = [] := (Option.some.inj h).symm
    subst this; exact ⟨rfl, fun b hb => absurd hb (by simp)⟩
  | t :: l, bs, h => by
    rw [batchesL] at h
    split at h
    · rename_i h0
      obtain ⟨cs, hc, rfl⟩ := Option.map_eq_some_iff.1 h
      obtain ⟨h1, h2⟩ := batchesL_ok hc
      rcases hq : takeBatchL (ofB t) with ⟨o, q, l', e⟩
      rw [hq] at h0
      simp only at h0
      subst h0
      obtain ⟨h3, h4⟩ := takeBatchL_ok hq
      refine ⟨?_, ?_⟩
      · rw [List.map_cons, ← h1, bB]
        simp only
        rw [if_pos h4, ← h3, toB_ofB]
      · intro b hb
        rcases List.mem_cons.1 hb with rfl | hb
        · exact h4
        · exact h2 b hb
    · cases h
theorem takeRowL_rest (s : Bs) (many most : Int) : (takeRowL s many most).2.1.length ≤ s.length := by
  have key : ∀ (n : Nat) (s : Bs) (acc : List ByteArray), (takeTexts most n s acc).2.1.length ≤ s.length := by
    intro n
    induction n with
    | zero => intro s acc; exact Nat.le_refl _
    | succ n ih =>
      intro s acc
      rw [takeTexts]
      split
      · rename_i h0
        have := takeTextL_short h0
        exact Nat.le_trans (ih _ _) (by omega)
      · exact Nat.zero_le _
  have h := takeNumL_len s
  unfold takeRowL takeRowIf
  split
  · split
    · exact Nat.zero_le _
    · exact Nat.le_trans (key _ _ _) h
  · exact Nat.zero_le _
theorem numbersL_rest (s : Bs) : (numbersL s).2.2.1.length ≤ s.length := by
  unfold numbersL
  rcases h : smallL s with _ | ⟨a, s1⟩
  · exact Nat.zero_le _
  · simp only
    have h1 := smallL_len h
    rcases h' : smallL s1 with _ | ⟨b, s2⟩
    · exact Nat.zero_le _
    · have h2 := smallL_len h'
      simp only; omega
def vA (s : Bs) : List ByteArray × Bs × Int := takeRowL (numbersL s).2.2.1 4 65536
def vB (s : Bs) : List ByteArray × Bs × Int := takeRowL (vA s).2.1 64 32
def vC (s : Bs) : Int × Int × Bs × Bool := numbersL (vB s).2.1
def okV (s : Bs) : Prop := (numbersL s).2.2.2 = true ∧ (vA s).2.2 = 0 ∧ (vB s).2.2 = 0 ∧ (vC s).2.2.2 = true ∧ (vC s).2.2.1 = []
instance decOkV (s : Bs) : Decidable (okV s) := by unfold okV; infer_instance
def takeV (s : Bs) (n : Int) : VT := if okV s then endV (numbersL s).1 (numbersL s).2.1 (vB s).1 (vC s).1 (vC s).2.1 n (batchesL (vA s).1) else badV
theorem takeV_pos {s : Bs} {n : Int} (h : okV s) : takeV s n = endV (numbersL s).1 (numbersL s).2.1 (vB s).1 (vC s).1 (vC s).2.1 n (batchesL (vA s).1) := if_pos h
theorem takeV_neg {s : Bs} {n : Int} (h : ¬ okV s) : takeV s n = badV := if_neg h
theorem vA_small {s : Bs} (h : (vA s).2.2 = 0) : (vA s).1.length ≤ 4 ∧ ∀ t ∈ (vA s).1, t.size < 4611686018427387904 := by
  rcases hq : vA s with ⟨l, r, e⟩
  rw [hq] at h
  simp only at h ⊢
  subst h
  obtain ⟨_, h2, _, h4⟩ := takeRowL_ok hq
  exact ⟨by omega, fun t ht => by have := (h4 t ht).1; omega⟩
theorem vertexTake_loop (n : Int) (l : List ByteArray) (a r : Int) (ps : List ByteArray) (x y : Int) (hl : l.length ≤ 4) (hs : ∀ t ∈ l, t.size < 4611686018427387904) (d : Nat) : ∀ (j : Nat) (acc : List S101), j + d = l.length → acc.length = j →
    Ev (fun k => vertex_Take.l0 k n l (l.length : Int) (j : Int) a r acc ps x y) (endV a r ps x y n ((batchesL (l.drop j)).map (acc ++ ·))) := by
  induction d with
  | zero =>
    intro j acc hj ha
    refine Ev.step (fun k => by rw [vertex_Take.l0]) ?_
    rw [List.drop_eq_nil_of_le (by omega)]
    refine ev_neg (by omega) (ev_bind_const (show vertex_May.f a r acc ps x y n = some (mayV a r acc ps x y n) from rfl) ?_)
    show Ev _ (endV a r ps x y n (some (acc ++ [])))
    rw [List.append_nil, endV]
    by_cases h : mayV a r acc ps x y n = true
    · exact ev_eq (ev_pos h (Ev.now _)) (by rw [if_pos h])
    · exact ev_eq (ev_neg h (Ev.now _)) (by rw [if_neg h]; rfl)
  | succ d ih =>
    intro j acc hj ha
    have hj' : j < l.length := by omega
    refine Ev.step (fun k => by rw [vertex_Take.l0]) ?_
    refine ev_pos (by omega) (ev_pos (by omega) (ev_pos (by omega) ?_))
    rw [rdOf_at l j hj', List.drop_eq_getElem_cons hj']
    refine Ev.bind (batchTake_ev _ (hs _ (List.getElem_mem hj'))) ?_
    rw [batchesL]
    by_cases h : (takeBatchL (ofB l[j])).2.2.2 = 0
    · rw [if_pos h]
      refine ev_pos h (ev_pos (by omega) ?_)
      rw [wrap64_of (by omega) (by omega)]
      refine ev_eq (ih (j + 1) _ (by omega) (by rw [List.length_append, ha]; rfl)) ?_
      congr 1
      rcases batchesL (l.drop (j + 1)) with _ | bs
      · rfl
      · simp
    · rw [if_neg h]
      exact ev_neg h (Ev.now _)
theorem vertex_numbers_of (s : ByteArray) (hs : s.size < 4611686018427387904) : vertex_numbers.f s = some ((numbersL (ofB s)).1, (numbersL (ofB s)).2.1, toB (numbersL (ofB s)).2.2.1, (numbersL (ofB s)).2.2.2) := if_pos hs
theorem vertexTake_ev (s : ByteArray) (n : Int) (hs : s.size < 4611686018427387904) : Ev (fun k => vertex_Take.f k s n) (takeV (ofB s) n) := by
  have l0 : (ofB s).length < 4611686018427387904 := by rw [ofB_length]; exact hs
  have l1 := numbersL_rest (ofB s)
  have l2 : (vA (ofB s)).2.1.length ≤ _ := takeRowL_rest (numbersL (ofB s)).2.2.1 4 65536
  have l3 : (vB (ofB s)).2.1.length ≤ _ := takeRowL_rest (vA (ofB s)).2.1 64 32
  refine ev_bind_const (vertex_numbers_of s hs) ?_
  simp only
  refine ev_bind_const (digits_TakeRow_of _ 4 65536 (by decide) (by decide) (by rw [toB_size]; omega) (.inr (by omega))) ?_
  simp only [takeRowB, ofB_toB]
  refine ev_bind_const (digits_TakeRow_of _ 64 32 (by decide) (by decide) (by rw [toB_size]; exact Nat.lt_of_le_of_lt (Nat.le_trans l2 l1) l0) (.inr (by omega))) ?_
  simp only [takeRowB, ofB_toB]
  refine ev_bind_const (vertex_numbers_of _ (by rw [toB_size]; exact Nat.lt_of_le_of_lt (Nat.le_trans l3 (Nat.le_trans l2 l1)) l0)) ?_
  simp only [ofB_toB]
  have key : ∀ b : Bool, (b = true ↔ ¬ okV (ofB s)) → Ev (fun k => vertex_Take.j0 k n (vA (ofB s)).1 (vB (ofB s)).1 b (numbersL (ofB s)).1 (numbersL (ofB s)).2.1 (vC (ofB s)).1 (vC (ofB s)).2.1) (takeV (ofB s) n) := by
    intro b hb
    refine Ev.step (fun k => by rw [vertex_Take.j0]) ?_
    by_cases h : okV (ofB s)
    · rw [takeV_pos h]
      obtain ⟨h1, h2⟩ := vA_small h.2.1
      refine ev_neg (fun hh => hb.1 hh h) (ev_eq (vertexTake_loop n (vA (ofB s)).1 _ _ _ _ _ h1 h2 (vA (ofB s)).1.length 0 [] (by omega) rfl) ?_)
      rw [List.drop_zero]
      rcases batchesL (vA (ofB s)).1 with _ | bs <;> rfl
    · rw [takeV_neg h]
      exact ev_pos (hb.2 h) (Ev.now _)
  show Ev (fun k => if (numbersL (ofB s)).2.2.2 = true then (if (vA (ofB s)).2.2 = 0 then (if (vB (ofB s)).2.2 = 0 then (if (vC (ofB s)).2.2.2 = true then vertex_Take.j0 k n (vA (ofB s)).1 (vB (ofB s)).1 ((toB (vC (ofB s)).2.2.1).toList != ([] : List UInt8)) (numbersL (ofB s)).1 (numbersL (ofB s)).2.1 (vC (ofB s)).1 (vC (ofB s)).2.1 else _) else _) else _) else _) _
  by_cases h1 : (numbersL (ofB s)).2.2.2 = true
  · refine ev_pos h1 ?_
    by_cases h2 : (vA (ofB s)).2.2 = 0
    · refine ev_pos h2 ?_
      by_cases h3 : (vB (ofB s)).2.2 = 0
      · refine ev_pos h3 ?_
        by_cases h4 : (vC (ofB s)).2.2.2 = true
        · refine ev_pos h4 (key _ ?_)
          rw [toList_ofB, ofB_toB, bne_iff_ne]
          exact ⟨fun hh hv => hh hv.2.2.2.2, fun hh hv => hh ⟨h1, h2, h3, h4, hv⟩⟩
        · exact ev_neg h4 (key true ⟨fun _ hv => h4 hv.2.2.2.1, fun _ => rfl⟩)
      · exact ev_neg h3 (key true ⟨fun _ hv => h3 hv.2.2.1, fun _ => rfl⟩)
    · exact ev_neg h2 (key true ⟨fun _ hv => h2 hv.2.1, fun _ => rfl⟩)
  · exact ev_neg h1 (key true ⟨fun _ hv => h1 hv.1, fun _ => rfl⟩)
theorem numbersL_ok {s : Bs} (h : (numbersL s).2.2.2 = true) : ∃ a b : Nat, (numbersL s).1 = a ∧ (numbersL s).2.1 = b ∧ a ≤ 1048576 ∧ b ≤ 1048576 ∧ s = numL a ++ (numL b ++ (numbersL s).2.2.1) := by
  unfold numbersL at h ⊢
  rcases h1 : smallL s with _ | ⟨a, s1⟩
  · rw [h1] at h; cases h
  · rw [h1] at h
    simp only at h ⊢
    rcases h2 : smallL s1 with _ | ⟨b, s2⟩
    · rw [h2] at h; cases h
    · obtain ⟨e1, k1⟩ := smallL_ok h1
      obtain ⟨e2, k2⟩ := smallL_ok h2
      exact ⟨a, b, rfl, rfl, k1, k2, by rw [e1, e2]⟩
theorem endV_err (a r : Int) (ps : List ByteArray) (x y n : Int) (o : Option (List S101)) : endV a r ps x y n o = badV ∨ ∃ bs, o = some bs ∧ mayV a r bs ps x y n = true ∧ endV a r ps x y n o = (a, r, bs, ps, x, y, 0) := by
  rcases o with _ | bs
  · exact .inl rfl
  · by_cases h : mayV a r bs ps x y n = true
    · exact .inr ⟨bs, rfl, h, if_pos h⟩
    · exact .inl (if_neg h)
theorem takeV_ok (s : Bs) (n : Int) : takeV s n = badV ∨ ∃ a r bs ps x y, takeV s n = (a, r, bs, ps, x, y, 0) ∧ mayV a r bs ps x y n = true ∧ s = vertexL a r bs ps x y := by
  by_cases h : okV s
  · rw [takeV_pos h]
    rcases endV_err (numbersL s).1 (numbersL s).2.1 (vB s).1 (vC s).1 (vC s).2.1 n (batchesL (vA s).1) with h0 | ⟨bs, h1, h2, h3⟩
    · exact .inl h0
    · refine .inr ⟨_, _, _, _, _, _, h3, h2, ?_⟩
      obtain ⟨k1, k2, k3, k4, k5⟩ := h
      obtain ⟨a, b, e1, e2, _, _, e3⟩ := numbersL_ok k1
      obtain ⟨c, d, e4, e5, _, _, e6⟩ := numbersL_ok k4
      obtain ⟨e7, _⟩ := batchesL_ok h1
      have r1 : (numbersL s).2.2.1 = rowL (vA s).1 ++ (vA s).2.1 := (takeRowL_ok (many := 4) (most := 65536) (show takeRowL (numbersL s).2.2.1 4 65536 = ((vA s).1, (vA s).2.1, 0) by rw [← k2]; rfl)).1
      have r2 : (vA s).2.1 = rowL (vB s).1 ++ (vB s).2.1 := (takeRowL_ok (many := 64) (most := 32) (show takeRowL (vA s).2.1 64 32 = ((vB s).1, (vB s).2.1, 0) by rw [← k3]; rfl)).1
      have e6' : (vB s).2.1 = numL c ++ (numL d ++ (vC s).2.2.1) := e6
      have e4' : (vC s).1 = c := e4
      have e5' : (vC s).2.1 = d := e5
      rw [k5, List.append_nil] at e6'
      rw [vertexL, e1, e2, e4', e5', Int.toNat_natCast, Int.toNat_natCast, Int.toNat_natCast, Int.toNat_natCast, ← e7]
      rw [e6'] at r2
      rw [r2] at r1
      rw [r1] at e3
      simp only [List.append_assoc]
      exact e3
  · exact .inl (takeV_neg h)
end Go.Proofs.Ytenbifjbeeobjaa.Px
