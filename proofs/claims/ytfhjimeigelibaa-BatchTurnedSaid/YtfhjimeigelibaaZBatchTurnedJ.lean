/- part 10 of the proof of the law BatchTurned: texts merged by this session's bundle.py. What is proved: the statement at the end of the last of these texts; its conditions are those of the given row. -/
import Derived.Lib.ConvBytes
import Derived.Laws.BytesArg
import Derived.BigQuiet
import Derived.Deep.QuietTactic
import Derived.Test.YtfhjimeigelibaaRows
import Derived.Deep.Slices
import Derived.ChangeArms
import Derived.SizedLaws
import Derived.WideOpen
import Derived.Test.YtfhjimeigelibaaZBatchTurnedD
import Derived.Test.YtfhjimeigelibaaZBatchTurnedE
import Derived.Test.YtfhjimeigelibaaZBatchTurnedF
import Derived.Test.YtfhjimeigelibaaZBatchTurnedG
import Derived.Test.YtfhjimeigelibaaZBatchTurnedH
import Derived.Test.YtfhjimeigelibaaZBatchTurnedI
namespace Go.Proofs.Ytfhjimeigelibaa.Px
open Go.RowKit Go.Proofs.YtfhjimeigelibaaW.PrintWords Go.Proofs.YtfhjimeigelibaaW.PrintLast Go.Proofs.YtfhjimeigelibaaW.PrintMore
attribute [local go_sem] max2_int min2_int max_two min_two max_three min_three max_four min_four
set_option linter.unusedVariables false
set_option linter.unusedSimpArgs false
def takeRowB (s : ByteArray) (many most : Int) : List ByteArray × ByteArray × Int := ((takeRowL (ofB s) many most).1, toB (takeRowL (ofB s) many most).2.1, (takeRowL (ofB s) many most).2.2)
theorem digits_TakeRow_of (s : ByteArray) (many most : Int) (h1 : (Lit.int .i64 many).wf = true) (h2 : (Lit.int .i64 most).wf = true) (h3 : s.size < 4611686018427387904) (h4 : s.size ≤ 8796093022207 ∨ many ≤ 8796093022207) : digits_TakeRow.f s many most = some (takeRowB s many most) := by
  unfold digits_TakeRow.f
  rw [if_pos ⟨h1, h2, h3, h4⟩]; rfl
theorem takeTextL_ok {s t r : Bs} {most : Int} (h : takeTextL s most = (t, r, 0)) : s = textL t ++ r ∧ (t.length : Int) ≤ most ∧ t.length < 18446744073709551616 := by
  unfold takeTextL takeTextIf at h
  split at h
  · rename_i h0
    rcases hq : takeNumL s with ⟨v, q, e⟩
    rw [hq] at h h0
    simp only at h0 h
    subst h0
    obtain ⟨rfl, hv⟩ := takeNumL_ok hq
    unfold takeTextOf at h
    split at h
    · cases h
    · rename_i h1
      split at h
      · cases h
      · rename_i h2
        simp only [Prod.mk.injEq, and_true] at h
        obtain ⟨rfl, rfl⟩ := h
        have hl : (List.take v q).length = v := by rw [List.length_take]; omega
        refine ⟨?_, by rw [hl]; omega, by rw [hl]; exact hv⟩
        rw [textL, hl, List.append_assoc, List.take_append_drop]
  · rename_i h0
    simp only [Prod.mk.injEq] at h
    exact absurd h.2.2 h0
theorem takeTexts_ok (most : Int) : ∀ (n : Nat) (s : Bs) (acc l : List ByteArray) (r : Bs), takeTexts most n s acc = (l, r, 0) → ∃ l', l = acc ++ l' ∧ l'.length = n ∧ s = rowOf l' ++ r ∧ ∀ t ∈ l', (t.size : Int) ≤ most ∧ t.size < 18446744073709551616
  | 0, s, acc, l, r, h => by
    simp only [takeTexts, Prod.mk.injEq, and_true] at h
    obtain ⟨rfl, rfl⟩ := h
    exact ⟨[], by simp, rfl, by simp [rowOf], by simp⟩
  | n + 1, s, acc, l, r, h => by
    rw [takeTexts] at h
    split at h
    · rename_i h0
      obtain ⟨l', rfl, h2, h3, h4⟩ := takeTexts_ok most n _ _ _ _ h
      rcases hq : takeTextL s most with ⟨t, q, e⟩
      rw [hq] at h0 h3
      simp only at h0 h3
      subst h0
      obtain ⟨h5, h6, h7⟩ := takeTextL_ok hq
      refine ⟨toB t :: l', by simp, by simp [h2], ?_, ?_⟩
      · rw [h5, h3]
        have e : rowOf (toB t :: l') = textL (ofB (toB t)) ++ rowOf l' := rfl
        rw [e, ofB_toB, List.append_assoc]
      · intro x hx
        rcases List.mem_cons.1 hx with rfl | hx
        · rw [toB_size]; exact ⟨h6, h7⟩
        · exact h4 x hx
    · rename_i h0
      simp only [Prod.mk.injEq] at h
      exact absurd h.2.2 h0
theorem takeRowL_ok {s r : Bs} {l : List ByteArray} {many most : Int} (h : takeRowL s many most = (l, r, 0)) : s = rowL l ++ r ∧ (l.length : Int) ≤ many ∧ l.length < 18446744073709551616 ∧ ∀ t ∈ l, (t.size : Int) ≤ most ∧ t.size < 18446744073709551616 := by
  unfold takeRowL takeRowIf at h
  split at h
  · rename_i h0
    rcases hq : takeNumL s with ⟨v, q, e⟩
    rw [hq] at h h0
    simp only at h0 h
    subst h0
    obtain ⟨rfl, hv⟩ := takeNumL_ok hq
    split at h
    · cases h
    · rename_i h1
      obtain ⟨l', hl', h2, h3, h4⟩ := takeTexts_ok most v q [] l r h
      rw [List.nil_append] at hl'
      subst hl'
      refine ⟨?_, by omega, by omega, h4⟩
      rw [rowL, h2, h3, List.append_assoc]
  · rename_i h0
    simp only [Prod.mk.injEq] at h
    exact absurd h.2.2 h0
end Go.Proofs.Ytfhjimeigelibaa.Px

namespace Go.Proofs.Ytfhjimeigelibaa.Px
open Go.RowKit Go.Proofs.YtfhjimeigelibaaW.PrintWords Go.Proofs.YtfhjimeigelibaaW.PrintLast Go.Proofs.YtfhjimeigelibaaW.PrintMore
attribute [local go_sem] max2_int min2_int max_two min_two max_three min_three max_four min_four
set_option linter.unusedVariables false
set_option linter.unusedSimpArgs false
def takeBatchIf (o q : Int) (e : Bool) (s : Bs) : Int × Int × List ByteArray × Int :=
  if e = true ∧ o ≤ 64 ∧ q ≤ 1073741824 ∧ (takeRowL s 4 48).2.2 = 0 ∧ (takeRowL s 4 48).2.1 = [] ∧ mayB o q (takeRowL s 4 48).1 = true then (o, q, (takeRowL s 4 48).1, 0) else (0, 0, [], 3)
theorem takeBatchIf_pos {o q : Int} {e : Bool} {s : Bs} (h : e = true ∧ o ≤ 64 ∧ q ≤ 1073741824 ∧ (takeRowL s 4 48).2.2 = 0 ∧ (takeRowL s 4 48).2.1 = [] ∧ mayB o q (takeRowL s 4 48).1 = true) : takeBatchIf o q e s = (o, q, (takeRowL s 4 48).1, 0) := if_pos h
theorem takeBatchIf_neg {o q : Int} {e : Bool} {s : Bs} (h : ¬ (e = true ∧ o ≤ 64 ∧ q ≤ 1073741824 ∧ (takeRowL s 4 48).2.2 = 0 ∧ (takeRowL s 4 48).2.1 = [] ∧ mayB o q (takeRowL s 4 48).1 = true)) : takeBatchIf o q e s = (0, 0, [], 3) := if_neg h
def takeBatchL (s : Bs) : Int × Int × List ByteArray × Int :=
  takeBatchIf (takeNumL s).1 (takeNumL (takeNumL s).2.1).1 (decide ((takeNumL s).2.2 = 0 ∧ (takeNumL (takeNumL s).2.1).2.2 = 0)) (takeNumL (takeNumL s).2.1).2.1
theorem toList_nil (s : ByteArray) : s.toList = ([] : List UInt8) ↔ ofB s = [] := by rw [toList_ofB]
theorem batchTake_j0 (s : Bs) (o q : Nat) (e b : Bool) (hs : s.length < 4611686018427387904) (ho : o < 18446744073709551616) (hq : q < 18446744073709551616) (hb : b = true ↔ ¬ (e = true ∧ (o : Int) ≤ 64 ∧ (q : Int) ≤ 1073741824)) :
    Ev (fun k => batch_Take.j0 k (toB s) (o : Int) (q : Int) b) (takeBatchIf o q e s) := by
  refine Ev.step (fun k => by rw [batch_Take.j0]) ?_
  by_cases h : e = true ∧ (o : Int) ≤ 64 ∧ (q : Int) ≤ 1073741824
  · obtain ⟨h1, h2, h3⟩ := h
    refine ev_neg (fun hh => hb.1 hh ⟨h1, h2, h3⟩) (ev_bind_const (digits_TakeRow_of (toB s) 4 48 (by decide) (by decide) (by rw [toB_size]; exact hs) (.inr (by omega))) ?_)
    simp only [takeRowB, ofB_toB]
    rw [wrap64_of (by omega) (by omega), wrap64_of (by omega) (by omega)]
    by_cases h4 : (takeRowL s 4 48).2.2 = 0
    · refine ev_pos h4 ?_
      by_cases h5 : (takeRowL s 4 48).2.1 = []
      · refine ev_pos (by rw [toList_nil, ofB_toB]; exact h5) (ev_bind_const rfl ?_)
        by_cases h6 : mayB o q (takeRowL s 4 48).1 = true
        · rw [takeBatchIf_pos ⟨h1, h2, h3, h4, h5, h6⟩]
          exact ev_pos h6 (Ev.now _)
        · rw [takeBatchIf_neg (fun hh => h6 hh.2.2.2.2.2)]
          exact ev_neg h6 (Ev.now _)
      · rw [takeBatchIf_neg (fun hh => h5 hh.2.2.2.2.1)]
        exact ev_neg (by rw [toList_nil, ofB_toB]; exact h5) (Ev.now _)
    · rw [takeBatchIf_neg (fun hh => h4 hh.2.2.2.1)]
      exact ev_neg h4 (Ev.now _)
  · rw [takeBatchIf_neg (fun hh => h ⟨hh.1, hh.2.1, hh.2.2.1⟩)]
    exact ev_pos (hb.2 h) (Ev.now _)
theorem batchTake_ev (s : ByteArray) (hs : s.size < 4611686018427387904) : Ev (fun k => batch_Take.f k s) (takeBatchL (ofB s)) := by
  have h1 := takeNumL_len (ofB s)
  have h2 := takeNumL_len (takeNumL (ofB s)).2.1
  have h3 := takeNumL_val (ofB s)
  have h4 := takeNumL_val (takeNumL (ofB s)).2.1
  rw [ofB_length] at h1
  have t2 := takeNum_ev (takeNumB s).2.1 (by simp only [takeNumB, toB_size]; omega)
  refine Ev.bind (takeNum_ev s hs) (Ev.bind t2 ?_)
  simp only [takeNumB, ofB_toB]
  have key := fun b => batchTake_j0 (takeNumL (takeNumL (ofB s)).2.1).2.1 (takeNumL (ofB s)).1 (takeNumL (takeNumL (ofB s)).2.1).1 (decide ((takeNumL (ofB s)).2.2 = 0 ∧ (takeNumL (takeNumL (ofB s)).2.1).2.2 = 0)) b (by omega) h3 h4
  by_cases e1 : (takeNumL (ofB s)).2.2 = 0
  · refine ev_pos e1 ?_
    by_cases e2 : (takeNumL (takeNumL (ofB s)).2.1).2.2 = 0
    · refine ev_pos e2 ?_
      by_cases e3 : ((takeNumL (ofB s)).1 : Int) > 64
      · exact ev_pos e3 (key true (by simp [e1, e2]; omega))
      · exact ev_neg e3 (key _ (by simp [e1, e2]; omega))
    · exact ev_neg e2 (key true (by simp [e2]))
  · exact ev_neg e1 (key true (by simp [e1]))
theorem takeBatchL_err (s : Bs) : (takeBatchL s).2.2.2 = 0 ∨ takeBatchL s = (0, 0, [], 3) := by
  unfold takeBatchL takeBatchIf
  split
  · exact .inl rfl
  · exact .inr rfl
theorem takeBatchL_ok {s : Bs} {o q : Int} {l : List ByteArray} (h : takeBatchL s = (o, q, l, 0)) : s = batchL o q l ∧ mayB o q l = true := by
  unfold takeBatchL takeBatchIf at h
  split at h
  · rename_i hc
    obtain ⟨h1, h2, h3, h4, h5, h6⟩ := hc
    obtain ⟨h7, h8⟩ := of_decide_eq_true h1
    simp only [Prod.mk.injEq, and_true] at h
    obtain ⟨rfl, rfl, rfl⟩ := h
    refine ⟨?_, h6⟩
    rcases hq : takeNumL s with ⟨v, r, e⟩
    rw [hq] at h4 h5 h7 h8
    simp only at h4 h5 h7 h8 ⊢
    subst h7
    obtain ⟨rfl, _⟩ := takeNumL_ok hq
    rcases hq2 : takeNumL r with ⟨v2, r2, e2⟩
    rw [hq2] at h4 h5 h8
    simp only at h4 h5 h8 ⊢
    subst h8
    obtain ⟨rfl, _⟩ := takeNumL_ok hq2
    rcases hq3 : takeRowL r2 4 48 with ⟨l, r3, e3⟩
    rw [hq3] at h4 h5
    simp only at h4 h5 ⊢
    subst h4 h5
    obtain ⟨h9, _⟩ := takeRowL_ok hq3
    rw [List.append_nil] at h9
    rw [batchL, ← h9, Int.toNat_natCast, Int.toNat_natCast, List.append_assoc]
  · simp at h
end Go.Proofs.Ytfhjimeigelibaa.Px

namespace Go.Proofs.Ytfhjimeigelibaa.Px
open Go.RowKit Go.Proofs.YtfhjimeigelibaaW.PrintWords Go.Proofs.YtfhjimeigelibaaW.PrintLast Go.Proofs.YtfhjimeigelibaaW.PrintMore
attribute [local go_sem] max2_int min2_int max_two min_two max_three min_three max_four min_four
set_option linter.unusedVariables false
set_option linter.unusedSimpArgs false
def turnB (s : ByteArray) (i : Nat) (x : Int) : ByteArray := toB ((ofB s).set i (UInt8.ofNat x.toNat))
theorem turn_cell (w : World) (e : TypeId) (s : ByteArray) (i : Nat) (x : Int) (h0 : 0 ≤ x) (h1 : x ≤ 255) (j : Nat) (hj : j < s.size) :
    ((Lib.bytesWorld w e s).setCell ⟨w.heap.size, i, none⟩ (.int .u8 x)).cell? ⟨w.heap.size, 0 + j, none⟩ = some (.int .u8 ((((ofB s).set i (UInt8.ofNat x.toNat)).map fun b => ((b.toNat : Nat) : Int)).getD j 0)) := by
  rw [Nat.zero_add]
  have hg := Lib.bytesWorld_at_new w e s
  have hc := Lib.bytesWorld_cell w e s j hj
  have hl : (ofB s).length = s.size := ofB_length s
  rw [cell_of_row _ _ _ _ _ _ hg] at hc
  rw [setCell_eq_setRow _ _ _ _ _ _ _ hg, cell_of_row _ _ _ _ _ _ (setRow_heap _ _ _ _ _ _ hg)]
  by_cases hij : i = j
  · subst hij
    rw [Array.getElem?_setIfInBounds_self_of_lt (Array.getElem?_eq_some_iff.1 hc).1]
    rw [List.getD_eq_getElem?_getD, List.getElem?_map, List.getElem?_set_self (by omega)]
    simp only [Option.map_some, Option.getD_some]
    have : (UInt8.ofNat x.toNat).toNat = x.toNat := by simp; omega
    rw [this]
    have : ((x.toNat : Nat) : Int) = x := by omega
    rw [this]
  · rw [Array.getElem?_setIfInBounds_ne hij, hc]
    rw [List.getD_eq_getElem?_getD, List.getD_eq_getElem?_getD, List.getElem?_map, List.getElem?_set_ne hij]
    have : j < (ofB s).length := by omega
    show some (Value.int .u8 (((ofB s)[j]?.getD 0).toNat : Int)) = _
    rw [List.getElem?_eq_getElem this]
    rfl
theorem turn_old (w : World) (e : TypeId) (s : ByteArray) (i : Nat) (hi : i < s.size) : (Lib.bytesWorld w e s).cell? ⟨w.heap.size, i, none⟩ = some (.int .u8 (bt s i)) := by
  rw [Lib.bytesWorld_cell w e s i hi, bt_ofB]; rfl
theorem turn_thaw (w : World) (e : TypeId) (s : ByteArray) (i : Nat) (hi : i < s.size) : (Lib.bytesWorld w e s).frozen? ⟨w.heap.size, i, none⟩ = false := by
  have hg := Lib.bytesWorld_at_new w e s
  have hc := Lib.bytesWorld_cell w e s i hi
  rw [cell_of_row _ _ _ _ _ _ hg] at hc
  have := (Array.getElem?_eq_some_iff.1 hc).1
  simp only [World.frozen?, hg, Bool.and_eq_false_iff, decide_eq_false_iff_not]
  omega
theorem turn_str (s : ByteArray) (i : Nat) (x : Int) : strOfNums (((ofB s).set i (UInt8.ofNat x.toNat)).map fun b => ((b.toNat : Nat) : Int)) = turnB s i x := by
  rw [strOfNums_toB, List.map_map, turnB]
  congr 1
  conv => rhs; rw [← List.map_id ((ofB s).set i (UInt8.ofNat x.toNat))]
  congr 1
  funext b
  simp
theorem turn_ne (s : ByteArray) (i : Nat) (x : Int) (h0 : 0 ≤ x) (h1 : x ≤ 255) (hi : i < s.size) (h : ¬ bt s i = x) : ofB (turnB s i x) ≠ ofB s := by
  intro e
  rw [turnB, ofB_toB] at e
  apply h
  have hl : i < (ofB s).length := by rw [ofB_length]; exact hi
  have e2 := congrArg (fun l => l.getD i 0) e
  simp only [List.getD_eq_getElem?_getD, List.getElem?_set_self hl, Option.getD_some] at e2
  rw [bt_ofB, List.getD_eq_getElem?_getD, ← e2]
  simp; omega
theorem turnB_size (s : ByteArray) (i : Nat) (x : Int) : (turnB s i x).size = s.size := by rw [turnB, toB_size, List.length_set, ofB_length]
end Go.Proofs.Ytfhjimeigelibaa.Px

namespace Go.Proofs.Ytfhjimeigelibaa.Px
open Go.RowKit Go.Proofs.YtfhjimeigelibaaW.PrintWords Go.Proofs.YtfhjimeigelibaaW.PrintLast Go.Proofs.YtfhjimeigelibaaW.PrintMore
attribute [local go_sem] max2_int min2_int max_two min_two max_three min_three max_four min_four
set_option linter.unusedVariables false
set_option linter.unusedSimpArgs false
theorem batchTurned_of {a b : Int} {l : List ByteArray} (h : mayB a b l = true) {s : Bs} (hs : s ≠ batchL a b l) : (takeBatchL s).2.2.2 = 3 ∨ (takeBatchL s).2.2.2 = 0 ∧ batchEq a b l (takeBatchL s).1 (takeBatchL s).2.1 (takeBatchL s).2.2.1 = false := by
  rcases takeBatchL_err s with h0 | h0
  · refine .inr ⟨h0, ?_⟩
    rcases hq : takeBatchL s with ⟨o, q, l', e⟩
    rw [hq] at h0
    simp only at h0
    subst h0
    obtain ⟨h1, h2⟩ := takeBatchL_ok hq
    rw [← Bool.not_eq_true]
    intro he
    apply hs
    rw [h1]
    simp [batchEq] at he
    obtain ⟨rfl, rfl, rfl⟩ := he
    rfl
  · exact .inl (by rw [h0])
set_option maxHeartbeats 4000000 in
set_option maxRecDepth 100000 in
theorem selvedgelaw07_BatchTurned.early (a b : Int) (A : Option Addr) (c : Nat) (l : List ByteArray) (i x : Int) (w : World) (hr : Kd.C Kd.string w A l.length l) (hc : l.length ≤ c)
    (s : ByteArray) (e : Int) (hB : batch_Bytes.f a b l = some (s, e)) (hS : selvedgelaw07_shown.f = some true) (h : e ≠ 0 ∨ e = 0 ∧ (i < 0 ∨ 0 ≤ i ∧ ((s.size : Int) ≤ i ∨ i < (s.size : Int) ∧ bt s i = x))) :
    Calls Try.prog 3 #[.agg #[.int .i64 a, .int .i64 b, .slice A l.length c], .int .i64 i, .int .u8 x] w fun e w' => e = .returned (.bool true) ∧ Below w.heap.size w w' := by
  have HR := Aside0.mk hr
  have HC := Aside0.mk hc
  have HY := Aside0.mk hB
  have HS := Aside0.mk hS
  clear hr hc hB hS
  rcases h with h | ⟨rfl, h | ⟨h, h2 | ⟨h2, h3⟩⟩⟩
  · have e1 : (e == 0) = false := beq_eq_false_iff_ne.2 h
    have e2 : (e != 0) = true := bne_iff_ne.2 h
    clear h
    go_enter Try.func3, Try.ntmps3
    go_wp2_with (first
      | ((with_reducible refine gate_dst (N := 3) rfl ?_); refine box_event ?hg (N := 3) ?hd (cs := #[.int .i64 a, .int .i64 b, .slice A l.length c]) (t := 24) ?hr ?_; (case hd => rfl); (case hg => rfl); (case hr => first | (go_simp; done) | (go_simp; rfl)); intro gb hg w2 hbox hb; have BK := Aside0.mk hbox; have HB := Aside0.mk hb; clear hb hbox hg)
      | (go_at_call 7; (with_reducible refine (selvedgelaw07_shown.calls true _ HS.out).mono ?_); rintro e w3 ⟨rfl, hb⟩; have HB3 := Aside0.mk (below_step HB.out hb); have BK3 := Aside0.mk (blk_below BK.out hb); clear hb; have hy0 := (blk_cell BK3.out 0).trans rfl; have hy1 := (blk_cell BK3.out 1).trans rfl; have hy2 := (blk_cell BK3.out 2).trans rfl; have hf0 := blk_frozen BK3.out 0; have hf1 := blk_frozen BK3.out 1; have hf2 := blk_frozen BK3.out 2)
      | (go_at_call 8; (with_reducible refine (batch_Bytes.calls a b _ _ l _ _ _ (Kd.C_below HR.out HB3.out) HC.out HY.out).mono ?_); rintro e w4 ⟨rfl, hb⟩; have HB4 := Aside0.mk (below_step HB3.out hb); clear hb))
    repeat (go_quiet (fail); try go_wp2)
    go_ret
    exact ⟨rfl, by repeat (first | exact HB4.out | apply pw_below_drewN)⟩
  · have e1 : decide (i < 0) = true := decide_eq_true h
    clear h
    go_enter Try.func3, Try.ntmps3
    go_wp2_with (first
      | ((with_reducible refine gate_dst (N := 3) rfl ?_); refine box_event ?hg (N := 3) ?hd (cs := #[.int .i64 a, .int .i64 b, .slice A l.length c]) (t := 24) ?hr ?_; (case hd => rfl); (case hg => rfl); (case hr => first | (go_simp; done) | (go_simp; rfl)); intro gb hg w2 hbox hb; have BK := Aside0.mk hbox; have HB := Aside0.mk hb; clear hb hbox hg)
      | (go_at_call 7; (with_reducible refine (selvedgelaw07_shown.calls true _ HS.out).mono ?_); rintro e w3 ⟨rfl, hb⟩; have HB3 := Aside0.mk (below_step HB.out hb); have BK3 := Aside0.mk (blk_below BK.out hb); clear hb; have hy0 := (blk_cell BK3.out 0).trans rfl; have hy1 := (blk_cell BK3.out 1).trans rfl; have hy2 := (blk_cell BK3.out 2).trans rfl; have hf0 := blk_frozen BK3.out 0; have hf1 := blk_frozen BK3.out 1; have hf2 := blk_frozen BK3.out 2)
      | (go_at_call 8; (with_reducible refine (batch_Bytes.calls a b _ _ l _ _ _ (Kd.C_below HR.out HB3.out) HC.out HY.out).mono ?_); rintro e w4 ⟨rfl, hb⟩; have HB4 := Aside0.mk (below_step HB3.out hb); clear hb))
    repeat (go_quiet (fail); try go_wp2)
    go_ret
    exact ⟨rfl, by repeat (first | exact HB4.out | apply pw_below_drewN)⟩
  · have e1 : decide (i < 0) = false := decide_eq_false (by omega)
    have e2 : decide ((s.size : Int) ≤ i) = true := decide_eq_true h2
    clear h h2
    go_enter Try.func3, Try.ntmps3
    go_wp2_with (first
      | ((with_reducible refine gate_dst (N := 3) rfl ?_); refine box_event ?hg (N := 3) ?hd (cs := #[.int .i64 a, .int .i64 b, .slice A l.length c]) (t := 24) ?hr ?_; (case hd => rfl); (case hg => rfl); (case hr => first | (go_simp; done) | (go_simp; rfl)); intro gb hg w2 hbox hb; have BK := Aside0.mk hbox; have HB := Aside0.mk hb; clear hb hbox hg)
      | (go_at_call 7; (with_reducible refine (selvedgelaw07_shown.calls true _ HS.out).mono ?_); rintro e w3 ⟨rfl, hb⟩; have HB3 := Aside0.mk (below_step HB.out hb); have BK3 := Aside0.mk (blk_below BK.out hb); clear hb; have hy0 := (blk_cell BK3.out 0).trans rfl; have hy1 := (blk_cell BK3.out 1).trans rfl; have hy2 := (blk_cell BK3.out 2).trans rfl; have hf0 := blk_frozen BK3.out 0; have hf1 := blk_frozen BK3.out 1; have hf2 := blk_frozen BK3.out 2)
      | (go_at_call 8; (with_reducible refine (batch_Bytes.calls a b _ _ l _ _ _ (Kd.C_below HR.out HB3.out) HC.out HY.out).mono ?_); rintro e w4 ⟨rfl, hb⟩; have HB4 := Aside0.mk (below_step HB3.out hb); clear hb))
    repeat (go_quiet (fail); try go_wp2)
    go_ret
    exact ⟨rfl, by repeat (first | exact HB4.out | apply pw_below_drewN)⟩
  · have e1 : decide (i < 0) = false := decide_eq_false (by omega)
    have e2 : decide ((s.size : Int) ≤ i) = false := decide_eq_false (by omega)
    have e3 : (bt s i == x) = true := beq_iff_eq.2 h3
    have p8 := eq_true h
    have q8 := eq_true h2
    have hx8 := bt_at s i
    clear h h2 h3
    go_enter Try.func3, Try.ntmps3
    go_wp2_with (first
      | ((with_reducible refine gate_dst (N := 3) rfl ?_); refine box_event ?hg (N := 3) ?hd (cs := #[.int .i64 a, .int .i64 b, .slice A l.length c]) (t := 24) ?hr ?_; (case hd => rfl); (case hg => rfl); (case hr => first | (go_simp; done) | (go_simp; rfl)); intro gb hg w2 hbox hb; have BK := Aside0.mk hbox; have HB := Aside0.mk hb; clear hb hbox hg)
      | (go_at_call 7; (with_reducible refine (selvedgelaw07_shown.calls true _ HS.out).mono ?_); rintro e w3 ⟨rfl, hb⟩; have HB3 := Aside0.mk (below_step HB.out hb); have BK3 := Aside0.mk (blk_below BK.out hb); clear hb; have hy0 := (blk_cell BK3.out 0).trans rfl; have hy1 := (blk_cell BK3.out 1).trans rfl; have hy2 := (blk_cell BK3.out 2).trans rfl; have hf0 := blk_frozen BK3.out 0; have hf1 := blk_frozen BK3.out 1; have hf2 := blk_frozen BK3.out 2)
      | (go_at_call 8; (with_reducible refine (batch_Bytes.calls a b _ _ l _ _ _ (Kd.C_below HR.out HB3.out) HC.out HY.out).mono ?_); rintro e w4 ⟨rfl, hb⟩; have HB4 := Aside0.mk (below_step HB3.out hb); clear hb))
    repeat (go_quiet (fail); try go_wp2)
    go_ret
    exact ⟨rfl, by repeat (first | exact HB4.out | apply pw_below_drewN)⟩
set_option maxHeartbeats 4000000 in
set_option maxRecDepth 100000 in
theorem selvedgelaw07_BatchTurned.main (a b : Int) (A : Option Addr) (c : Nat) (l : List ByteArray) (i : Nat) (x : Int) (w : World) (hr : Kd.C Kd.string w A l.length l) (hc : l.length ≤ c)
    (s : ByteArray) (hB : batch_Bytes.f a b l = some (s, 0)) (hS : selvedgelaw07_shown.f = some true) (hi : i < s.size) (h0 : 0 ≤ x) (h1 : x ≤ 255) (hx : ¬ bt s i = x)
    (k : Nat) (o q : Int) (l' : List ByteArray) (f : Int) (hT : batch_Take.f k (turnB s i x) = some (o, q, l', f)) (same : Bool) (hM : selvedgeref07_Same.f k a b l o q l' = some same) (hf : f = 3 ∨ f = 0 ∧ same = false) :
    Calls Try.prog 3 #[.agg #[.int .i64 a, .int .i64 b, .slice A l.length c], .int .i64 i, .int .u8 x] w fun e w' => e = .returned (.bool true) ∧ Below w.heap.size w w' := by
  have HR := Aside0.mk hr
  have HC := Aside0.mk hc
  have HY := Aside0.mk hB
  have HS := Aside0.mk hS
  have HI := Aside0.mk hi
  have HT := Aside0.mk hT
  have HM := Aside0.mk hM
  have X0 := Aside0.mk h0
  have X1 := Aside0.mk h1
  have e1 : decide ((i : Int) < 0) = false := decide_eq_false (by omega)
  have e2 : decide ((s.size : Int) ≤ i) = false := decide_eq_false (by omega)
  have e3 : (bt s i == x) = false := beq_eq_false_iff_ne.2 hx
  have p8 : (0 ≤ (i : Int)) = True := eq_true (by omega)
  have q8 : ((i : Int) < (s.size : Int)) = True := eq_true (by omega)
  have p9 : (i < s.size) = True := eq_true hi
  have e5 : decide (s.size ≤ i) = false := decide_eq_false (by omega)
  have hx8 : ∀ h : i < s.size, ((s[i]'h).toNat : Int) = bt s i := fun h => bt_at s i h
  have kb := fun (W : World) (s : ByteArray) => Lib.run_convert_string_bytes (P := Try.prog) W 9 29 5 s Try.underlying9 Try.underlying29 Try.underlying5
  clear hr hc hB hS hi h0 h1 hx
  rcases hf with rfl | ⟨rfl, rfl⟩
  all_goals clear hT hM
  all_goals go_enter Try.func3, Try.ntmps3
  all_goals go_wp2_with (first
    | ((with_reducible refine gate_dst (N := 3) rfl ?_); refine box_event ?hg (N := 3) ?hd (cs := #[.int .i64 a, .int .i64 b, .slice A l.length c]) (t := 24) ?hr ?_; (case hd => rfl); (case hg => rfl); (case hr => first | (go_simp; done) | (go_simp; rfl)); intro gb hg w2 hbox hb; have BK := Aside0.mk hbox; have HB := Aside0.mk hb; clear hb hbox hg)
    | (go_at_call 7; (with_reducible refine (selvedgelaw07_shown.calls true _ HS.out).mono ?_); rintro e w3 ⟨rfl, hb⟩; have HB3 := Aside0.mk (below_step HB.out hb); have BK3 := Aside0.mk (blk_below BK.out hb); clear hb; have hy0 := (blk_cell BK3.out 0).trans rfl; have hy1 := (blk_cell BK3.out 1).trans rfl; have hy2 := (blk_cell BK3.out 2).trans rfl; have hf0 := blk_frozen BK3.out 0; have hf1 := blk_frozen BK3.out 1; have hf2 := blk_frozen BK3.out 2)
    | (go_at_call 8; (with_reducible refine (batch_Bytes.calls a b _ _ l _ _ _ (Kd.C_below HR.out HB3.out) HC.out HY.out).mono ?_); rintro e w4 ⟨rfl, hb⟩; have HB4 := Aside0.mk (below_step HB3.out hb); have BK4 := Aside0.mk (blk_below BK3.out hb); clear hb; have kc := turn_old w4 5 s i HI.out; have kf := turn_thaw w4 5 s i HI.out; have kd := run_convert_bytes_arg (P := Try.prog) ((Lib.bytesWorld w4 5 s).setCell ⟨w4.heap.size, i, none⟩ (.int .u8 x)) 29 5 Try.underlying29 Try.underlying5 w4.heap.size 0 s.size (grownCap w4 s.size 0 5) (((ofB s).set i (UInt8.ofNat x.toNat)).map fun b => ((b.toNat : Nat) : Int)) (by rw [List.length_map, List.length_set, ofB_length]) (fun j hj => turn_cell w4 5 s i x X0.out X1.out j hj) 9 Try.underlying9; rw [turn_str] at kd)
    | (go_at_call 9; (with_reducible refine (batch_Take.calls k _ _ _ _ _ _ HT.out).mono ?_); rintro e w5 ⟨v2, rfl, hR, hb⟩; obtain ⟨A2, c2, rfl⟩ := Kd.R_slice hR; have HR2 := Aside0.mk hR; have HW : Aside0 (Below w.heap.size w ((Lib.bytesWorld w4 5 s).setCell ⟨w4.heap.size, i, none⟩ (.int .u8 x))) := ⟨below_set (bytes_below HB4.out HB4.out.size 5 _) HB4.out.size⟩; have HB5 := Aside0.mk (below_step HW.out hb); have BK5 : Aside0 (w5.heap[gb]? = some (.cells #[.int .i64 a, .int .i64 b, .slice A l.length c] 24 (0, 0))) := ⟨(hb.block gb (by rw [World.size_setCell]; exact Nat.lt_trans (blk_lt BK4.out) (by rw [Lib.bytesWorld_size]; omega))).trans ((Below.heap_setCell _ _ _ gb (by exact Nat.ne_of_lt (blk_lt BK4.out))).trans ((Lib.bytesWorld_at_old w4 5 s gb (blk_lt BK4.out)).trans BK4.out))⟩; clear hb hR)
    | ((with_reducible refine gate_dst (N := 11) rfl ?_); refine box_event ?hg (N := 11) ?hd (cs := #[.int .i64 0, .int .i64 0, .slice none 0 0]) (t := 24) ?hr ?_; (case hd => rfl); (case hg => rfl); (case hr => first | (go_simp; done) | (go_simp; rfl)); intro g6 hg w6 hbox hb; have B6 := Aside0.mk hbox; have H6 : Aside0 (w5.heap.size ≤ g6) := ⟨by rw [hg]; exact Nat.le_refl _⟩; have G6 : Aside0 (w.heap.size ≤ g6) := ⟨by rw [hg]; exact below_size HB5.out⟩; have N6 : Aside0 (g6 ≠ gb) := ⟨by rw [hg]; exact Nat.ne_of_gt (blk_lt BK5.out)⟩; have BK6 := Aside0.mk (blk_below BK5.out hb); have HB6 := Aside0.mk (below_step HB5.out hb); have HL6 := Aside0.mk hb; have HR6 := Aside0.mk (Kd.R_reads' HR2.out).2.2; have HC6 := Aside0.mk (Kd.R_reads' HR2.out).2.1; clear hb hbox hg; have hu0 := (blk_cell BK6.out 0).trans rfl; have hu1 := (blk_cell BK6.out 1).trans rfl; have hu2 := (blk_cell BK6.out 2).trans rfl; have fu0 := blk_frozen BK6.out 0; have fu1 := blk_frozen BK6.out 1; have fu2 := blk_frozen BK6.out 2; have hv0 := (blk_cell B6.out 0).trans rfl; have hv1 := (blk_cell B6.out 1).trans rfl; have hv2 := (blk_cell B6.out 2).trans rfl; have fv0 := blk_frozen B6.out 0; have fv1 := blk_frozen B6.out 1; have fv2 := blk_frozen B6.out 2; have n1 := N6.out; have n2 := Ne.symm N6.out)
    | (go_at_call 10; (with_reducible refine (selvedgeref07_Same.calls k a b _ _ l o q _ _ l' _ _ (Kd.C_below HR.out (below_set (below_set (below_set HB6.out G6.out) G6.out) G6.out)) HC.out (Kd.C_below HR6.out (below_set (below_set (below_set HL6.out H6.out) H6.out) H6.out)) HC6.out HM.out).mono ?_); rintro e w7 ⟨rfl, hb⟩))
  all_goals (go_ret; exact ⟨rfl, below_step (below_set (below_set (below_set HB6.out G6.out) G6.out) G6.out) hb⟩)
def selvedgelaw07_BatchTurned.f (a0_0 : Int) (a0_1 : Int) (l0_2 : List ByteArray) (a1 : Int) (a2 : Int) : Option Bool := if l0_2.length < 4611686018427387904 ∧ -9223372036854775808 ≤ a1 ∧ a1 ≤ 9223372036854775807 ∧ 0 ≤ a2 ∧ a2 ≤ 255 then some true else none
theorem batchL_len {a b : Int} {l : List ByteArray} (h : mayB a b l = true) : (batchL a b l).length ≤ 400 := by
  obtain ⟨_, _, _, _, _, h6, h7⟩ := (mayB_iff _ _ _).1 h
  have r1 := rowOf_le l 48 (by omega) (fun t ht => (h7 t ht).2)
  have r2 := numL_length (v := l.length) (by omega)
  have r4 := numL_length (v := a.toNat) (by omega)
  have r5 := numL_length (v := b.toNat) (by omega)
  rw [batchL, List.length_append, List.length_append, rowL, List.length_append]; omega
theorem selvedgelaw07_BatchTurned.calls (a0_0 : Int) (a0_1 : Int) (A0_2 : Option Addr) (c0_2 : Nat) (l0_2 : List ByteArray) (a1 : Int) (a2 : Int) (r : Bool) (w : World) (hr0_2 : Kd.C Kd.string w A0_2 l0_2.length l0_2) (hc0_2 : l0_2.length ≤ c0_2) (h : selvedgelaw07_BatchTurned.f a0_0 a0_1 l0_2 a1 a2 = some r) :
    Calls Try.prog 3 #[.agg #[.int .i64 a0_0, .int .i64 a0_1, .slice A0_2 l0_2.length c0_2], .int .i64 a1, .int .u8 a2] w fun e w' => e = .returned (.bool r) ∧ Below w.heap.size w w' := by
  unfold selvedgelaw07_BatchTurned.f at h
  split at h
  · rename_i hh
    obtain ⟨hl, hi0, hi1, hx0, hx1⟩ := hh
    obtain rfl := Option.some.inj h
    have hB := batch_Bytes_of a0_0 a0_1 l0_2
    by_cases hm : mayB a0_0 a0_1 l0_2 = true
    · rw [if_pos hm] at hB
      have hsz := batchL_len hm
      by_cases hneg : a1 < 0
      · exact selvedgelaw07_BatchTurned.early _ _ _ _ _ _ _ _ hr0_2 hc0_2 _ _ hB shown07_of (.inr ⟨rfl, .inl hneg⟩)
      obtain ⟨i, rfl⟩ := Int.eq_ofNat_of_zero_le (show 0 ≤ a1 by omega)
      by_cases hge : ((toB (batchL a0_0 a0_1 l0_2)).size : Int) ≤ (i : Int)
      · exact selvedgelaw07_BatchTurned.early _ _ _ _ _ _ _ _ hr0_2 hc0_2 _ _ hB shown07_of (.inr ⟨rfl, .inr ⟨by omega, .inl hge⟩⟩)
      have hlt : (i : Int) < ((toB (batchL a0_0 a0_1 l0_2)).size : Int) := by omega
      by_cases he : bt (toB (batchL a0_0 a0_1 l0_2)) i = a2
      · exact selvedgelaw07_BatchTurned.early _ _ _ _ _ _ _ _ hr0_2 hc0_2 _ _ hB shown07_of (.inr ⟨rfl, .inr ⟨by omega, .inr ⟨hlt, he⟩⟩⟩)
      have hne := turn_ne _ i a2 hx0 hx1 (by omega) he
      rw [ofB_toB] at hne
      have hT := batchTake_ev (turnB (toB (batchL a0_0 a0_1 l0_2)) i a2) (by rw [turnB_size, toB_size]; omega)
      have hS := refBatchSame_ev a0_0 a0_1 l0_2 (takeBatchL (ofB (turnB (toB (batchL a0_0 a0_1 l0_2)) i a2))).1 (takeBatchL (ofB (turnB (toB (batchL a0_0 a0_1 l0_2)) i a2))).2.1 (takeBatchL (ofB (turnB (toB (batchL a0_0 a0_1 l0_2)) i a2))).2.2.1 hl
      have hf := batchTurned_of hm hne
      obtain ⟨k1, hk1⟩ := hT
      obtain ⟨k2, hk2⟩ := hS
      exact selvedgelaw07_BatchTurned.main _ _ _ _ _ i a2 _ hr0_2 hc0_2 _ hB shown07_of (by omega) hx0 hx1 he (k1 + k2) _ _ _ _ (hk1 _ (by omega)) _ (hk2 _ (by omega)) hf
    · rw [if_neg hm] at hB
      exact selvedgelaw07_BatchTurned.early _ _ _ _ _ _ _ _ hr0_2 hc0_2 _ _ hB shown07_of (.inl (by decide))
  · cases h
end Go.Proofs.Ytfhjimeigelibaa.Px

namespace Go.Proofs.Ytfhjimeigelibaa.Px
open Go.RowKit Go.Proofs.YtfhjimeigelibaaW.PrintWords Go.Proofs.YtfhjimeigelibaaW.PrintLast Go.Proofs.YtfhjimeigelibaaW.PrintMore
attribute [local go_sem] max2_int min2_int max_two min_two max_three min_three max_four min_four
set_option linter.unusedVariables false
set_option linter.unusedSimpArgs false
structure Rd (α : Type) where
  t : TypeId
  d : Kd α
  ok : α → Prop
  wt : α → Prop
  bk : α → Nat
structure Fits {α : Type} (P : Program) (r : Rd α) : Prop where
  out : ∀ {H : Type} {enc : TypeId × Value → H} {w : World} {fuel : Nat} {cs : List Value} {x : DataW H × List MemPlace}, DataW.trod enc P w 0 (fun _ => true) true fuel r.t cs = some x →
    ∃ a, r.d.K w a cs ∧ r.ok a ∧ ((∀ n ∈ x.1.weights P r.t, n ≤ reachBytes) → r.wt a) ∧ r.bk a ≤ Rows.uptoBulk x.1
def rdInt (t : TypeId) (k : IntKind) : Rd Int := ⟨t, Kd.int k, fun a => (Lit.int k a).wf = true, fun _ => True, fun _ => 1⟩
def rdBool (t : TypeId) : Rd Bool := ⟨t, Kd.bool, fun _ => True, fun _ => True, fun _ => 1⟩
def rdString (t : TypeId) : Rd ByteArray := ⟨t, Kd.string, fun a => a.size ≤ maxLen, fun a => a.size ≤ reachBytes, fun a => a.size + 1⟩
def rdSlice {α : Type} (t : TypeId) (B : Nat) (r : Rd α) : Rd (List α) :=
  ⟨t, Kd.slice r.t r.d, fun l => l.length ≤ maxLen ∧ ∀ a ∈ l, r.ok a, fun l => l.length * B ≤ reachBytes ∧ ∀ a ∈ l, r.wt a, fun l => (l.map r.bk).sum + 1⟩
section
variable {P : Program}
theorem fit_int {t : TypeId} {k : IntKind} (h : P.underlying t = some (.int k)) : Fits P (rdInt t k) := by
  constructor
  intro H enc w fuel cs x hx
  obtain ⟨n, rfl, rfl, hw⟩ := DataW.trod_int h hx
  exact ⟨n, rfl, hw, fun _ => trivial, by simp [rdInt, Rows.uptoBulk]⟩
theorem fit_string {t : TypeId} (h : P.underlying t = some .string) : Fits P (rdString t) := by
  constructor
  intro H enc w fuel cs x hx
  obtain ⟨s, rfl, rfl, hs⟩ := DataW.trod_string h hx
  have e : s.data.toList.length = s.size := by rw [Array.length_toList]; rfl
  refine ⟨s, rfl, hs, fun hn => ?_, by simp only [rdString, Rows.uptoBulk, e]; exact Nat.le_refl _⟩
  have := hn s.data.toList.length (by simp [DataW.weights])
  rwa [e] at this
theorem bulkAll_map {H α : Type} (f : Nat → DataW H) (g : Nat → α) (bk : α → Nat) (n : Nat) (h : ∀ i, i < n → bk (g i) ≤ Rows.uptoBulk (f i)) : (((List.range n).map g).map bk).sum ≤ Rows.uptoBulkAll ((List.range n).map f) := by
  suffices k : ∀ l : List Nat, (∀ i ∈ l, i < n) → ((l.map g).map bk).sum ≤ Rows.uptoBulkAll (l.map f) from k _ (fun i hi => List.mem_range.1 hi)
  intro l
  induction l with
  | nil => intro _; simp
  | cons i l ih =>
    intro hl
    have h1 := h i (hl i List.mem_cons_self)
    have h2 := ih (fun j hj => hl j (List.mem_cons_of_mem _ hj))
    simp only [List.map_cons, List.sum_cons, Rows.uptoBulkAll]
    omega
theorem weightsAll_mem {H : Type} {e : TypeId} : ∀ {l : List (DataW H)} {d : DataW H} {n : Nat}, d ∈ l → n ∈ d.weights P e → n ∈ DataW.weightsAll P e l
  | x :: l, d, n, hd, hn => by
    simp only [DataW.weightsAll, List.mem_append]
    rcases List.mem_cons.1 hd with rfl | hd
    · exact .inl hn
    · exact .inr (weightsAll_mem hd hn)
theorem fit_slice {α : Type} [Inhabited α] {r : Rd α} (hr : Fits P r) {t : TypeId} {B : Nat} (h : P.underlying t = some (.slice r.t)) (hc : P.cellsOf r.t = r.d.sz) (hB : P.bytesOf r.t = B) : Fits P (rdSlice t B r) := by
  constructor
  intro H enc w fuel cs x hx
  rcases Deep.open_slice h hx with ⟨rfl, rfl⟩ | ⟨a, len, cap, m, n, D, Pl, rfl, _, hl, hm, hmm, rfl, hel⟩
  · exact ⟨[], ⟨none, 0, rfl, Nat.le_refl _, Kd.C_nil _ _⟩, ⟨Nat.zero_le _, by simp⟩, fun _ => ⟨by simp, by simp⟩, by simp [rdSlice, Rows.uptoBulk]⟩
  · simp only [if_true] at hmm
    subst hmm
    obtain ⟨f, hf⟩ := Deep.choose_lt (α := α) (n := len) (p := fun i v => ∃ c, w.cells? 0 (a.add (i * P.cellsOf r.t)) (P.cellsOf r.t) = some c ∧ r.d.K w v c ∧ r.ok v ∧ ((∀ q ∈ (D i).weights P r.t, q ≤ reachBytes) → r.wt v) ∧ r.bk v ≤ Rows.uptoBulk (D i)) (fun i hi => by
      obtain ⟨cs', h1, h2⟩ := hel i (by omega)
      obtain ⟨v, k1, k2, k3, k4⟩ := hr.out h2
      exact ⟨v, cs', h1, k1, k2, k3, k4⟩)
    have hlen : ((List.range len).map f).length = len := by simp
    refine ⟨(List.range len).map f, ⟨some a, m, by rw [hlen], by rw [hlen]; exact hl, ?_⟩, ⟨by rw [hlen]; omega, ?_⟩, fun hw => ⟨?_, ?_⟩, ?_⟩
    · rw [hlen]
      refine ⟨hlen, by unfold maxLen at hm; omega, fun _ => ⟨a, rfl, fun j p hj => ?_⟩⟩
      have hjl : j < len := by
        have := (List.getElem?_eq_some_iff.1 hj).1
        simpa using this
      obtain ⟨c, c1, c2, _⟩ := hf j hjl
      have hp : f j = p := by simpa [List.getElem?_map, List.getElem?_range hjl] using hj
      obtain ⟨_, l2, l3⟩ := World.cells?_some c1
      refine ⟨c, by rw [l2, hc], hp ▸ c2, fun i u hu => ?_⟩
      have hi : i < P.cellsOf r.t := by rw [← l2]; exact (List.getElem?_eq_some_iff.1 hu).1
      rw [← hc, ← Deep.add_add, l3 i hi]
      exact hu
    · intro v hv
      obtain ⟨i, hi, rfl⟩ := List.mem_map.1 hv
      obtain ⟨c, _, _, h3, _⟩ := hf i (List.mem_range.1 hi)
      exact h3
    · have := hw ((((List.range len).map D).length + ((List.range (m - len)).map fun j => D (len + j)).length) * P.bytesOf r.t) (by show _ ∈ DataW.weights P t _; simp only [DataW.weights, h]; exact List.mem_cons_self)
      rw [hlen]
      rw [hB] at this
      simp only [List.length_map, List.length_range] at this
      exact Nat.le_trans (Nat.mul_le_mul_right _ (by omega)) this
    · intro v hv
      obtain ⟨i, hi, rfl⟩ := List.mem_map.1 hv
      obtain ⟨c, _, _, _, h4, _⟩ := hf i (List.mem_range.1 hi)
      refine h4 (fun q hq => hw q ?_)
      show _ ∈ DataW.weights P t _
      simp only [DataW.weights, h]
      exact List.mem_cons_of_mem _ (List.mem_append_left _ (weightsAll_mem (List.mem_map.2 ⟨i, hi, rfl⟩) hq))
    · simp only [rdSlice, Rows.uptoBulk]
      have := bulkAll_map D f r.bk len (fun i hi => (hf i hi).choose_spec.2.2.2.2)
      omega
structure FieldsFit {β : Type} (P : Program) (fs : List Field) (o : Nat) (d : Kd β) (ok wt : β → Prop) (bk : β → Nat) : Prop where
  out : ∀ {H : Type} {enc : TypeId × Value → H} {w : World} {n : Nat} {cs : List Value} {xs : List (DataW H × List MemPlace)}, xs.length = fs.length → cs.length = o + d.sz →
    (∀ (i : Nat) (f : Field), fs[i]? = some f → DataW.trod enc P w 0 (fun _ => true) true n f.type ((cs.drop f.offset).take (P.cellsOf f.type)) = xs[i]?) →
    ∃ b, d.K w b (cs.drop o) ∧ ok b ∧ ((∀ q ∈ DataW.weightsEach P (fs.map (·.type)) (xs.map (·.1)), q ≤ reachBytes) → wt b) ∧ bk b ≤ Rows.uptoBulkAll (xs.map (·.1))
theorem fields_one {α : Type} {r : Rd α} (hr : Fits P r) {f : Field} (ht : f.type = r.t) {o : Nat} (ho : f.offset = o) (hc : P.cellsOf r.t = r.d.sz) : FieldsFit P [f] o r.d r.ok r.wt r.bk := by
  constructor
  intro H enc w n cs xs hl hcs hx
  match xs, hl with
  | [x], _ =>
    have h := hx 0 f rfl
    rw [ho, ht, hc, List.take_of_length_le (by rw [List.length_drop]; omega)] at h
    obtain ⟨a, h1, h2, h3, h4⟩ := hr.out h
    refine ⟨a, h1, h2, fun hq => h3 (fun q hm => hq q ?_), by simp [Rows.uptoBulkAll]; omega⟩
    simp only [List.map_cons, List.map_nil, DataW.weightsEach, List.mem_append, ht]
    exact .inl hm
theorem fields_cons {α β : Type} {r : Rd α} (hr : Fits P r) {f : Field} (ht : f.type = r.t) {fs : List Field} {o o' : Nat} (ho : f.offset = o) (hc : P.cellsOf r.t = r.d.sz) (ho' : o' = o + r.d.sz) {d : Kd β} {ok wt : β → Prop} {bk : β → Nat} (hfs : FieldsFit P fs o' d ok wt bk) :
    FieldsFit P (f :: fs) o (Kd.pair r.d d) (fun x => r.ok x.1 ∧ ok x.2) (fun x => r.wt x.1 ∧ wt x.2) (fun x => r.bk x.1 + bk x.2) := by
  constructor
  intro H enc w n cs xs hl hcs hx
  match xs, hl with
  | x :: xs, hl =>
    have h := hx 0 f rfl
    have hcs' : cs.length = o + (r.d.sz + d.sz) := hcs
    rw [ho, ht, hc] at h
    obtain ⟨a, h1, h2, h3, h4⟩ := hr.out h
    obtain ⟨b, k1, k2, k3, k4⟩ := hfs.out (enc := enc) (w := w) (n := n) (cs := cs) (xs := xs) (by simpa using hl) (by omega) (fun i g hg => hx (i + 1) g hg)
    refine ⟨(a, b), ⟨(cs.drop o).take r.d.sz, cs.drop o', ?_, h1, k1⟩, ⟨h2, k2⟩, fun hq => ⟨h3 (fun q hm => hq q ?_), k3 (fun q hm => hq q ?_)⟩, ?_⟩
    · rw [ho', ← List.drop_drop, List.take_append_drop]
    · simp only [List.map_cons, DataW.weightsEach, List.mem_append, ht]
      exact .inl hm
    · simp only [List.map_cons, DataW.weightsEach, List.mem_append]
      exact .inr hm
    · simp only [List.map_cons, Rows.uptoBulkAll]; omega
def rdStruct {α β : Type} (t : TypeId) (d : Kd β) (f : α → β) (ok wt : β → Prop) (bk : β → Nat) : Rd α := ⟨t, Kd.iso d f, fun a => ok (f a), fun a => wt (f a), fun a => bk (f a) + 1⟩
theorem fit_struct {α β : Type} {t : TypeId} {fs : List Field} {d : Kd β} {ok wt : β → Prop} {bk : β → Nat} (hfs : FieldsFit P fs 0 d ok wt bk) (h : P.underlying t = some (.struct fs.toArray)) (hc : P.cellsOf t = d.sz) (f : α → β) (g : β → α) (hfg : ∀ b, f (g b) = b) : Fits P (rdStruct t d f ok wt bk) := by
  constructor
  intro H enc w fuel cs x hx
  obtain ⟨xs, n, rfl, rfl, hl, hn, hf⟩ := DataW.trod_struct h hx
  obtain ⟨b, k1, k2, k3, k4⟩ := hfs.out (enc := enc) (w := w) (n := n) (cs := cs) (xs := xs) (by simpa using hn) (by omega) (fun i g hg => hf i g (by simpa using hg))
  refine ⟨g b, ?_, ?_, fun hq => ?_, ?_⟩
  · show d.K w (f (g b)) cs
    rw [hfg]
    exact k1
  · show ok (f (g b))
    rw [hfg]
    exact k2
  · show wt (f (g b))
    rw [hfg]
    refine k3 (fun q hm => hq q ?_)
    show _ ∈ DataW.weights P t _
    simp only [DataW.weights, h]
    exact hm
  · show bk (f (g b)) + 1 ≤ _
    rw [hfg]
    simp only [Rows.uptoBulk]
    omega
end
theorem fit_arg {α H : Type} {P : Program} {r : Rd α} (hr : Fits P r) {enc : TypeId × Value → H} {w : World} {v : Value} {d : DataW H} {ps : List MemPlace} (h : DataW.Trod enc P w 0 (fun _ => true) true r.t v d ps) :
    ∃ a, r.d.K w a v.cells.toList ∧ r.ok a ∧ ((∀ n ∈ d.weights P r.t, n ≤ reachBytes) → r.wt a) ∧ r.bk a ≤ Rows.uptoBulk d := by
  obtain ⟨fuel, hf⟩ := h
  exact hr.out hf
end Go.Proofs.Ytfhjimeigelibaa.Px

namespace Go.Proofs.Ytfhjimeigelibaa.Px
open Go.RowKit Go.Proofs.Ytfhjimeigelibaa.Px Go.Proofs.YtfhjimeigelibaaW.PrintWords Go.Proofs.YtfhjimeigelibaaW.PrintLast Go.Proofs.YtfhjimeigelibaaW.PrintMore
set_option linter.unusedVariables false
instance : Inhabited S24 := ⟨z24⟩
def rd24 : Rd S24 := rdStruct 24 (Kd.pair (rdInt 3 .i64).d (Kd.pair (rdInt 3 .i64).d (rdSlice 22 16 (rdString 9)).d)) (fun x : S24 => (x.f0, x.f1, x.f2)) (fun y => (rdInt 3 .i64).ok y.1 ∧ ((rdInt 3 .i64).ok y.2.1 ∧ ((rdSlice 22 16 (rdString 9)).ok y.2.2))) (fun y => (rdInt 3 .i64).wt y.1 ∧ ((rdInt 3 .i64).wt y.2.1 ∧ ((rdSlice 22 16 (rdString 9)).wt y.2.2))) (fun y => (rdInt 3 .i64).bk y.1 + ((rdInt 3 .i64).bk y.2.1 + ((rdSlice 22 16 (rdString 9)).bk y.2.2)))
theorem fit24 : Fits Try.prog rd24 :=
  fit_struct (fields_cons (o := 0) (o' := 1) (ok := fun (y : Int × (List ByteArray)) => (rdInt 3 .i64).ok y.1 ∧ ((rdSlice 22 16 (rdString 9)).ok y.2)) (wt := fun (y : Int × (List ByteArray)) => (rdInt 3 .i64).wt y.1 ∧ ((rdSlice 22 16 (rdString 9)).wt y.2)) (bk := fun (y : Int × (List ByteArray)) => (rdInt 3 .i64).bk y.1 + ((rdSlice 22 16 (rdString 9)).bk y.2)) (fit_int Try.underlying3) rfl rfl (by kernel_rfl) rfl (fields_cons (o := 1) (o' := 2) (ok := fun (y : (List ByteArray)) => (rdSlice 22 16 (rdString 9)).ok y) (wt := fun (y : (List ByteArray)) => (rdSlice 22 16 (rdString 9)).wt y) (bk := fun (y : (List ByteArray)) => (rdSlice 22 16 (rdString 9)).bk y) (fit_int Try.underlying3) rfl rfl (by kernel_rfl) rfl (fields_one (fit_slice (fit_string Try.underlying9) Try.underlying22 (by kernel_rfl) (by kernel_rfl)) rfl rfl (by kernel_rfl)))) Try.underlying24 (by kernel_rfl) (fun x : S24 => (x.f0, x.f1, x.f2)) (fun y => ⟨y.1, y.2.1, y.2.2⟩) (fun _ => rfl)
def selvedgelaw07_BatchTurned_PureS : Prop := ∀ (a0 : S24) (a1 : Int) (a2 : Int), rd24.ok a0 → (rdInt 3 .i64).ok a1 → (rdInt 5 .u8).ok a2 → rd24.wt a0 → (rdInt 3 .i64).wt a1 → (rdInt 5 .u8).wt a2 → selvedgelaw07_BatchTurned.f (a0.f0) (a0.f1) (a0.f2) a1 a2 = some true
end Go.Proofs.Ytfhjimeigelibaa.Px

namespace Go.Proofs.Ytfhjimeigelibaa.Pure
open Go.RowKit Go.Proofs.Ytfhjimeigelibaa.Px Go.Proofs.YtfhjimeigelibaaW.PrintWords Go.Proofs.YtfhjimeigelibaaW.PrintLast Go.Proofs.YtfhjimeigelibaaW.PrintMore
theorem BatchTurned : selvedgelaw07_BatchTurned_PureS := by
  rintro a0 a1 a2 _ hi hx ⟨_, _, k1, _⟩ _ _
  have hl : a0.f2.length < 4611686018427387904 := by
    have : a0.f2.length * 16 ≤ 140737488351232 := k1
    omega
  obtain ⟨i0, i1⟩ := i64_wf hi
  obtain ⟨x0, x1⟩ := u8_wf hx
  exact if_pos ⟨hl, by omega, by omega, by omega, by omega⟩
end Go.Proofs.Ytfhjimeigelibaa.Pure
