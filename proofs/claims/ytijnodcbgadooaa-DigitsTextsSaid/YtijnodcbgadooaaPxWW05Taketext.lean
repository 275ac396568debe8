-- printed by this session's pprint.py (the kit's print, with this session's plugs) out of the translation; Lean checks it
import Derived.Test.YtijnodcbgadooaaPx0
import Derived.Test.YtijnodcbgadooaaPxDigitsTakeText
import Derived.Test.YtijnodcbgadooaaPxSelvedgeref01TakeText
import Derived.Test.YtijnodcbgadooaaPxWW00Ev
import Derived.Test.YtijnodcbgadooaaPxWW01Be
import Derived.Test.YtijnodcbgadooaaPxWW03Takenum
namespace Go.Proofs.Ytijnodcbgadooaa.Px
open Go.RowKit Go.Proofs.YtijnodcbgadooaaW.PrintWords Go.Proofs.YtijnodcbgadooaaW.PrintLast Go.Proofs.YtijnodcbgadooaaW.PrintMore
attribute [local go_sem] max2_int min2_int max_two min_two max_three min_three max_four min_four   -- for this text's walks alone
set_option linter.unusedVariables false
set_option linter.unusedSimpArgs false

/-! ### words: w05_taketext.tpl -/

/-! taking a text -/
def takeTextOf (v : Nat) (r : Bs) (most : Int) : Bs × Bs × Int :=
  if most < 0 ∨ most < (v : Int) then ([], [], 4) else if r.length < v then ([], [], 2) else (r.take v, r.drop v, 0)
def takeTextIf (q : Nat × Bs × Int) (most : Int) : Bs × Bs × Int := if q.2.2 = 0 then takeTextOf q.1 q.2.1 most else ([], [], q.2.2)
def takeTextL (s : Bs) (most : Int) : Bs × Bs × Int := takeTextIf (takeNumL s) most
def takeTextB (s : ByteArray) (most : Int) : ByteArray × ByteArray × Int := (toB (takeTextL (ofB s) most).1, toB (takeTextL (ofB s) most).2.1, (takeTextL (ofB s) most).2.2)
theorem takeNumL_len (s : Bs) : (takeNumL s).2.1.length ≤ s.length := by
  rcases s with _ | ⟨c, t⟩
  · simp [takeNumL]
  · simp only [takeNumL]
    (repeat' split) <;> simp <;> omega
theorem takeNumL_val (s : Bs) : (takeNumL s).1 < 18446744073709551616 := by
  rcases h : takeNumL s with ⟨v, r, e⟩
  rcases takeNumL_err h with he | ⟨hv, _⟩
  · subst he; exact (takeNumL_ok h).2
  · show v < _; omega
theorem extract_toB (l : Bs) (i j : Nat) : (toB l).extract i j = toB ((l.drop i).take (j - i)) := ofB_inj (by rw [ofB_extract, ofB_toB, ofB_toB])
theorem takeText_end (v : Nat) (r : Bs) (h : ¬ r.length < v) : ((toB r).extract 0 v, (toB r).extract v (toB r).size) = (toB (r.take v), toB (r.drop v)) := by
  rw [extract_toB, extract_toB, toB_size, List.drop_zero, Nat.sub_zero, List.take_of_length_le (l := r.drop v) (by rw [List.length_drop]; omega)]
theorem takeText_ev (s : ByteArray) (most : Int) (hs : s.size < 4611686018427387904) (hw : (Lit.int .i64 most).wf = true) : Ev (fun k => digits_TakeText.f k s most) (takeTextB s most) := by
  obtain ⟨m0, m1⟩ := i64_wf hw
  have hv := takeNumL_val (ofB s)
  have hl := takeNumL_len (ofB s)
  rw [ofB_length] at hl
  refine Ev.bind (takeNum_ev s hs) ?_
  rcases hq : takeNumL (ofB s) with ⟨v, r, e⟩
  rw [hq] at hv hl
  simp only [takeNumB, takeTextB, takeTextL, hq]
  simp only at hv hl
  by_cases he : e = 0
  · subst he
    refine ev_pos rfl ?_
    have hj : ∀ b : Bool, (b = true ↔ (most < 0 ∨ most < (v : Int))) → Ev (fun k => digits_TakeText.j0 k (v : Int) (toB r) b) (toB (takeTextOf v r most).1, toB (takeTextOf v r most).2.1, (takeTextOf v r most).2.2) := by
      intro b hb
      refine Ev.step (fun k => by rw [digits_TakeText.j0]) ?_
      by_cases h4 : most < 0 ∨ most < (v : Int)
      · rw [takeTextOf, if_pos h4]
        exact ev_pos (hb.2 h4) (Ev.now _)
      · rw [takeTextOf, if_neg h4]
        refine ev_neg (fun h => h4 (hb.1 h)) ?_
        rw [toB_size, u64_wrap_of (by omega) (by omega)]
        by_cases h2 : r.length < v
        · rw [if_pos h2]
          exact ev_pos (by omega) (Ev.now _)
        · rw [if_neg h2]
          refine ev_neg (by omega) (ev_pos (by omega) (ev_pos (by omega) ?_))
          rw [Int.toNat_natCast]
          have hx := takeText_end v r h2
          rw [toB_size] at hx
          injection hx with hx1 hx2
          rw [hx1, hx2]
          exact Ev.now _
    by_cases hm : most < 0
    · exact ev_pos hm (hj true (by simp [hm]))
    · refine ev_neg hm ?_
      rw [u64_wrap_of (by omega) (by omega)]
      exact hj _ (by simp; omega)
  · refine ev_neg he ?_
    rw [takeTextIf, if_neg he]
    exact Ev.now _
theorem refTakeText_ev (s : ByteArray) (most : Int) (hs : s.size < 4611686018427387904) (hw : (Lit.int .i64 most).wf = true) : Ev (fun k => selvedgeref01_TakeText.f k s most) (takeTextB s most) := by
  obtain ⟨m0, m1⟩ := i64_wf hw
  have hv := takeNumL_val (ofB s)
  have hl := takeNumL_len (ofB s)
  rw [ofB_length] at hl
  refine Ev.bind (refTakeNum_ev s hs) ?_
  rcases hq : takeNumL (ofB s) with ⟨v, r, e⟩
  rw [hq] at hv hl
  simp only [takeNumB, takeTextB, takeTextL, hq]
  simp only at hv hl
  by_cases he : e = 0
  · subst he
    refine ev_pos rfl ?_
    have hj : ∀ b : Bool, (b = true ↔ (most < 0 ∨ most < (v : Int))) → Ev (fun k => selvedgeref01_TakeText.j0 k (v : Int) (toB r) b) (toB (takeTextOf v r most).1, toB (takeTextOf v r most).2.1, (takeTextOf v r most).2.2) := by
      intro b hb
      refine Ev.step (fun k => by rw [selvedgeref01_TakeText.j0]) ?_
      by_cases h4 : most < 0 ∨ most < (v : Int)
      · rw [takeTextOf, if_pos h4]
        exact ev_pos (hb.2 h4) (Ev.now _)
      · rw [takeTextOf, if_neg h4]
        refine ev_neg (fun h => h4 (hb.1 h)) ?_
        rw [toB_size, u64_wrap_of (by omega) (by omega)]
        by_cases h2 : r.length < v
        · rw [if_pos h2]
          exact ev_pos (by omega) (Ev.now _)
        · rw [if_neg h2]
          refine ev_neg (by omega) (ev_pos (by omega) (ev_pos (by omega) ?_))
          rw [Int.toNat_natCast]
          have hx := takeText_end v r h2
          rw [toB_size] at hx
          injection hx with hx1 hx2
          rw [hx1, hx2]
          exact Ev.now _
    by_cases hm : most < 0
    · exact ev_pos hm (hj true (by simp [hm]))
    · refine ev_neg hm ?_
      rw [u64_wrap_of (by omega) (by omega)]
      exact hj _ (by simp; omega)
  · refine ev_neg he ?_
    rw [takeTextIf, if_neg he]
    exact Ev.now _


end Go.Proofs.Ytijnodcbgadooaa.Px
