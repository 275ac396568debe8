/- part 12 of the proof of the law VertexTakes: texts merged by this session's bundle.py. What is proved: the statement at the end of the last of these texts; its conditions are those of the given row. -/
import Derived.WalkLawsBesides
import Derived.Test.YtfhjimeigelibaaZVertexTakesC
import Derived.Test.YtfhjimeigelibaaZVertexTakesG
namespace Go.Proofs.Ytfhjimeigelibaa.Px
open Go.RowKit Go.Proofs.YtfhjimeigelibaaW.PrintWords Go.Proofs.YtfhjimeigelibaaW.PrintLast Go.Proofs.YtfhjimeigelibaaW.PrintMore
attribute [local go_sem] max2_int min2_int max_two min_two max_three min_three max_four min_four
set_option linter.unusedVariables false
set_option linter.unusedSimpArgs false
def digits_TakeText.j0 : Nat → Int → ByteArray → Bool → Option (ByteArray × ByteArray × Int)
  | 0, _, _, _ => none
  | k + 1, x7, x8, x20 => if x20 = true then (some ((⟨#[]⟩ : ByteArray), (⟨#[]⟩ : ByteArray), 4)) else (if x7 > (IntKind.u64.wrap ((x8.size : Int))) then (some ((⟨#[]⟩ : ByteArray), (⟨#[]⟩ : ByteArray), 2)) else (if 0 ≤ x7 then (if x7 ≤ (x8.size : Int) then (some (x8.extract 0 (x7 : Int).toNat, x8.extract (x7 : Int).toNat x8.size, 0)) else (none)) else (none)))
def digits_TakeText.f (k : Nat) (a0 : ByteArray) (a1 : Int) : Option (ByteArray × ByteArray × Int) := (digits_TakeNum.f k a0).bind fun bt111 => (if bt111.2.2 = 0 then (if a1 < 0 then (digits_TakeText.j0 k bt111.1 bt111.2.1 true) else (digits_TakeText.j0 k bt111.1 bt111.2.1 (decide (bt111.1 > (IntKind.u64.wrap (a1)))))) else (some ((⟨#[]⟩ : ByteArray), (⟨#[]⟩ : ByteArray), bt111.2.2)))
set_option maxHeartbeats 8000000 in
set_option maxRecDepth 100000 in
theorem digits_TakeText.calls (k : Nat) (a0 : ByteArray) (a1 : Int) (r1 : ByteArray) (r2 : ByteArray) (r3 : Int) (w : World) (h : digits_TakeText.f k a0 a1 = some (r1, r2, r3)) :
    Calls Try.prog 47 #[.string a0, .int .i64 a1] w fun e w' => e = .returned (.tuple #[.string r1, .string r2, .int .i64 r3]) ∧ Drawn0 w w' := by
  have H : ((digits_TakeNum.f k a0).bind fun bt111 => (if bt111.2.2 = 0 then (if a1 < 0 then (digits_TakeText.j0 k bt111.1 bt111.2.1 true) else (digits_TakeText.j0 k bt111.1 bt111.2.1 (decide (bt111.1 > (IntKind.u64.wrap (a1)))))) else (some ((⟨#[]⟩ : ByteArray), (⟨#[]⟩ : ByteArray), bt111.2.2)))) = some (r1, r2, r3) := h
  clear h
  replace H := Option.bind_eq_some_iff.mp H
  obtain ⟨⟨t111, t112, t113⟩, A30, H⟩ := H
  replace H : (if t113 = 0 then (if a1 < 0 then (digits_TakeText.j0 k t111 t112 true) else (digits_TakeText.j0 k t111 t112 (decide (t111 > (IntKind.u64.wrap (a1)))))) else (some ((⟨#[]⟩ : ByteArray), (⟨#[]⟩ : ByteArray), t113))) = some (r1, r2, r3) := H
  have A3 := Aside0.mk A30
  clear A30
  by_cases c4 : t113 = 0
  · rw [if_pos c4] at H
    have c4b0 : (t113 == 0) = true := beq_iff_eq.mpr c4
    have c4b1 : (t113 != 0) = false := bne_eq_false_iff_eq.mpr c4
    clear c4
    have HC5 := Aside0.mk H
    clear H
    go_enter Try.func47, Try.ntmps47
    go_upto_region 4 with (first | (go_at_call 20; (with_reducible refine (digits_TakeNum.calls k a0 t111 t112 t113 _ A3.out).mono ?_); rintro e w' ⟨rfl, ⟨nd, rfl⟩⟩; (try first | exact ⟨rfl, _, World.drewN_drewN _ _ _⟩ | exact ⟨rfl, _, Eq.trans (World.drewN_drewN _ _ _) (congrArg (World.drewN _) (Nat.add_assoc _ _ _))⟩)))
    repeat (go_quiet (first | (go_at_call 20; (with_reducible refine (digits_TakeNum.calls k a0 t111 t112 t113 _ A3.out).mono ?_); rintro e w' ⟨rfl, ⟨nd, rfl⟩⟩; (try first | exact ⟨rfl, _, World.drewN_drewN _ _ _⟩ | exact ⟨rfl, _, Eq.trans (World.drewN_drewN _ _ _) (congrArg (World.drewN _) (Nat.add_assoc _ _ _))⟩))); go_upto_region 4 with (first | (go_at_call 20; (with_reducible refine (digits_TakeNum.calls k a0 t111 t112 t113 _ A3.out).mono ?_); rintro e w' ⟨rfl, ⟨nd, rfl⟩⟩; (try first | exact ⟨rfl, _, World.drewN_drewN _ _ _⟩ | exact ⟨rfl, _, Eq.trans (World.drewN_drewN _ _ _) (congrArg (World.drewN _) (Nat.add_assoc _ _ _))⟩))))
    (try simp only [Act.put, List.setIfInBounds_toArray, List.set_cons_zero, List.set_cons_succ])
    go_cut [20] (fun v20 wc => ∃ (kq : Nat) (x20_4 : Bool), v20 = .bool x20_4 ∧ Aside0 (digits_TakeText.j0 kq t111 t112 x20_4 = some (r1, r2, r3)) ∧ Aside0 (kq ≤ k) ∧ Drawn0 w wc)
    case first =>
      have H := HC5.out
      clear HC5
      by_cases c6 : a1 < 0
      · rw [if_pos c6] at H
        have c6b0 : decide (a1 < 0) = true := decide_eq_true c6
        clear c6
        (first | rw [c6b0] | (simp only [i64_w, i32_w]; rw [c6b0]) | skip)
        have H' := Aside0.mk H
        clear H
        go_wp2
        repeat (go_quiet (fail); try go_wp2)
        go_meet
        case rel => exact ⟨_, (true), (by first | rfl | (simp; done) | (simp [*]; done)), H', ⟨by first | omega | exact Nat.le_refl _⟩, by repeat (first | exact Drawn0.refl _ | apply Drawn0.step)⟩
      · rw [if_neg c6] at H
        have c6b0 : decide (a1 < 0) = false := decide_eq_false c6
        clear c6
        (first | rw [c6b0] | (simp only [i64_w, i32_w]; rw [c6b0]) | skip)
        have H' := Aside0.mk H
        clear H
        go_wp2
        repeat (go_quiet (fail); try go_wp2)
        go_meet
        case rel => exact ⟨_, (decide (t111 > (IntKind.u64.wrap (a1)))), (by first | rfl | (simp; done) | (simp [*]; done)), H', ⟨by first | omega | exact Nat.le_refl _⟩, by repeat (first | exact Drawn0.refl _ | apply Drawn0.step)⟩
    case rest =>
      clear HC5
      try clear p2
      try clear c4
      try clear c4b0
      try clear c4b1
      try clear c6
      try clear c6b0
      obtain ⟨kq, x20_4, rfl, HA, HJ4, ⟨mc4, rfl⟩⟩ := hcut
      cases kq with
      | zero => exact absurd HA.out (by simp [digits_TakeText.j0])
      | succ kj4 =>
        have H := HA.out
        clear HA
        simp only [digits_TakeText.j0] at H
        by_cases c7 : x20_4 = true
        · subst c7
          have H1 : (some ((⟨#[]⟩ : ByteArray), (⟨#[]⟩ : ByteArray), 4)) = some (r1, r2, r3) := by rw [if_pos rfl] at H; exact H
          clear H
          have H := H1
          clear H1
          simp only [Option.some.injEq, Prod.mk.injEq] at H
          obtain ⟨rfl, rfl, rfl⟩ := H
          go_wp2
          repeat (go_quiet (fail); try go_wp2)
          go_ret3
          exact ⟨by first | rfl | (simp; done) | (simp [*]; done), by repeat (first | exact Drawn0.refl _ | apply Drawn0.step)⟩
        · replace c7 := Bool.eq_false_iff.mpr c7
          subst c7
          have H1 : (if t111 > (IntKind.u64.wrap ((t112.size : Int))) then (some ((⟨#[]⟩ : ByteArray), (⟨#[]⟩ : ByteArray), 2)) else (if 0 ≤ t111 then (if t111 ≤ (t112.size : Int) then (some (t112.extract 0 (t111 : Int).toNat, t112.extract (t111 : Int).toNat t112.size, 0)) else (none)) else (none))) = some (r1, r2, r3) := by rw [if_neg (show ¬ (false = true) by decide)] at H; exact H
          clear H
          have H := H1
          clear H1
          by_cases c8 : t111 > (IntKind.u64.wrap ((t112.size : Int)))
          · rw [if_pos c8] at H
            have c8b0 : decide ((IntKind.u64.wrap ((t112.size : Int))) < t111) = true := decide_eq_true c8
            clear c8
            simp only [Option.some.injEq, Prod.mk.injEq] at H
            obtain ⟨rfl, rfl, rfl⟩ := H
            go_wp2
            repeat (go_quiet (fail); try go_wp2)
            go_ret3
            exact ⟨by first | rfl | (simp; done) | (simp [*]; done), by repeat (first | exact Drawn0.refl _ | apply Drawn0.step)⟩
          · rw [if_neg c8] at H
            have c8b0 : decide ((IntKind.u64.wrap ((t112.size : Int))) < t111) = false := decide_eq_false c8
            clear c8
            by_cases c9 : 0 ≤ t111
            · rw [if_pos c9] at H
              have c9b0 := eq_true c9
              have c9b1 : decide (0 ≤ t111) = true := decide_eq_true c9
              clear c9
              by_cases c10 : t111 ≤ (t112.size : Int)
              · rw [if_pos c10] at H
                have c10b0 := eq_true c10
                have c10b1 : decide (t111 ≤ (t112.size : Int)) = true := decide_eq_true c10
                clear c10
                have c11b0 := eq_true (of_decide_eq_true (by first | (with_reducible assumption) | assumption) : 0 ≤ t111)
                have c12b0 := eq_true (of_decide_eq_true (by first | (with_reducible assumption) | assumption) : t111 ≤ (t112.size : Int))
                simp only [Option.some.injEq, Prod.mk.injEq] at H
                obtain ⟨rfl, rfl, rfl⟩ := H
                go_wp2
                repeat (go_quiet (fail); try go_wp2)
                go_ret3
                exact ⟨by first | rfl | (simp; done) | (simp [*]; done), by repeat (first | exact Drawn0.refl _ | apply Drawn0.step)⟩
              · rw [if_neg c10] at H
                exact absurd H (by simp)
            · rw [if_neg c9] at H
              exact absurd H (by simp)
  · rw [if_neg c4] at H
    have c4b0 : (t113 == 0) = false := beq_eq_false_iff_ne.mpr c4
    have c4b1 : (t113 != 0) = true := bne_iff_ne.mpr c4
    simp only [Option.some.injEq, Prod.mk.injEq] at H
    obtain ⟨rfl, rfl, rfl⟩ := H
    go_enter Try.func47, Try.ntmps47
    go_wp2_with (first | (go_at_call 20; (with_reducible refine (digits_TakeNum.calls k a0 t111 t112 t113 _ A3.out).mono ?_); rintro e w' ⟨rfl, ⟨nd, rfl⟩⟩; (try first | exact ⟨rfl, _, World.drewN_drewN _ _ _⟩ | exact ⟨rfl, _, Eq.trans (World.drewN_drewN _ _ _) (congrArg (World.drewN _) (Nat.add_assoc _ _ _))⟩)))
    repeat (go_quiet (first | (go_at_call 20; (with_reducible refine (digits_TakeNum.calls k a0 t111 t112 t113 _ A3.out).mono ?_); rintro e w' ⟨rfl, ⟨nd, rfl⟩⟩; (try first | exact ⟨rfl, _, World.drewN_drewN _ _ _⟩ | exact ⟨rfl, _, Eq.trans (World.drewN_drewN _ _ _) (congrArg (World.drewN _) (Nat.add_assoc _ _ _))⟩))); try go_wp2_with (first | (go_at_call 20; (with_reducible refine (digits_TakeNum.calls k a0 t111 t112 t113 _ A3.out).mono ?_); rintro e w' ⟨rfl, ⟨nd, rfl⟩⟩; (try first | exact ⟨rfl, _, World.drewN_drewN _ _ _⟩ | exact ⟨rfl, _, Eq.trans (World.drewN_drewN _ _ _) (congrArg (World.drewN _) (Nat.add_assoc _ _ _))⟩))))
    go_ret3
    exact ⟨by first | rfl | (simp; done) | (simp [*]; done), by repeat (first | exact Drawn0.refl _ | apply Drawn0.step)⟩
end Go.Proofs.Ytfhjimeigelibaa.Px

namespace Go.Proofs.Ytfhjimeigelibaa.Px
open Go.RowKit Go.Proofs.YtfhjimeigelibaaW.PrintWords Go.Proofs.YtfhjimeigelibaaW.PrintLast Go.Proofs.YtfhjimeigelibaaW.PrintMore
attribute [local go_sem] max2_int min2_int max_two min_two max_three min_three max_four min_four
set_option linter.unusedVariables false
set_option linter.unusedSimpArgs false
def takeTextOf (v : Nat) (r : Bs) (most : Int) : Bs × Bs × Int :=
  if most < 0 ∨ most < (v : Int) then ([], [], 4) else if r.length < v then ([], [], 2) else (r.take v, r.drop v, 0)
def takeTextIf (q : Nat × Bs × Int) (most : Int) : Bs × Bs × Int := if q.2.2 = 0 then takeTextOf q.1 q.2.1 most else ([], [], q.2.2)
def takeTextL (s : Bs) (most : Int) : Bs × Bs × Int := takeTextIf (takeNumL s) most
def takeTextB (s : ByteArray) (most : Int) : ByteArray × ByteArray × Int := (toB (takeTextL (ofB s) most).1, toB (takeTextL (ofB s) most).2.1, (takeTextL (ofB s) most).2.2)
theorem takeNumL_len (s : Bs) : (takeNumL s).2.1.length ≤ s.length := by
  rcases s with _ | ⟨c, t⟩
  · simp [takeNumL]
  · simp only [takeNumL]
    (repeat' split) <;> simp <;> omega
theorem takeNumL_val (s : Bs) : (takeNumL s).1 < 18446744073709551616 := by
  rcases h : takeNumL s with ⟨v, r, e⟩
  rcases takeNumL_err h with he | ⟨hv, _⟩
  · subst he; exact (takeNumL_ok h).2
  · show v < _; omega
theorem extract_toB (l : Bs) (i j : Nat) : (toB l).extract i j = toB ((l.drop i).take (j - i)) := ofB_inj (by rw [ofB_extract, ofB_toB, ofB_toB])
theorem takeText_end (v : Nat) (r : Bs) (h : ¬ r.length < v) : ((toB r).extract 0 v, (toB r).extract v (toB r).size) = (toB (r.take v), toB (r.drop v)) := by
  rw [extract_toB, extract_toB, toB_size, List.drop_zero, Nat.sub_zero, List.take_of_length_le (l := r.drop v) (by rw [List.length_drop]; omega)]
theorem takeText_ev (s : ByteArray) (most : Int) (hs : s.size < 4611686018427387904) (hw : (Lit.int .i64 most).wf = true) : Ev (fun k => digits_TakeText.f k s most) (takeTextB s most) := by
  obtain ⟨m0, m1⟩ := i64_wf hw
  have hv := takeNumL_val (ofB s)
  have hl := takeNumL_len (ofB s)
  rw [ofB_length] at hl
  refine Ev.bind (takeNum_ev s hs) ?_
  rcases hq : takeNumL (ofB s) with ⟨v, r, e⟩
  rw [hq] at hv hl
  simp only [takeNumB, takeTextB, takeTextL, hq]
  simp only at hv hl
  by_cases he : e = 0
  · subst he
    refine ev_pos rfl ?_
    have hj : ∀ b : Bool, (b = true ↔ (most < 0 ∨ most < (v : Int))) → Ev (fun k => digits_TakeText.j0 k (v : Int) (toB r) b) (toB (takeTextOf v r most).1, toB (takeTextOf v r most).2.1, (takeTextOf v r most).2.2) := by
      intro b hb
      refine Ev.step (fun k => by rw [digits_TakeText.j0]) ?_
      by_cases h4 : most < 0 ∨ most < (v : Int)
      · rw [takeTextOf, if_pos h4]
        exact ev_pos (hb.2 h4) (Ev.now _)
      · rw [takeTextOf, if_neg h4]
        refine ev_neg (fun h => h4 (hb.1 h)) ?_
        rw [toB_size, u64_wrap_of (by omega) (by omega)]
        by_cases h2 : r.length < v
        · rw [if_pos h2]
          exact ev_pos (by omega) (Ev.now _)
        · rw [if_neg h2]
          refine ev_neg (by omega) (ev_pos (by omega) (ev_pos (by omega) ?_))
          rw [Int.toNat_natCast]
          have hx := takeText_end v r h2
          rw [toB_size] at hx
          injection hx with hx1 hx2
          rw [hx1, hx2]
          exact Ev.now _
    by_cases hm : most < 0
    · exact ev_pos hm (hj true (by simp [hm]))
    · refine ev_neg hm ?_
      rw [u64_wrap_of (by omega) (by omega)]
      exact hj _ (by simp; omega)
  · refine ev_neg he ?_
    rw [takeTextIf, if_neg he]
    exact Ev.now _
theorem refTakeText_ev (s : ByteArray) (most : Int) (hs : s.size < 4611686018427387904) (hw : (Lit.int .i64 most).wf = true) : Ev (fun k => selvedgeref01_TakeText.f k s most) (takeTextB s most) := by
  obtain ⟨m0, m1⟩ := i64_wf hw
  have hv := takeNumL_val (ofB s)
  have hl := takeNumL_len (ofB s)
  rw [ofB_length] at hl
  refine Ev.bind (refTakeNum_ev s hs) ?_
  rcases hq : takeNumL (ofB s) with ⟨v, r, e⟩
  rw [hq] at hv hl
  simp only [takeNumB, takeTextB, takeTextL, hq]
  simp only at hv hl
  by_cases he : e = 0
  · subst he
    refine ev_pos rfl ?_
    have hj : ∀ b : Bool, (b = true ↔ (most < 0 ∨ most < (v : Int))) → Ev (fun k => selvedgeref01_TakeText.j0 k (v : Int) (toB r) b) (toB (takeTextOf v r most).1, toB (takeTextOf v r most).2.1, (takeTextOf v r most).2.2) := by
      intro b hb
      refine Ev.step (fun k => by rw [selvedgeref01_TakeText.j0]) ?_
      by_cases h4 : most < 0 ∨ most < (v : Int)
      · rw [takeTextOf, if_pos h4]
        exact ev_pos (hb.2 h4) (Ev.now _)
      · rw [takeTextOf, if_neg h4]
        refine ev_neg (fun h => h4 (hb.1 h)) ?_
        rw [toB_size, u64_wrap_of (by omega) (by omega)]
        by_cases h2 : r.length < v
        · rw [if_pos h2]
          exact ev_pos (by omega) (Ev.now _)
        · rw [if_neg h2]
          refine ev_neg (by omega) (ev_pos (by omega) (ev_pos (by omega) ?_))
          rw [Int.toNat_natCast]
          have hx := takeText_end v r h2
          rw [toB_size] at hx
          injection hx with hx1 hx2
          rw [hx1, hx2]
          exact Ev.now _
    by_cases hm : most < 0
    · exact ev_pos hm (hj true (by simp [hm]))
    · refine ev_neg hm ?_
      rw [u64_wrap_of (by omega) (by omega)]
      exact hj _ (by simp; omega)
  · refine ev_neg he ?_
    rw [takeTextIf, if_neg he]
    exact Ev.now _
end Go.Proofs.Ytfhjimeigelibaa.Px

namespace Go.Proofs.Ytfhjimeigelibaa.Px
open Go.RowKit Go.Proofs.YtfhjimeigelibaaW.PrintWords Go.Proofs.YtfhjimeigelibaaW.PrintLast Go.Proofs.YtfhjimeigelibaaW.PrintMore
attribute [local go_sem] max2_int min2_int max_two min_two max_three min_three max_four min_four
set_option linter.unusedVariables false
set_option linter.unusedSimpArgs false
def takeTexts (most : Int) : Nat → Bs → List ByteArray → List ByteArray × Bs × Int
  | 0, s, acc => (acc, s, 0)
  | n + 1, s, acc => if (takeTextL s most).2.2 = 0 then takeTexts most n (takeTextL s most).2.1 (acc ++ [toB (takeTextL s most).1]) else ([], [], (takeTextL s most).2.2)
def takeRowIf (q : Nat × Bs × Int) (many most : Int) : List ByteArray × Bs × Int :=
  if q.2.2 = 0 then (if many < 0 ∨ many < (q.1 : Int) then ([], [], 4) else takeTexts most q.1 q.2.1 []) else ([], [], q.2.2)
def takeRowL (s : Bs) (many most : Int) : List ByteArray × Bs × Int := takeRowIf (takeNumL s) many most
theorem takeTextL_short {s : Bs} {most : Int} (h : (takeTextL s most).2.2 = 0) : (takeTextL s most).2.1.length < s.length := by
  unfold takeTextL takeTextIf at h ⊢
  split at h
  · rename_i h0
    rw [if_pos h0]
    unfold takeTextOf at h ⊢
    split at h
    · cases h
    · rename_i h1
      rw [if_neg h1]
      split at h
      · cases h
      · rename_i h2
        rw [if_neg h2]
        rcases hq : takeNumL s with ⟨v, r, e⟩
        rw [hq] at h0
        simp only at h0
        subst h0
        obtain ⟨rfl, _⟩ := takeNumL_ok hq
        simp only [List.length_drop, List.length_append, numL, List.length_cons]
        omega
  · rename_i h0
    exact absurd h h0
end Go.Proofs.Ytfhjimeigelibaa.Px

namespace Go.Proofs.Ytfhjimeigelibaa.Px
open Go.RowKit Go.Proofs.YtfhjimeigelibaaW.PrintWords Go.Proofs.YtfhjimeigelibaaW.PrintLast Go.Proofs.YtfhjimeigelibaaW.PrintMore
attribute [local go_sem] max2_int min2_int max_two min_two max_three min_three max_four min_four
set_option linter.unusedVariables false
set_option linter.unusedSimpArgs false
theorem digits_TakeRow.take1k (s : ByteArray) (most : Int) (hs : s.size < 4611686018427387904) (hw : (Lit.int .i64 most).wf = true) : ∃ k, digits_TakeText.f k s most = some ((takeTextB s most).1, (takeTextB s most).2.1, (takeTextB s most).2.2) := (takeText_ev s most hs hw).rounds
set_option maxRecDepth 100000 in
theorem digits_TakeRow.take1 (s : ByteArray) (most : Int) (b : Nat) (w : World) (hs : s.size < 4611686018427387904) (hw : (Lit.int .i64 most).wf = true) (hc : w.cell? ⟨b, 0, none⟩ = some (.int .i64 most)) :
    Calls Try.prog 46 #[.string s, .pointer (some ⟨b, 0, none⟩)] w fun e w' => e = .returned (.tuple #[.string (takeTextB s most).1, .string (takeTextB s most).2.1, .int .i64 (takeTextB s most).2.2]) ∧ Drawn0 w w' := by
  obtain ⟨k, hk⟩ := digits_TakeRow.take1k s most hs hw
  have HK := Aside0.mk hk
  clear hk hs hw
  generalize takeTextB s most = q at *
  go_enter Try.func46, Try.ntmps46
  go_wp2_with (go_at_call 47; (with_reducible refine (digits_TakeText.calls _ _ _ _ _ _ _ HK.out).mono ?_); rintro e w1 ⟨rfl, hd⟩)
  go_ret3
  exact ⟨rfl, by assumption⟩
theorem digits_TakeRow.info : (Try.prog.info? 9).map (fun i => (i.zero, i.size, i.bytes)) = some (some (.string ⟨#[]⟩), 1, 16) := by kernel_rfl
def digits_TakeRow.Rel (most : Int) (w0 : World) (fin : List ByteArray × Bs × Int) (n j : Nat) (s : ByteArray) (v : Value) (wr : World) : Prop :=
  ∃ acc : List ByteArray, takeTexts most (n - j) (ofB s) acc = fin ∧ acc.length ≤ j ∧ (n ≤ 8796093022207 ∨ acc.length + s.size ≤ 8796093022207) ∧ s.size < 4611686018427387904 ∧ Kd.R Kd.string 9 wr w0.heap.size (fun _ => True) v acc ∧ Below w0.heap.size w0 wr
theorem digits_TakeRow.Rel.step {most : Int} {w0 wr : World} {fin : List ByteArray × Bs × Int} {n j : Nat} {s : ByteArray} {v : Value} (h : digits_TakeRow.Rel most w0 fin n j s v wr) (hj : j < n) (h0 : (takeTextB s most).2.2 = 0) :
    ∃ acc : List ByteArray, (acc.length + 1) * 16 ≤ 140737488355328 ∧ Kd.R Kd.string 9 wr w0.heap.size (fun _ => True) v acc ∧ Below w0.heap.size w0 wr ∧
      ∀ v' w', Kd.R Kd.string 9 w' w0.heap.size (fun _ => True) v' (acc ++ [(takeTextB s most).1]) → Below w0.heap.size w0 w' → digits_TakeRow.Rel most w0 fin n (j + 1) (takeTextB s most).2.1 v' w' := by
  obtain ⟨acc, h1, h2, h3, h4, h5, h6⟩ := h
  have hsh := takeTextL_short (s := ofB s) (most := most) h0
  rw [ofB_length] at hsh
  have e : n - j = (n - (j + 1)) + 1 := by omega
  have h0' : (takeTextL (ofB s) most).2.2 = 0 := h0
  rw [e, takeTexts, if_pos h0'] at h1
  have hsz : (takeTextB s most).2.1.size = (takeTextL (ofB s) most).2.1.length := by rw [takeTextB, toB_size]
  refine ⟨acc, by omega, h5, h6, fun v' w' k1 k2 => ⟨_, ?_, by rw [List.length_append, List.length_singleton]; omega, ?_, by omega, k1, k2⟩⟩
  · rw [show ofB (takeTextB s most).2.1 = (takeTextL (ofB s) most).2.1 by rw [takeTextB, ofB_toB]]
    exact h1
  · rw [List.length_append, List.length_singleton]; omega
theorem digits_TakeRow.Rel.fail {most : Int} {w0 wr : World} {fin : List ByteArray × Bs × Int} {n j : Nat} {s : ByteArray} {v : Value} (h : digits_TakeRow.Rel most w0 fin n j s v wr) (hj : j < n) (h0 : ¬ (takeTextB s most).2.2 = 0) : fin = ([], [], (takeTextB s most).2.2) := by
  obtain ⟨acc, h1, _⟩ := h
  have e : n - j = (n - (j + 1)) + 1 := by omega
  have h0' : ¬ (takeTextL (ofB s) most).2.2 = 0 := h0
  rw [e, takeTexts, if_neg h0'] at h1
  exact h1.symm
set_option maxRecDepth 100000 in
set_option maxHeartbeats 4000000 in
theorem digits_TakeRow.several (s : ByteArray) (n : Nat) (most : Int) (b : Nat) (w : World) (hn : n < 18446744073709551616) (hs : s.size < 4611686018427387904) (hw : (Lit.int .i64 most).wf = true) (hc : w.cell? ⟨b, 0, none⟩ = some (.int .i64 most)) (hroom : s.size ≤ 8796093022207 ∨ n ≤ 8796093022207) (fin : List ByteArray × Bs × Int) (hfin : takeTexts most n (ofB s) [] = fin) :
    Calls Try.prog 45 #[.string s, .int .u64 n, .func (.func 46) #[] #[.pointer (some ⟨b, 0, none⟩)]] w fun e w' => ∃ v0_ : Value, e = .returned (.tuple #[v0_, .string (toB fin.2.1), .int .i64 fin.2.2]) ∧ Kd.R Kd.string 9 w' w.heap.size (fun _ => True) v0_ fin.1 ∧ Below w.heap.size w w' := by
  have HF : Aside0 (digits_TakeRow.Rel most w fin n 0 s (.slice none 0 0) w) := ⟨⟨[], by rw [Nat.sub_zero]; exact hfin, Nat.le_refl _, by simp only [List.length_nil]; omega, hs, Kd.R_nil _ _ _ _ _, Below.refl _ _⟩⟩
  have HW := Aside0.mk hw
  have HC := Aside0.mk hc
  clear hfin hroom hs hw hc
  go_enter Try.func45, Try.ntmps45
  go_wp2_with fail
  go_loopw [0, 9, 10, 11, 12, 14] (fun v0 v9 _ _ _ v14 wr => ∃ (j : Nat) (s' : ByteArray), v0 = .string s' ∧ v14 = .int .u64 j ∧ j ≤ n ∧ Aside0 (digits_TakeRow.Rel most w fin n j s' v9 wr)) (fun _ _ _ _ _ v14 _ => n - (match v14 with | .int _ q => q | _ => 0).toNat)
  case atStart => exact ⟨0, s, rfl, rfl, Nat.zero_le _, HF⟩
  case round =>
    obtain ⟨j, s', rfl, rfl, hj, HR⟩ := hrel
    by_cases hlt : j < n
    · have hb : decide (j < n) = true := decide_eq_true hlt
      have HT := Aside0.mk (digits_TakeRow.take1 s' most b)
      obtain ⟨hs', hbel⟩ : s'.size < 4611686018427387904 ∧ Below w.heap.size w wr := by
        obtain ⟨_, _, _, _, h4, _, h6⟩ := HR.out
        exact ⟨h4, h6⟩
      have HCW := Aside0.mk (pw_cell_below hbel HC.out)
      have HS := Aside0.mk hs'
      clear hs' hbel
      by_cases h0 : (takeTextB s' most).2.2 = 0
      · obtain ⟨acc, a1, a2, a3, a4⟩ := HR.out.step hlt h0
        have HL := Aside0.mk a1
        have HO := Aside0.mk a2
        have HB := Aside0.mk a3
        have HN := Aside0.mk a4
        clear a1 a2 a3 a4
        have HZ := Aside0.mk h0
        clear h0
        generalize takeTextB s' most = q at *
        obtain ⟨q1, q2, q3⟩ := q
        have hq3 := HZ.out
        simp only at hq3
        subst hq3
        simp only at HN HT
        clear HZ
        go_wp2_with (first | (go_at_call 46; (with_reducible refine (HT.out _ HS.out HW.out HCW.out).mono ?_); rintro e w1 ⟨rfl, ⟨nd, rfl⟩⟩) | (at_builtin; refine Kd.R_append Kd.string (w0 := w) w.heap.size rfl (.tmp 26) (.tmp 28) 22 9 (.string ⟨#[]⟩) 16 rfl Try.underlying22 digits_TakeRow.info rfl (by decide) (by omega) _ acc q1 [.string q1] (fun _ => True) (fun _ => False) rfl rfl ?aP (fun _ hk => hk.elim) ?aF ?aO ?aB ?aS ?aL ?_; (case aP => exact rfl); (case aF => exact (fun _ _ => trivial)); (case aO => exact (Kd.R_drewN HO.out _)); (case aB => exact (pw_below_drewN HB.out _)); (case aS => exact (below_size (pw_below_drewN HB.out _))); (case aL => exact HL.out); intro v3 w3 ho hb hg hat; have HX := Aside0.mk (HN.out _ _ ho hb); clear ho hb hg hat))
        go_roundw
        case rel => exact ⟨j + 1, q2, rfl, by go_num, by omega, HX⟩
        case measure => simp; omega
      · have hf := HR.out.fail hlt h0
        have HB : Aside0 (Below w.heap.size w wr) := ⟨by obtain ⟨_, _, _, _, _, _, h6⟩ := HR.out; exact h6⟩
        have hz : ((takeTextB s' most).2.2 == 0) = false := beq_eq_false_iff_ne.2 h0
        have hz2 : ((takeTextB s' most).2.2 != 0) = true := by rw [bne, hz]; rfl
        clear h0
        have HF2 := Aside0.mk hf
        clear hf HF
        generalize takeTextB s' most = q at *
        obtain ⟨q1, q2, q3⟩ := q
        simp only at hz hz2 HF2 HT
        go_wp2_with (go_at_call 46; (with_reducible refine (HT.out _ HS.out HW.out HCW.out).mono ?_); rintro e w1 ⟨rfl, ⟨nd, rfl⟩⟩)
        go_ret3
        rw [HF2.out]
        exact ⟨_, rfl, Kd.R_nil _ _ _ _ _, pw_below_drewN HB.out _⟩
    · obtain rfl : j = n := by omega
      obtain ⟨acc, h1, _, _, _, h5, h6⟩ := HR.out
      rw [Nat.sub_self, takeTexts] at h1
      have H1 := Aside0.mk h1
      have H5 := Aside0.mk h5
      have H6 := Aside0.mk h6
      clear h1 h5 h6 hlt HF HR
      go_wp2_with fail
      go_ret3
      rw [← H1.out]
      exact ⟨_, by simp only [toB_ofB]; rfl, H5.out, H6.out⟩
def digits_TakeRow.f (a0 : ByteArray) (a1 : Int) (a2 : Int) : Option (List ByteArray × ByteArray × Int) :=
  if (Lit.int .i64 a1).wf = true ∧ (Lit.int .i64 a2).wf = true ∧ a0.size < 4611686018427387904 ∧ (a0.size ≤ 8796093022207 ∨ a1 ≤ 8796093022207) then some ((takeRowL (ofB a0) a1 a2).1, toB (takeRowL (ofB a0) a1 a2).2.1, (takeRowL (ofB a0) a1 a2).2.2) else none
set_option maxHeartbeats 4000000 in
set_option maxRecDepth 100000 in
theorem digits_TakeRow.walk (a0 : ByteArray) (a1 : Int) (a2 : Int) (w : World) (h1 : (Lit.int .i64 a1).wf = true) (h2 : (Lit.int .i64 a2).wf = true) (hs : a0.size < 4611686018427387904) (hroom : a0.size ≤ 8796093022207 ∨ a1 ≤ 8796093022207) (fin : List ByteArray × Bs × Int) (hfin : takeRowL (ofB a0) a1 a2 = fin) :
    Calls Try.prog 21 #[.string a0, .int .i64 a1, .int .i64 a2] w fun e w' => ∃ v0_ : Value, e = .returned (.tuple #[v0_, .string (toB fin.2.1), .int .i64 fin.2.2]) ∧ Kd.R Kd.string 9 w' w.heap.size (fun _ => True) v0_ fin.1 ∧ Below w.heap.size w w' := by
  obtain ⟨m0, m1⟩ := i64_wf h1
  obtain ⟨k, hk⟩ := (takeNum_ev a0 hs).rounds
  have hv := takeNumL_val (ofB a0)
  have hl := takeNumL_len (ofB a0)
  rw [ofB_length] at hl
  rcases hq : takeNumL (ofB a0) with ⟨v, r, e⟩
  rw [takeRowL, hq] at hfin
  rw [hq] at hv hl
  simp only [takeNumB, hq] at hk
  simp only at hv hl
  have HK := Aside0.mk hk
  have H2 := Aside0.mk h2
  have HF := Aside0.mk hfin
  have HR := Aside0.mk hroom
  have HL := Aside0.mk hl
  clear hk h1 h2 hfin hroom hl hq
  by_cases he : e = 0
  · subst he
    by_cases h4 : a1 < 0 ∨ a1 < (v : Int)
    · have hf := HF.out
      rw [takeRowIf, if_pos rfl, if_pos h4] at hf
      have HF2 := Aside0.mk hf
      clear hf HF
      by_cases hneg : a1 < 0
      · have hb : decide (a1 < 0) = true := decide_eq_true hneg
        clear h4
        go_enter Try.func21, Try.ntmps21
        go_wp2_with (go_at_call 20; (with_reducible refine (digits_TakeNum.calls _ _ _ _ _ _ HK.out).mono ?_); rintro e w1 ⟨rfl, ⟨nd, rfl⟩⟩)
        go_ret3
        rw [← HF2.out]
        exact ⟨_, rfl, Kd.R_nil _ _ _ _ _, pw_below_drewN ((Below.refl _ _).alloc (Nat.le_refl _) _) _⟩
      · have hb : decide (a1 < 0) = false := decide_eq_false hneg
        have hpos : 0 ≤ a1 := by omega
        have hlt : a1 < (v : Int) := by omega
        have hb2 : decide (a1 < (v : Int)) = true := decide_eq_true hlt
        clear h4 hneg
        go_enter Try.func21, Try.ntmps21
        go_wp2_with (go_at_call 20; (with_reducible refine (digits_TakeNum.calls _ _ _ _ _ _ HK.out).mono ?_); rintro e w1 ⟨rfl, ⟨nd, rfl⟩⟩)
        go_ret3
        rw [← HF2.out]
        exact ⟨_, rfl, Kd.R_nil _ _ _ _ _, pw_below_drewN ((Below.refl _ _).alloc (Nat.le_refl _) _) _⟩
    · have hf := HF.out
      rw [takeRowIf, if_pos rfl, if_neg h4] at hf
      have HF2 := Aside0.mk hf
      clear hf HF
      have hpos : 0 ≤ a1 := by omega
      have hge : (v : Int) ≤ a1 := by omega
      have hb : decide (a1 < 0) = false := decide_eq_false (by omega)
      have hb2 : decide (a1 < (v : Int)) = false := decide_eq_false (by omega)
      have HV := Aside0.mk hv
      have HS := Aside0.mk hs
      have HG := Aside0.mk hge
      clear h4 hge hv hs
      go_enter Try.func21, Try.ntmps21
      go_wp2_with (first | (go_at_call 20; (with_reducible refine (digits_TakeNum.calls _ _ _ _ _ _ HK.out).mono ?_); rintro e w1 ⟨rfl, ⟨nd, rfl⟩⟩) | (go_at_call 45; refine (digits_TakeRow.several (toB r) v a2 w.heap.size _ HV.out (by rw [toB_size]; have := HL.out; have := HS.out; omega) H2.out (by simp [World.cell?_alloc_new]) (by rw [toB_size]; have := HL.out; have := HR.out; have := HG.out; omega) fin (by rw [ofB_toB]; exact HF2.out)).mono ?_; rintro e w2 ⟨v0, rfl, hR, hB⟩))
      go_ret3
      have hW : Below w.heap.size w ((w.alloc (.cells #[.int .i64 a2] 3)).drewN nd) := pw_below_drewN ((Below.refl _ _).alloc (Nat.le_refl _) _) _
      exact ⟨_, rfl, Kd.R_lower hR hW.size, below_step hW hB⟩
  · have hf := HF.out
    rw [takeRowIf, if_neg he] at hf
    have HF2 := Aside0.mk hf
    have hz : (e == 0) = false := beq_eq_false_iff_ne.2 he
    have hz2 : (e != 0) = true := by rw [bne, hz]; rfl
    clear hf HF he
    go_enter Try.func21, Try.ntmps21
    go_wp2_with (go_at_call 20; (with_reducible refine (digits_TakeNum.calls _ _ _ _ _ _ HK.out).mono ?_); rintro e w1 ⟨rfl, ⟨nd, rfl⟩⟩)
    go_ret3
    rw [← HF2.out]
    exact ⟨_, rfl, Kd.R_nil _ _ _ _ _, pw_below_drewN ((Below.refl _ _).alloc (Nat.le_refl _) _) _⟩
theorem digits_TakeRow.calls (a0 : ByteArray) (a1 : Int) (a2 : Int) (r1 : List ByteArray) (r2 : ByteArray) (r3 : Int) (w : World) (h : digits_TakeRow.f a0 a1 a2 = some (r1, r2, r3)) :
    Calls Try.prog 21 #[.string a0, .int .i64 a1, .int .i64 a2] w fun e w' => ∃ v0_ : Value, e = .returned (.tuple #[v0_, .string r2, .int .i64 r3]) ∧ Kd.R Kd.string 9 w' w.heap.size (fun _ => True) v0_ r1 ∧ Below w.heap.size w w' := by
  unfold digits_TakeRow.f at h
  split at h
  · rename_i hc
    obtain ⟨h1, h2, h3, h4⟩ := hc
    simp only [Option.some.injEq, Prod.mk.injEq] at h
    obtain ⟨rfl, rfl, rfl⟩ := h
    exact digits_TakeRow.walk a0 a1 a2 w h1 h2 h3 h4 _ rfl
  · cases h
end Go.Proofs.Ytfhjimeigelibaa.Px

namespace Go.Proofs.Ytfhjimeigelibaa.Px
open Go.RowKit Go.Proofs.YtfhjimeigelibaaW.PrintWords Go.Proofs.YtfhjimeigelibaaW.PrintLast Go.Proofs.YtfhjimeigelibaaW.PrintMore
attribute [local go_sem] max2_int min2_int max_two min_two max_three min_three max_four min_four
set_option linter.unusedVariables false
set_option linter.unusedSimpArgs false
def batch_Take.j0 : Nat → ByteArray → Int → Int → Bool → Option (Int × Int × List ByteArray × Int)
  | 0, _, _, _, _ => none
  | k + 1, x0, x4, x6, x37 => if x37 = true then (some (0, 0, ([] : List ByteArray), 3)) else ((digits_TakeRow.f x0 4 48).bind fun bt121 => (if bt121.2.2 = 0 then (if bt121.2.1.toList = ([] : List UInt8) then ((batch_May.f (wrap64 (x4)) (wrap64 (x6)) bt121.1).bind fun t127 => (if t127 = true then (some (wrap64 (x4), wrap64 (x6), bt121.1, 0)) else (some (0, 0, ([] : List ByteArray), 3)))) else (some (0, 0, ([] : List ByteArray), 3))) else (some (0, 0, ([] : List ByteArray), 3))))
def batch_Take.f (k : Nat) (a0 : ByteArray) : Option (Int × Int × List ByteArray × Int) := (digits_TakeNum.f k a0).bind fun bt115 => ((digits_TakeNum.f k bt115.2.1).bind fun bt118 => (if bt115.2.2 = 0 then (if bt118.2.2 = 0 then (if bt115.1 > 64 then (batch_Take.j0 k bt118.2.1 bt115.1 bt118.1 true) else (batch_Take.j0 k bt118.2.1 bt115.1 bt118.1 (decide (bt118.1 > 1073741824)))) else (batch_Take.j0 k bt118.2.1 bt115.1 bt118.1 true)) else (batch_Take.j0 k bt118.2.1 bt115.1 bt118.1 true)))
set_option maxHeartbeats 8000000 in
set_option maxRecDepth 100000 in
theorem batch_Take.calls (k : Nat) (a0 : ByteArray) (r1 : Int) (r2 : Int) (r3 : List ByteArray) (r4 : Int) (w : World) (h : batch_Take.f k a0 = some (r1, r2, r3, r4)) :
    Calls Try.prog 9 #[.string a0] w fun e w' => ∃ v2_ : Value, e = .returned (.tuple #[.agg #[.int .i64 r1, .int .i64 r2, v2_], .int .i64 r4]) ∧ Kd.R Kd.string 9 w' w.heap.size (fun _ => True) v2_ r3 ∧ Below w.heap.size w w' := by
  have hu24 := Try.underlying24
  have HB := Aside0.mk (Below.refl w.heap.size w)
  have H : ((digits_TakeNum.f k a0).bind fun bt115 => ((digits_TakeNum.f k bt115.2.1).bind fun bt118 => (if bt115.2.2 = 0 then (if bt118.2.2 = 0 then (if bt115.1 > 64 then (batch_Take.j0 k bt118.2.1 bt115.1 bt118.1 true) else (batch_Take.j0 k bt118.2.1 bt115.1 bt118.1 (decide (bt118.1 > 1073741824)))) else (batch_Take.j0 k bt118.2.1 bt115.1 bt118.1 true)) else (batch_Take.j0 k bt118.2.1 bt115.1 bt118.1 true)))) = some (r1, r2, r3, r4) := h
  clear h
  replace H := Option.bind_eq_some_iff.mp H
  obtain ⟨⟨t115, t116, t117⟩, A20, H⟩ := H
  replace H : ((digits_TakeNum.f k t116).bind fun bt118 => (if t117 = 0 then (if bt118.2.2 = 0 then (if t115 > 64 then (batch_Take.j0 k bt118.2.1 t115 bt118.1 true) else (batch_Take.j0 k bt118.2.1 t115 bt118.1 (decide (bt118.1 > 1073741824)))) else (batch_Take.j0 k bt118.2.1 t115 bt118.1 true)) else (batch_Take.j0 k bt118.2.1 t115 bt118.1 true))) = some (r1, r2, r3, r4) := H
  have A2 := Aside0.mk A20
  clear A20
  replace H := Option.bind_eq_some_iff.mp H
  obtain ⟨⟨t118, t119, t120⟩, A30, H⟩ := H
  replace H : (if t117 = 0 then (if t120 = 0 then (if t115 > 64 then (batch_Take.j0 k t119 t115 t118 true) else (batch_Take.j0 k t119 t115 t118 (decide (t118 > 1073741824)))) else (batch_Take.j0 k t119 t115 t118 true)) else (batch_Take.j0 k t119 t115 t118 true)) = some (r1, r2, r3, r4) := H
  have A3 := Aside0.mk A30
  clear A30
  have HC4 := Aside0.mk H
  clear H
  go_enter Try.func9, Try.ntmps9
  go_upto_region 3 with (first | ((with_reducible refine gate_dst (N := 2) rfl ?_); refine box_event ?hg (N := 2) ?hd (cs := #[.int .i64 0, .int .i64 0, .slice none 0 0]) (t := 24) ?hr ?_; (case hd => rfl); (case hg => rfl); (case hr => first | (go_simp; done) | (go_simp; rfl)); intro gb114 hg w5 hbox hb; have n0_ := Aside0.mk (below_step (by repeat (first | (with_reducible first | exact HB.out | apply below_alloc | apply pw_below_drewN | apply below_drew1) | exact HB.out)) hb); have n1_ := Aside0.mk (hbox); have n2_ := Aside0.mk ((by rw [hg]; exact (below_size (by repeat (first | (with_reducible first | exact HB.out | apply below_alloc | apply pw_below_drewN | apply below_drew1) | exact HB.out))) : w.heap.size ≤ gb114)); have n3_ := Aside0.mk ((by rw [hg]; exact (below_size (by repeat (first | (with_reducible first | exact HB.out | apply below_alloc | apply pw_below_drewN | apply below_drew1) | exact HB.out))) : w.heap.size ≤ gb114)); clear HB; have HB := n0_; have BK114 := n1_; have GW114 := n2_; have GE114 := n3_; clear n0_ n1_ n2_ n3_; clear hb hbox hg) | ((with_reducible refine gate_callee (f := 20) rfl ?_); refine goesL_ (some 14) rfl rfl Try.func20 (by kernel_rfl) rfl #[.string a0] rfl (by (try simp only [List.map_toArray, List.map_cons, List.map_nil]); first | done | rfl | (simp only [List.length_drop, List.length_take]; rfl)) ?_; (with_reducible refine (digits_TakeNum.calls k a0 t115 t116 t117 _ A2.out).mono ?_); rintro e w' ⟨rfl, ⟨nd, rfl⟩⟩; refine ⟨_, rfl, ?_⟩) | ((with_reducible refine gate_callee (f := 20) rfl ?_); refine goesL_ (some 20) rfl rfl Try.func20 (by kernel_rfl) rfl #[.string t116] rfl (by (try simp only [List.map_toArray, List.map_cons, List.map_nil]); first | done | rfl | (simp only [List.length_drop, List.length_take]; rfl)) ?_; (with_reducible refine (digits_TakeNum.calls k t116 t118 t119 t120 _ A3.out).mono ?_); rintro e w' ⟨rfl, ⟨nd, rfl⟩⟩; refine ⟨_, rfl, ?_⟩))
  (try simp only [Act.put, List.setIfInBounds_toArray, List.set_cons_zero, List.set_cons_succ])
  go_cut [37] (fun v37 wc => ∃ (kq : Nat) (x37_3 : Bool), v37 = .bool x37_3 ∧ Aside0 (batch_Take.j0 kq t119 t115 t118 x37_3 = some (r1, r2, r3, r4)) ∧ Aside0 (kq ≤ k) ∧ Aside0 (wc.heap[gb114]? = some (.cells #[.int .i64 0, .int .i64 0, (.slice none 0 0)] 24 (0, 0))) ∧ Aside0 (Below w.heap.size w wc))
  case first =>
    have H := HC4.out
    clear HC4
    by_cases c6 : t117 = 0
    · rw [if_pos c6] at H
      have c6b0 : (t117 == 0) = true := beq_iff_eq.mpr c6
      have c6b1 : (t117 != 0) = false := bne_eq_false_iff_eq.mpr c6
      clear c6
      (first | rw [c6b0] | (simp only [i64_w, i32_w]; rw [c6b0]) | skip)
      by_cases c7 : t120 = 0
      · rw [if_pos c7] at H
        have c7b0 : (t120 == 0) = true := beq_iff_eq.mpr c7
        have c7b1 : (t120 != 0) = false := bne_eq_false_iff_eq.mpr c7
        clear c7
        by_cases c8 : t115 > 64
        · rw [if_pos c8] at H
          have c8b0 : decide (64 < t115) = true := decide_eq_true c8
          clear c8
          have H' := Aside0.mk H
          clear H
          go_wp2
          go_meet
          case rel => exact ⟨_, (true), (by first | rfl | (simp; done) | (simp [*]; done)), H', ⟨by first | omega | exact Nat.le_refl _⟩, ⟨by (with_reducible repeat (first | refine blk_drewN ?_ _ | refine blk_drew ?_ | refine blk_alloc ?_ _)); exact BK114.out⟩, ⟨by repeat (first | (with_reducible first | exact HB.out | apply below_alloc | apply pw_below_drewN | apply below_drew1 | refine below_set ?_ GE114.out) | exact HB.out)⟩⟩
        · rw [if_neg c8] at H
          have c8b0 : decide (64 < t115) = false := decide_eq_false c8
          clear c8
          have H' := Aside0.mk H
          clear H
          go_wp2
          go_meet
          case rel => exact ⟨_, (decide (t118 > 1073741824)), (by first | rfl | (simp; done) | (simp [*]; done)), H', ⟨by first | omega | exact Nat.le_refl _⟩, ⟨by (with_reducible repeat (first | refine blk_drewN ?_ _ | refine blk_drew ?_ | refine blk_alloc ?_ _)); exact BK114.out⟩, ⟨by repeat (first | (with_reducible first | exact HB.out | apply below_alloc | apply pw_below_drewN | apply below_drew1 | refine below_set ?_ GE114.out) | exact HB.out)⟩⟩
      · rw [if_neg c7] at H
        have c7b0 : (t120 == 0) = false := beq_eq_false_iff_ne.mpr c7
        have c7b1 : (t120 != 0) = true := bne_iff_ne.mpr c7
        have H' := Aside0.mk H
        clear H
        go_wp2
        go_meet
        case rel => exact ⟨_, (true), (by first | rfl | (simp; done) | (simp [*]; done)), H', ⟨by first | omega | exact Nat.le_refl _⟩, ⟨by (with_reducible repeat (first | refine blk_drewN ?_ _ | refine blk_drew ?_ | refine blk_alloc ?_ _)); exact BK114.out⟩, ⟨by repeat (first | (with_reducible first | exact HB.out | apply below_alloc | apply pw_below_drewN | apply below_drew1 | refine below_set ?_ GE114.out) | exact HB.out)⟩⟩
    · rw [if_neg c6] at H
      have c6b0 : (t117 == 0) = false := beq_eq_false_iff_ne.mpr c6
      have c6b1 : (t117 != 0) = true := bne_iff_ne.mpr c6
      (first | rw [c6b0] | (simp only [i64_w, i32_w]; rw [c6b0]) | skip)
      have H' := Aside0.mk H
      clear H
      go_wp2
      go_meet
      case rel => exact ⟨_, (true), (by first | rfl | (simp; done) | (simp [*]; done)), H', ⟨by first | omega | exact Nat.le_refl _⟩, ⟨by (with_reducible repeat (first | refine blk_drewN ?_ _ | refine blk_drew ?_ | refine blk_alloc ?_ _)); exact BK114.out⟩, ⟨by repeat (first | (with_reducible first | exact HB.out | apply below_alloc | apply pw_below_drewN | apply below_drew1 | refine below_set ?_ GE114.out) | exact HB.out)⟩⟩
  case rest =>
    clear HC4
    try clear c2
    try clear p2
    try clear c6
    try clear c6b0
    try clear c6b1
    try clear c7
    try clear c7b0
    try clear c7b1
    try clear c8
    try clear c8b0
    obtain ⟨kq, x37_3, rfl, HA, HJ3, BK114, HB⟩ := hcut
    cases kq with
    | zero => exact absurd HA.out (by simp [batch_Take.j0])
    | succ kj3 =>
      have H := HA.out
      clear HA
      simp only [batch_Take.j0] at H
      by_cases c9 : x37_3 = true
      · subst c9
        have H1 : (some (0, 0, ([] : List ByteArray), 3)) = some (r1, r2, r3, r4) := by rw [if_pos rfl] at H; exact H
        clear H
        have H := H1
        clear H1
        simp only [Option.some.injEq, Prod.mk.injEq] at H
        obtain ⟨rfl, rfl, rfl, rfl⟩ := H
        have hcz10_0 : wc.cell? ⟨gb114, 0, none⟩ = some (.int .i64 0) := (blk_cell BK114.out 0).trans rfl
        have hcz10_1 : wc.cell? ⟨gb114, 1, none⟩ = some (.int .i64 0) := (blk_cell BK114.out 1).trans rfl
        have hcz10_2 : wc.cell? ⟨gb114, 2, none⟩ = some (.slice none 0 0) := (blk_cell BK114.out 2).trans rfl
        have hfz10_0 := blk_frozen BK114.out 0
        have hfz10_1 := blk_frozen BK114.out 1
        have hfz10_2 := blk_frozen BK114.out 2
        go_wp2
        refine bodyPost_ret (results_ct rfl _ _ gb114 24 #[.int .i64 0, .int .i64 0, .slice none 0 0] (0, 0) _ rfl (by (with_reducible repeat (first | refine blk_drewN ?_ _ | refine blk_drew ?_ | refine blk_alloc ?_ _)); refine blk_put (cs := #[.int .i64 0, .int .i64 0, .slice none 0 0]) ?_ 2 _ rfl; (with_reducible repeat (first | refine blk_drewN ?_ _ | refine blk_drew ?_ | refine blk_alloc ?_ _)); refine blk_put (cs := #[.int .i64 0, .int .i64 0, .slice none 0 0]) ?_ 1 _ rfl; (with_reducible repeat (first | refine blk_drewN ?_ _ | refine blk_drew ?_ | refine blk_alloc ?_ _)); refine blk_put (cs := #[.int .i64 0, .int .i64 0, .slice none 0 0]) ?_ 0 _ rfl; (with_reducible repeat (first | refine blk_drewN ?_ _ | refine blk_drew ?_ | refine blk_alloc ?_ _)); exact BK114.out) Try.underlying24 rfl (by kernel_rfl)) rfl ?_
        exact ⟨_, by first | rfl | (simp [errW_none, errW_some] <;> rfl) | (simp [*, errW_none, errW_some] <;> rfl), by first | exact Kd.R_nil _ _ _ _ _ | exact Kd.N_nil _ _ _ _ _ | exact Kd.V_nil _ _ _ _ _ | exact Kd.Q_nil _ _ _ _ _ | exact Kd.S_nil _ _ _ _ _, by repeat (first | (with_reducible first | exact HB.out | apply below_alloc | apply pw_below_drewN | apply below_drew1 | refine below_set ?_ GE114.out) | exact HB.out)⟩
      · replace c9 := Bool.eq_false_iff.mpr c9
        subst c9
        have H1 : ((digits_TakeRow.f t119 4 48).bind fun bt121 => (if bt121.2.2 = 0 then (if bt121.2.1.toList = ([] : List UInt8) then ((batch_May.f (wrap64 (t115)) (wrap64 (t118)) bt121.1).bind fun t127 => (if t127 = true then (some (wrap64 (t115), wrap64 (t118), bt121.1, 0)) else (some (0, 0, ([] : List ByteArray), 3)))) else (some (0, 0, ([] : List ByteArray), 3))) else (some (0, 0, ([] : List ByteArray), 3)))) = some (r1, r2, r3, r4) := by rw [if_neg (show ¬ (false = true) by decide)] at H; exact H
        clear H
        have H := H1
        clear H1
        replace H := Option.bind_eq_some_iff.mp H
        obtain ⟨⟨t121, t122, t123⟩, A110, H⟩ := H
        replace H : (if t123 = 0 then (if t122.toList = ([] : List UInt8) then ((batch_May.f (wrap64 (t115)) (wrap64 (t118)) t121).bind fun t127 => (if t127 = true then (some (wrap64 (t115), wrap64 (t118), t121, 0)) else (some (0, 0, ([] : List ByteArray), 3)))) else (some (0, 0, ([] : List ByteArray), 3))) else (some (0, 0, ([] : List ByteArray), 3))) = some (r1, r2, r3, r4) := H
        have A11 := Aside0.mk A110
        clear A110
        by_cases c12 : t123 = 0
        · rw [if_pos c12] at H
          have c12b0 : (t123 == 0) = true := beq_iff_eq.mpr c12
          have c12b1 : (t123 != 0) = false := bne_eq_false_iff_eq.mpr c12
          clear c12
          by_cases c13 : t122.toList = ([] : List UInt8)
          · rw [if_pos c13] at H
            have c13b0 : (t122.toList == ([] : List UInt8)) = true := beq_iff_eq.mpr c13
            have c13b1 : (t122.toList != ([] : List UInt8)) = false := bne_eq_false_iff_eq.mpr c13
            clear c13
            replace H := Option.bind_eq_some_iff.mp H
            obtain ⟨t127, A140, H⟩ := H
            replace H : (if t127 = true then (some (wrap64 (t115), wrap64 (t118), t121, 0)) else (some (0, 0, ([] : List ByteArray), 3))) = some (r1, r2, r3, r4) := H
            have A14 := Aside0.mk A140
            clear A140
            by_cases c15 : t127 = true
            · subst c15
              have H1 : (some (wrap64 (t115), wrap64 (t118), t121, 0)) = some (r1, r2, r3, r4) := by rw [if_pos rfl] at H; exact H
              clear H
              have H := H1
              clear H1
              simp only [Option.some.injEq, Prod.mk.injEq] at H
              obtain ⟨rfl, rfl, rfl, rfl⟩ := H
              go_wp2_with (first | ((with_reducible refine gate_callee (f := 21) rfl ?_); refine goesL_ (some 41) rfl rfl Try.func21 (by kernel_rfl) rfl #[.string t119, .int .i64 4, .int .i64 48] rfl (by (try simp only [List.map_toArray, List.map_cons, List.map_nil]); first | done | rfl | (simp only [List.length_drop, List.length_take]; rfl)) ?_; (with_reducible refine (digits_TakeRow.calls t119 4 48 t121 t122 t123 _ A11.out).mono ?_); rintro e w16 ⟨v124, rfl, ho0, hb⟩; refine ⟨_, rfl, ?_⟩; have n0_ := Aside0.mk (Kd.R_lower ho0 (below_size (by repeat (first | (with_reducible first | exact HB.out | apply below_alloc | apply pw_below_drewN | apply below_drew1 | refine below_set ?_ GE114.out) | exact HB.out)))); have n1_ := Aside0.mk (blk_below (g := gb114) (o := .cells #[.int .i64 0, .int .i64 0, .slice none 0 0] 24 (0, 0)) (by (with_reducible repeat (first | refine blk_drewN ?_ _ | refine blk_drew ?_ | refine blk_alloc ?_ _)); exact BK114.out) hb); have n2_ := Aside0.mk (below_step (by repeat (first | (with_reducible first | exact HB.out | apply below_alloc | apply pw_below_drewN | apply below_drew1 | refine below_set ?_ GE114.out) | exact HB.out)) hb); clear BK114; clear HB; have HO125 := n0_; have BK114 := n1_; have HB := n2_; clear n0_ n1_ n2_; (try clear hb); (try clear hb2); (try clear hk); (try clear hi); (try clear ho0); obtain ⟨Ao17, co17, eo17⟩ := Kd.R_slice HO125.out; subst eo17) | ((with_reducible refine gate_dst (N := 11) rfl ?_); refine box_event ?hg (N := 11) ?hd (cs := #[.int .i64 0, .int .i64 0, .slice none 0 0]) (t := 24) ?hr ?_; (case hd => rfl); (case hg => rfl); (case hr => first | (go_simp; done) | (go_simp; rfl)); intro gb126 hg w18 hbox hb; have n0_ := Aside0.mk (Kd.R_below (by (with_reducible repeat (first | apply Kd.R_alloc | apply Kd.R_drewN | apply Kd.R_drew)); exact HO125.out) hb); have n1_ := Aside0.mk (blk_below (g := gb114) (o := .cells #[.int .i64 0, .int .i64 0, .slice none 0 0] 24 (0, 0)) (by (with_reducible repeat (first | refine blk_drewN ?_ _ | refine blk_drew ?_ | refine blk_alloc ?_ _)); exact BK114.out) hb); have n2_ := Aside0.mk (below_step (by repeat (first | (with_reducible first | exact HB.out | apply below_alloc | apply pw_below_drewN | apply below_drew1 | refine below_set ?_ GE114.out) | exact HB.out)) hb); have n3_ := Aside0.mk (hbox); have n4_ := Aside0.mk ((by rw [hg]; exact (below_size (by repeat (first | (with_reducible first | exact HB.out | apply below_alloc | apply pw_below_drewN | apply below_drew1 | refine below_set ?_ GE114.out) | exact HB.out))) : w.heap.size ≤ gb126)); have n5_ := Aside0.mk ((by rw [hg]; exact (below_size (by repeat (first | (with_reducible first | exact HB.out | apply below_alloc | apply pw_below_drewN | apply below_drew1 | refine below_set ?_ GE114.out) | exact HB.out))) : w.heap.size ≤ gb126)); have n6_ := Aside0.mk ((by rw [hg]; exact Nat.ne_of_lt (blk_lt (g := gb114) (o := .cells #[.int .i64 0, .int .i64 0, .slice none 0 0] 24 (0, 0)) (by (with_reducible repeat (first | refine blk_drewN ?_ _ | refine blk_drew ?_ | refine blk_alloc ?_ _)); exact BK114.out)) : gb114 ≠ gb126)); have n7_ := Aside0.mk ((by rw [hg]; exact Nat.ne_of_gt (blk_lt (g := gb114) (o := .cells #[.int .i64 0, .int .i64 0, .slice none 0 0] 24 (0, 0)) (by (with_reducible repeat (first | refine blk_drewN ?_ _ | refine blk_drew ?_ | refine blk_alloc ?_ _)); exact BK114.out)) : gb126 ≠ gb114)); clear HO125; clear BK114; clear HB; have HO125 := n0_; have BK114 := n1_; have HB := n2_; have BK126 := n3_; have GW126 := n4_; have GE126 := n5_; have NB114_126 := n6_; have NB126_114 := n7_; clear n0_ n1_ n2_ n3_ n4_ n5_ n6_ n7_; clear hb hbox hg; have hnb19 := NB126_114.out; have hnc19 := NB114_126.out; have hcz20_0 : w18.cell? ⟨gb126, 0, none⟩ = some (.int .i64 0) := (blk_cell BK126.out 0).trans rfl; have hcz20_1 : w18.cell? ⟨gb126, 1, none⟩ = some (.int .i64 0) := (blk_cell BK126.out 1).trans rfl; have hcz20_2 : w18.cell? ⟨gb126, 2, none⟩ = some (.slice none 0 0) := (blk_cell BK126.out 2).trans rfl; have hfz20_0 := blk_frozen BK126.out 0; have hfz20_1 := blk_frozen BK126.out 1; have hfz20_2 := blk_frozen BK126.out 2) | (go_at_call 17; (with_reducible refine (batch_May.calls (wrap64 (t115)) (wrap64 (t118)) _ _ t121 true _ ?side1 ?side2 A14.out).mono ?_); (case side1 => refine (Kd.R_reads' (e := 9) (base := w.heap.size) (ok := fun k_ => True) (n := t121.length) (c := co17) ?_).2.2; exact (by (with_reducible repeat (first | apply Kd.R_alloc | apply Kd.R_drewN | apply Kd.R_drew)); exact (Kd.R_mono (Kd.R_far (p := ⟨gb126, 2, none⟩) (Kd.R_far (p := ⟨gb126, 1, none⟩) (Kd.R_far (p := ⟨gb126, 0, none⟩) (Kd.R_types HO125.out BK126.out (by decide)) (fun _ hk => hk.2) (.int .i64 (wrap64 (t115)))) (fun _ hk => hk.2) (.int .i64 (wrap64 (t118)))) (fun _ hk => hk.2) (.slice Ao17 t121.length co17)) (fun _ h_ => h_.1)))); (case side2 => exact (Kd.R_reads' HO125.out).2.1); rintro e w21 ⟨rfl, hb⟩; have n0_ := Aside0.mk (Kd.R_below (by (with_reducible repeat (first | apply Kd.R_alloc | apply Kd.R_drewN | apply Kd.R_drew)); exact (Kd.R_mono (Kd.R_far (p := ⟨gb126, 2, none⟩) (Kd.R_far (p := ⟨gb126, 1, none⟩) (Kd.R_far (p := ⟨gb126, 0, none⟩) (Kd.R_types HO125.out BK126.out (by decide)) (fun _ hk => hk.2) (.int .i64 (wrap64 (t115)))) (fun _ hk => hk.2) (.int .i64 (wrap64 (t118)))) (fun _ hk => hk.2) (.slice Ao17 t121.length co17)) (fun _ h_ => h_.1))) hb); have n1_ := Aside0.mk (blk_below (g := gb114) (o := .cells #[.int .i64 0, .int .i64 0, .slice none 0 0] 24 (0, 0)) (by (with_reducible repeat (first | refine blk_drewN ?_ _ | refine blk_drew ?_ | refine blk_alloc ?_ _)); refine blk_far ?_ NB114_126.out _; (with_reducible repeat (first | refine blk_drewN ?_ _ | refine blk_drew ?_ | refine blk_alloc ?_ _)); refine blk_far ?_ NB114_126.out _; (with_reducible repeat (first | refine blk_drewN ?_ _ | refine blk_drew ?_ | refine blk_alloc ?_ _)); refine blk_far ?_ NB114_126.out _; (with_reducible repeat (first | refine blk_drewN ?_ _ | refine blk_drew ?_ | refine blk_alloc ?_ _)); exact BK114.out) hb); have n2_ := Aside0.mk (blk_below (g := gb126) (o := .cells #[.int .i64 (wrap64 (t115)), .int .i64 (wrap64 (t118)), .slice Ao17 t121.length co17] 24 (0, 0)) (by (with_reducible repeat (first | refine blk_drewN ?_ _ | refine blk_drew ?_ | refine blk_alloc ?_ _)); refine blk_put (cs := #[.int .i64 (wrap64 (t115)), .int .i64 (wrap64 (t118)), .slice none 0 0]) ?_ 2 _ rfl; (with_reducible repeat (first | refine blk_drewN ?_ _ | refine blk_drew ?_ | refine blk_alloc ?_ _)); refine blk_put (cs := #[.int .i64 (wrap64 (t115)), .int .i64 0, .slice none 0 0]) ?_ 1 _ rfl; (with_reducible repeat (first | refine blk_drewN ?_ _ | refine blk_drew ?_ | refine blk_alloc ?_ _)); refine blk_put (cs := #[.int .i64 0, .int .i64 0, .slice none 0 0]) ?_ 0 _ rfl; (with_reducible repeat (first | refine blk_drewN ?_ _ | refine blk_drew ?_ | refine blk_alloc ?_ _)); exact BK126.out) hb); have n3_ := Aside0.mk (below_step (by repeat (first | (with_reducible first | exact HB.out | apply below_alloc | apply pw_below_drewN | apply below_drew1 | refine below_set ?_ GE114.out | refine below_set ?_ GE126.out) | exact HB.out)) hb); clear HO125; clear BK114; clear BK126; clear HB; have HO125 := n0_; have BK114 := n1_; have BK126 := n2_; have HB := n3_; clear n0_ n1_ n2_ n3_; (try clear hb); (try clear hb2); (try clear hk); (try clear hi); have hcz22_0 : w21.cell? ⟨gb126, 0, none⟩ = some (.int .i64 (wrap64 (t115))) := (blk_cell BK126.out 0).trans rfl; have hcz22_1 : w21.cell? ⟨gb126, 1, none⟩ = some (.int .i64 (wrap64 (t118))) := (blk_cell BK126.out 1).trans rfl; have hcz22_2 : w21.cell? ⟨gb126, 2, none⟩ = some (.slice Ao17 t121.length co17) := (blk_cell BK126.out 2).trans rfl; have hfz22_0 := blk_frozen BK126.out 0; have hfz22_1 := blk_frozen BK126.out 1; have hfz22_2 := blk_frozen BK126.out 2; have hcz23_0 : w21.cell? ⟨gb114, 0, none⟩ = some (.int .i64 0) := (blk_cell BK114.out 0).trans rfl; have hcz23_1 : w21.cell? ⟨gb114, 1, none⟩ = some (.int .i64 0) := (blk_cell BK114.out 1).trans rfl; have hcz23_2 : w21.cell? ⟨gb114, 2, none⟩ = some (.slice none 0 0) := (blk_cell BK114.out 2).trans rfl; have hfz23_0 := blk_frozen BK114.out 0; have hfz23_1 := blk_frozen BK114.out 1; have hfz23_2 := blk_frozen BK114.out 2))
              refine bodyPost_ret (results_ct rfl _ _ gb114 24 #[.int .i64 (wrap64 (t115)), .int .i64 (wrap64 (t118)), .slice Ao17 t121.length co17] (0, 0) _ rfl (by (with_reducible repeat (first | refine blk_drewN ?_ _ | refine blk_drew ?_ | refine blk_alloc ?_ _)); refine blk_put (cs := #[.int .i64 (wrap64 (t115)), .int .i64 (wrap64 (t118)), .slice none 0 0]) ?_ 2 _ rfl; (with_reducible repeat (first | refine blk_drewN ?_ _ | refine blk_drew ?_ | refine blk_alloc ?_ _)); refine blk_put (cs := #[.int .i64 (wrap64 (t115)), .int .i64 0, .slice none 0 0]) ?_ 1 _ rfl; (with_reducible repeat (first | refine blk_drewN ?_ _ | refine blk_drew ?_ | refine blk_alloc ?_ _)); refine blk_put (cs := #[.int .i64 0, .int .i64 0, .slice none 0 0]) ?_ 0 _ rfl; (with_reducible repeat (first | refine blk_drewN ?_ _ | refine blk_drew ?_ | refine blk_alloc ?_ _)); exact BK114.out) Try.underlying24 rfl (by kernel_rfl)) rfl ?_
              exact ⟨_, by first | rfl | (simp [errW_none, errW_some] <;> rfl) | (simp [*, errW_none, errW_some] <;> rfl), by (with_reducible repeat (first | apply Kd.R_alloc | apply Kd.R_drewN | apply Kd.R_drew)); exact Kd.R_mono (Kd.R_far (p := ⟨gb114, 2, none⟩) (Kd.R_far (p := ⟨gb114, 1, none⟩) (Kd.R_far (p := ⟨gb114, 0, none⟩) (Kd.R_types HO125.out BK114.out (by decide)) (fun _ hk => hk.2) (.int .i64 (wrap64 (t115)))) (fun _ hk => hk.2) (.int .i64 (wrap64 (t118)))) (fun _ hk => hk.2) (.slice Ao17 t121.length co17)) (fun _ hk => trivial), by repeat (first | (with_reducible first | exact HB.out | apply below_alloc | apply pw_below_drewN | apply below_drew1 | refine below_set ?_ GE114.out | refine below_set ?_ GE126.out) | exact HB.out)⟩
            · replace c15 := Bool.eq_false_iff.mpr c15
              subst c15
              have H1 : (some (0, 0, ([] : List ByteArray), 3)) = some (r1, r2, r3, r4) := by rw [if_neg (show ¬ (false = true) by decide)] at H; exact H
              clear H
              have H := H1
              clear H1
              simp only [Option.some.injEq, Prod.mk.injEq] at H
              obtain ⟨rfl, rfl, rfl, rfl⟩ := H
              go_wp2_with (first | ((with_reducible refine gate_callee (f := 21) rfl ?_); refine goesL_ (some 41) rfl rfl Try.func21 (by kernel_rfl) rfl #[.string t119, .int .i64 4, .int .i64 48] rfl (by (try simp only [List.map_toArray, List.map_cons, List.map_nil]); first | done | rfl | (simp only [List.length_drop, List.length_take]; rfl)) ?_; (with_reducible refine (digits_TakeRow.calls t119 4 48 t121 t122 t123 _ A11.out).mono ?_); rintro e w24 ⟨v124, rfl, ho0, hb⟩; refine ⟨_, rfl, ?_⟩; have n0_ := Aside0.mk (Kd.R_lower ho0 (below_size (by repeat (first | (with_reducible first | exact HB.out | apply below_alloc | apply pw_below_drewN | apply below_drew1 | refine below_set ?_ GE114.out) | exact HB.out)))); have n1_ := Aside0.mk (blk_below (g := gb114) (o := .cells #[.int .i64 0, .int .i64 0, .slice none 0 0] 24 (0, 0)) (by (with_reducible repeat (first | refine blk_drewN ?_ _ | refine blk_drew ?_ | refine blk_alloc ?_ _)); exact BK114.out) hb); have n2_ := Aside0.mk (below_step (by repeat (first | (with_reducible first | exact HB.out | apply below_alloc | apply pw_below_drewN | apply below_drew1 | refine below_set ?_ GE114.out) | exact HB.out)) hb); clear BK114; clear HB; have HO125 := n0_; have BK114 := n1_; have HB := n2_; clear n0_ n1_ n2_; (try clear hb); (try clear hb2); (try clear hk); (try clear hi); (try clear ho0); obtain ⟨Ao25, co25, eo25⟩ := Kd.R_slice HO125.out; subst eo25) | ((with_reducible refine gate_dst (N := 11) rfl ?_); refine box_event ?hg (N := 11) ?hd (cs := #[.int .i64 0, .int .i64 0, .slice none 0 0]) (t := 24) ?hr ?_; (case hd => rfl); (case hg => rfl); (case hr => first | (go_simp; done) | (go_simp; rfl)); intro gb126 hg w26 hbox hb; have n0_ := Aside0.mk (Kd.R_below (by (with_reducible repeat (first | apply Kd.R_alloc | apply Kd.R_drewN | apply Kd.R_drew)); exact HO125.out) hb); have n1_ := Aside0.mk (blk_below (g := gb114) (o := .cells #[.int .i64 0, .int .i64 0, .slice none 0 0] 24 (0, 0)) (by (with_reducible repeat (first | refine blk_drewN ?_ _ | refine blk_drew ?_ | refine blk_alloc ?_ _)); exact BK114.out) hb); have n2_ := Aside0.mk (below_step (by repeat (first | (with_reducible first | exact HB.out | apply below_alloc | apply pw_below_drewN | apply below_drew1 | refine below_set ?_ GE114.out) | exact HB.out)) hb); have n3_ := Aside0.mk (hbox); have n4_ := Aside0.mk ((by rw [hg]; exact (below_size (by repeat (first | (with_reducible first | exact HB.out | apply below_alloc | apply pw_below_drewN | apply below_drew1 | refine below_set ?_ GE114.out) | exact HB.out))) : w.heap.size ≤ gb126)); have n5_ := Aside0.mk ((by rw [hg]; exact (below_size (by repeat (first | (with_reducible first | exact HB.out | apply below_alloc | apply pw_below_drewN | apply below_drew1 | refine below_set ?_ GE114.out) | exact HB.out))) : w.heap.size ≤ gb126)); have n6_ := Aside0.mk ((by rw [hg]; exact Nat.ne_of_lt (blk_lt (g := gb114) (o := .cells #[.int .i64 0, .int .i64 0, .slice none 0 0] 24 (0, 0)) (by (with_reducible repeat (first | refine blk_drewN ?_ _ | refine blk_drew ?_ | refine blk_alloc ?_ _)); exact BK114.out)) : gb114 ≠ gb126)); have n7_ := Aside0.mk ((by rw [hg]; exact Nat.ne_of_gt (blk_lt (g := gb114) (o := .cells #[.int .i64 0, .int .i64 0, .slice none 0 0] 24 (0, 0)) (by (with_reducible repeat (first | refine blk_drewN ?_ _ | refine blk_drew ?_ | refine blk_alloc ?_ _)); exact BK114.out)) : gb126 ≠ gb114)); clear HO125; clear BK114; clear HB; have HO125 := n0_; have BK114 := n1_; have HB := n2_; have BK126 := n3_; have GW126 := n4_; have GE126 := n5_; have NB114_126 := n6_; have NB126_114 := n7_; clear n0_ n1_ n2_ n3_ n4_ n5_ n6_ n7_; clear hb hbox hg; have hnb27 := NB126_114.out; have hnc27 := NB114_126.out; have hcz28_0 : w26.cell? ⟨gb126, 0, none⟩ = some (.int .i64 0) := (blk_cell BK126.out 0).trans rfl; have hcz28_1 : w26.cell? ⟨gb126, 1, none⟩ = some (.int .i64 0) := (blk_cell BK126.out 1).trans rfl; have hcz28_2 : w26.cell? ⟨gb126, 2, none⟩ = some (.slice none 0 0) := (blk_cell BK126.out 2).trans rfl; have hfz28_0 := blk_frozen BK126.out 0; have hfz28_1 := blk_frozen BK126.out 1; have hfz28_2 := blk_frozen BK126.out 2) | (go_at_call 17; (with_reducible refine (batch_May.calls (wrap64 (t115)) (wrap64 (t118)) _ _ t121 false _ ?side1 ?side2 A14.out).mono ?_); (case side1 => refine (Kd.R_reads' (e := 9) (base := w.heap.size) (ok := fun k_ => True) (n := t121.length) (c := co25) ?_).2.2; exact (by (with_reducible repeat (first | apply Kd.R_alloc | apply Kd.R_drewN | apply Kd.R_drew)); exact (Kd.R_mono (Kd.R_far (p := ⟨gb126, 2, none⟩) (Kd.R_far (p := ⟨gb126, 1, none⟩) (Kd.R_far (p := ⟨gb126, 0, none⟩) (Kd.R_types HO125.out BK126.out (by decide)) (fun _ hk => hk.2) (.int .i64 (wrap64 (t115)))) (fun _ hk => hk.2) (.int .i64 (wrap64 (t118)))) (fun _ hk => hk.2) (.slice Ao25 t121.length co25)) (fun _ h_ => h_.1)))); (case side2 => exact (Kd.R_reads' HO125.out).2.1); rintro e w29 ⟨rfl, hb⟩; have n0_ := Aside0.mk (Kd.R_below (by (with_reducible repeat (first | apply Kd.R_alloc | apply Kd.R_drewN | apply Kd.R_drew)); exact (Kd.R_mono (Kd.R_far (p := ⟨gb126, 2, none⟩) (Kd.R_far (p := ⟨gb126, 1, none⟩) (Kd.R_far (p := ⟨gb126, 0, none⟩) (Kd.R_types HO125.out BK126.out (by decide)) (fun _ hk => hk.2) (.int .i64 (wrap64 (t115)))) (fun _ hk => hk.2) (.int .i64 (wrap64 (t118)))) (fun _ hk => hk.2) (.slice Ao25 t121.length co25)) (fun _ h_ => h_.1))) hb); have n1_ := Aside0.mk (blk_below (g := gb114) (o := .cells #[.int .i64 0, .int .i64 0, .slice none 0 0] 24 (0, 0)) (by (with_reducible repeat (first | refine blk_drewN ?_ _ | refine blk_drew ?_ | refine blk_alloc ?_ _)); refine blk_far ?_ NB114_126.out _; (with_reducible repeat (first | refine blk_drewN ?_ _ | refine blk_drew ?_ | refine blk_alloc ?_ _)); refine blk_far ?_ NB114_126.out _; (with_reducible repeat (first | refine blk_drewN ?_ _ | refine blk_drew ?_ | refine blk_alloc ?_ _)); refine blk_far ?_ NB114_126.out _; (with_reducible repeat (first | refine blk_drewN ?_ _ | refine blk_drew ?_ | refine blk_alloc ?_ _)); exact BK114.out) hb); have n2_ := Aside0.mk (blk_below (g := gb126) (o := .cells #[.int .i64 (wrap64 (t115)), .int .i64 (wrap64 (t118)), .slice Ao25 t121.length co25] 24 (0, 0)) (by (with_reducible repeat (first | refine blk_drewN ?_ _ | refine blk_drew ?_ | refine blk_alloc ?_ _)); refine blk_put (cs := #[.int .i64 (wrap64 (t115)), .int .i64 (wrap64 (t118)), .slice none 0 0]) ?_ 2 _ rfl; (with_reducible repeat (first | refine blk_drewN ?_ _ | refine blk_drew ?_ | refine blk_alloc ?_ _)); refine blk_put (cs := #[.int .i64 (wrap64 (t115)), .int .i64 0, .slice none 0 0]) ?_ 1 _ rfl; (with_reducible repeat (first | refine blk_drewN ?_ _ | refine blk_drew ?_ | refine blk_alloc ?_ _)); refine blk_put (cs := #[.int .i64 0, .int .i64 0, .slice none 0 0]) ?_ 0 _ rfl; (with_reducible repeat (first | refine blk_drewN ?_ _ | refine blk_drew ?_ | refine blk_alloc ?_ _)); exact BK126.out) hb); have n3_ := Aside0.mk (below_step (by repeat (first | (with_reducible first | exact HB.out | apply below_alloc | apply pw_below_drewN | apply below_drew1 | refine below_set ?_ GE114.out | refine below_set ?_ GE126.out) | exact HB.out)) hb); clear HO125; clear BK114; clear BK126; clear HB; have HO125 := n0_; have BK114 := n1_; have BK126 := n2_; have HB := n3_; clear n0_ n1_ n2_ n3_; (try clear hb); (try clear hb2); (try clear hk); (try clear hi); have hcz30_0 : w29.cell? ⟨gb114, 0, none⟩ = some (.int .i64 0) := (blk_cell BK114.out 0).trans rfl; have hcz30_1 : w29.cell? ⟨gb114, 1, none⟩ = some (.int .i64 0) := (blk_cell BK114.out 1).trans rfl; have hcz30_2 : w29.cell? ⟨gb114, 2, none⟩ = some (.slice none 0 0) := (blk_cell BK114.out 2).trans rfl; have hfz30_0 := blk_frozen BK114.out 0; have hfz30_1 := blk_frozen BK114.out 1; have hfz30_2 := blk_frozen BK114.out 2))
              refine bodyPost_ret (results_ct rfl _ _ gb114 24 #[.int .i64 0, .int .i64 0, .slice none 0 0] (0, 0) _ rfl (by (with_reducible repeat (first | refine blk_drewN ?_ _ | refine blk_drew ?_ | refine blk_alloc ?_ _)); refine blk_put (cs := #[.int .i64 0, .int .i64 0, .slice none 0 0]) ?_ 2 _ rfl; (with_reducible repeat (first | refine blk_drewN ?_ _ | refine blk_drew ?_ | refine blk_alloc ?_ _)); refine blk_put (cs := #[.int .i64 0, .int .i64 0, .slice none 0 0]) ?_ 1 _ rfl; (with_reducible repeat (first | refine blk_drewN ?_ _ | refine blk_drew ?_ | refine blk_alloc ?_ _)); refine blk_put (cs := #[.int .i64 0, .int .i64 0, .slice none 0 0]) ?_ 0 _ rfl; (with_reducible repeat (first | refine blk_drewN ?_ _ | refine blk_drew ?_ | refine blk_alloc ?_ _)); exact BK114.out) Try.underlying24 rfl (by kernel_rfl)) rfl ?_
              exact ⟨_, by first | rfl | (simp [errW_none, errW_some] <;> rfl) | (simp [*, errW_none, errW_some] <;> rfl), by first | exact Kd.R_nil _ _ _ _ _ | exact Kd.N_nil _ _ _ _ _ | exact Kd.V_nil _ _ _ _ _ | exact Kd.Q_nil _ _ _ _ _ | exact Kd.S_nil _ _ _ _ _, by repeat (first | (with_reducible first | exact HB.out | apply below_alloc | apply pw_below_drewN | apply below_drew1 | refine below_set ?_ GE114.out | refine below_set ?_ GE126.out) | exact HB.out)⟩
          · rw [if_neg c13] at H
            have c13b0 : (t122.toList == ([] : List UInt8)) = false := beq_eq_false_iff_ne.mpr c13
            have c13b1 : (t122.toList != ([] : List UInt8)) = true := bne_iff_ne.mpr c13
            simp only [Option.some.injEq, Prod.mk.injEq] at H
            obtain ⟨rfl, rfl, rfl, rfl⟩ := H
            go_wp2_with (first | ((with_reducible refine gate_callee (f := 21) rfl ?_); refine goesL_ (some 41) rfl rfl Try.func21 (by kernel_rfl) rfl #[.string t119, .int .i64 4, .int .i64 48] rfl (by (try simp only [List.map_toArray, List.map_cons, List.map_nil]); first | done | rfl | (simp only [List.length_drop, List.length_take]; rfl)) ?_; (with_reducible refine (digits_TakeRow.calls t119 4 48 t121 t122 t123 _ A11.out).mono ?_); rintro e w31 ⟨v124, rfl, ho0, hb⟩; refine ⟨_, rfl, ?_⟩; have n0_ := Aside0.mk (Kd.R_lower ho0 (below_size (by repeat (first | (with_reducible first | exact HB.out | apply below_alloc | apply pw_below_drewN | apply below_drew1 | refine below_set ?_ GE114.out) | exact HB.out)))); have n1_ := Aside0.mk (blk_below (g := gb114) (o := .cells #[.int .i64 0, .int .i64 0, .slice none 0 0] 24 (0, 0)) (by (with_reducible repeat (first | refine blk_drewN ?_ _ | refine blk_drew ?_ | refine blk_alloc ?_ _)); exact BK114.out) hb); have n2_ := Aside0.mk (below_step (by repeat (first | (with_reducible first | exact HB.out | apply below_alloc | apply pw_below_drewN | apply below_drew1 | refine below_set ?_ GE114.out) | exact HB.out)) hb); clear BK114; clear HB; have HO125 := n0_; have BK114 := n1_; have HB := n2_; clear n0_ n1_ n2_; (try clear hb); (try clear hb2); (try clear hk); (try clear hi); (try clear ho0); obtain ⟨Ao32, co32, eo32⟩ := Kd.R_slice HO125.out; subst eo32) | ((with_reducible refine gate_dst (N := 11) rfl ?_); refine box_event ?hg (N := 11) ?hd (cs := #[.int .i64 0, .int .i64 0, .slice none 0 0]) (t := 24) ?hr ?_; (case hd => rfl); (case hg => rfl); (case hr => first | (go_simp; done) | (go_simp; rfl)); intro gb126 hg w33 hbox hb; have n0_ := Aside0.mk (Kd.R_below (by (with_reducible repeat (first | apply Kd.R_alloc | apply Kd.R_drewN | apply Kd.R_drew)); exact HO125.out) hb); have n1_ := Aside0.mk (blk_below (g := gb114) (o := .cells #[.int .i64 0, .int .i64 0, .slice none 0 0] 24 (0, 0)) (by (with_reducible repeat (first | refine blk_drewN ?_ _ | refine blk_drew ?_ | refine blk_alloc ?_ _)); exact BK114.out) hb); have n2_ := Aside0.mk (below_step (by repeat (first | (with_reducible first | exact HB.out | apply below_alloc | apply pw_below_drewN | apply below_drew1 | refine below_set ?_ GE114.out) | exact HB.out)) hb); have n3_ := Aside0.mk (hbox); have n4_ := Aside0.mk ((by rw [hg]; exact (below_size (by repeat (first | (with_reducible first | exact HB.out | apply below_alloc | apply pw_below_drewN | apply below_drew1 | refine below_set ?_ GE114.out) | exact HB.out))) : w.heap.size ≤ gb126)); have n5_ := Aside0.mk ((by rw [hg]; exact (below_size (by repeat (first | (with_reducible first | exact HB.out | apply below_alloc | apply pw_below_drewN | apply below_drew1 | refine below_set ?_ GE114.out) | exact HB.out))) : w.heap.size ≤ gb126)); have n6_ := Aside0.mk ((by rw [hg]; exact Nat.ne_of_lt (blk_lt (g := gb114) (o := .cells #[.int .i64 0, .int .i64 0, .slice none 0 0] 24 (0, 0)) (by (with_reducible repeat (first | refine blk_drewN ?_ _ | refine blk_drew ?_ | refine blk_alloc ?_ _)); exact BK114.out)) : gb114 ≠ gb126)); have n7_ := Aside0.mk ((by rw [hg]; exact Nat.ne_of_gt (blk_lt (g := gb114) (o := .cells #[.int .i64 0, .int .i64 0, .slice none 0 0] 24 (0, 0)) (by (with_reducible repeat (first | refine blk_drewN ?_ _ | refine blk_drew ?_ | refine blk_alloc ?_ _)); exact BK114.out)) : gb126 ≠ gb114)); clear HO125; clear BK114; clear HB; have HO125 := n0_; have BK114 := n1_; have HB := n2_; have BK126 := n3_; have GW126 := n4_; have GE126 := n5_; have NB114_126 := n6_; have NB126_114 := n7_; clear n0_ n1_ n2_ n3_ n4_ n5_ n6_ n7_; clear hb hbox hg; have hnb34 := NB126_114.out; have hnc34 := NB114_126.out; have hcz35_0 : w33.cell? ⟨gb126, 0, none⟩ = some (.int .i64 0) := (blk_cell BK126.out 0).trans rfl; have hcz35_1 : w33.cell? ⟨gb126, 1, none⟩ = some (.int .i64 0) := (blk_cell BK126.out 1).trans rfl; have hcz35_2 : w33.cell? ⟨gb126, 2, none⟩ = some (.slice none 0 0) := (blk_cell BK126.out 2).trans rfl; have hfz35_0 := blk_frozen BK126.out 0; have hfz35_1 := blk_frozen BK126.out 1; have hfz35_2 := blk_frozen BK126.out 2; have hcz36_0 : w33.cell? ⟨gb114, 0, none⟩ = some (.int .i64 0) := (blk_cell BK114.out 0).trans rfl; have hcz36_1 : w33.cell? ⟨gb114, 1, none⟩ = some (.int .i64 0) := (blk_cell BK114.out 1).trans rfl; have hcz36_2 : w33.cell? ⟨gb114, 2, none⟩ = some (.slice none 0 0) := (blk_cell BK114.out 2).trans rfl; have hfz36_0 := blk_frozen BK114.out 0; have hfz36_1 := blk_frozen BK114.out 1; have hfz36_2 := blk_frozen BK114.out 2))
            refine bodyPost_ret (results_ct rfl _ _ gb114 24 #[.int .i64 0, .int .i64 0, .slice none 0 0] (0, 0) _ rfl (by (with_reducible repeat (first | refine blk_drewN ?_ _ | refine blk_drew ?_ | refine blk_alloc ?_ _)); refine blk_put (cs := #[.int .i64 0, .int .i64 0, .slice none 0 0]) ?_ 2 _ rfl; (with_reducible repeat (first | refine blk_drewN ?_ _ | refine blk_drew ?_ | refine blk_alloc ?_ _)); refine blk_put (cs := #[.int .i64 0, .int .i64 0, .slice none 0 0]) ?_ 1 _ rfl; (with_reducible repeat (first | refine blk_drewN ?_ _ | refine blk_drew ?_ | refine blk_alloc ?_ _)); refine blk_put (cs := #[.int .i64 0, .int .i64 0, .slice none 0 0]) ?_ 0 _ rfl; (with_reducible repeat (first | refine blk_drewN ?_ _ | refine blk_drew ?_ | refine blk_alloc ?_ _)); refine blk_far ?_ NB114_126.out _; (with_reducible repeat (first | refine blk_drewN ?_ _ | refine blk_drew ?_ | refine blk_alloc ?_ _)); refine blk_far ?_ NB114_126.out _; (with_reducible repeat (first | refine blk_drewN ?_ _ | refine blk_drew ?_ | refine blk_alloc ?_ _)); refine blk_far ?_ NB114_126.out _; (with_reducible repeat (first | refine blk_drewN ?_ _ | refine blk_drew ?_ | refine blk_alloc ?_ _)); exact BK114.out) Try.underlying24 rfl (by kernel_rfl)) rfl ?_
            exact ⟨_, by first | rfl | (simp [errW_none, errW_some] <;> rfl) | (simp [*, errW_none, errW_some] <;> rfl), by first | exact Kd.R_nil _ _ _ _ _ | exact Kd.N_nil _ _ _ _ _ | exact Kd.V_nil _ _ _ _ _ | exact Kd.Q_nil _ _ _ _ _ | exact Kd.S_nil _ _ _ _ _, by repeat (first | (with_reducible first | exact HB.out | apply below_alloc | apply pw_below_drewN | apply below_drew1 | refine below_set ?_ GE114.out | refine below_set ?_ GE126.out) | exact HB.out)⟩
        · rw [if_neg c12] at H
          have c12b0 : (t123 == 0) = false := beq_eq_false_iff_ne.mpr c12
          have c12b1 : (t123 != 0) = true := bne_iff_ne.mpr c12
          simp only [Option.some.injEq, Prod.mk.injEq] at H
          obtain ⟨rfl, rfl, rfl, rfl⟩ := H
          go_wp2_with (first | ((with_reducible refine gate_callee (f := 21) rfl ?_); refine goesL_ (some 41) rfl rfl Try.func21 (by kernel_rfl) rfl #[.string t119, .int .i64 4, .int .i64 48] rfl (by (try simp only [List.map_toArray, List.map_cons, List.map_nil]); first | done | rfl | (simp only [List.length_drop, List.length_take]; rfl)) ?_; (with_reducible refine (digits_TakeRow.calls t119 4 48 t121 t122 t123 _ A11.out).mono ?_); rintro e w37 ⟨v124, rfl, ho0, hb⟩; refine ⟨_, rfl, ?_⟩; have n0_ := Aside0.mk (Kd.R_lower ho0 (below_size (by repeat (first | (with_reducible first | exact HB.out | apply below_alloc | apply pw_below_drewN | apply below_drew1 | refine below_set ?_ GE114.out) | exact HB.out)))); have n1_ := Aside0.mk (blk_below (g := gb114) (o := .cells #[.int .i64 0, .int .i64 0, .slice none 0 0] 24 (0, 0)) (by (with_reducible repeat (first | refine blk_drewN ?_ _ | refine blk_drew ?_ | refine blk_alloc ?_ _)); exact BK114.out) hb); have n2_ := Aside0.mk (below_step (by repeat (first | (with_reducible first | exact HB.out | apply below_alloc | apply pw_below_drewN | apply below_drew1 | refine below_set ?_ GE114.out) | exact HB.out)) hb); clear BK114; clear HB; have HO125 := n0_; have BK114 := n1_; have HB := n2_; clear n0_ n1_ n2_; (try clear hb); (try clear hb2); (try clear hk); (try clear hi); (try clear ho0); obtain ⟨Ao38, co38, eo38⟩ := Kd.R_slice HO125.out; subst eo38) | ((with_reducible refine gate_dst (N := 11) rfl ?_); refine box_event ?hg (N := 11) ?hd (cs := #[.int .i64 0, .int .i64 0, .slice none 0 0]) (t := 24) ?hr ?_; (case hd => rfl); (case hg => rfl); (case hr => first | (go_simp; done) | (go_simp; rfl)); intro gb126 hg w39 hbox hb; have n0_ := Aside0.mk (Kd.R_below (by (with_reducible repeat (first | apply Kd.R_alloc | apply Kd.R_drewN | apply Kd.R_drew)); exact HO125.out) hb); have n1_ := Aside0.mk (blk_below (g := gb114) (o := .cells #[.int .i64 0, .int .i64 0, .slice none 0 0] 24 (0, 0)) (by (with_reducible repeat (first | refine blk_drewN ?_ _ | refine blk_drew ?_ | refine blk_alloc ?_ _)); exact BK114.out) hb); have n2_ := Aside0.mk (below_step (by repeat (first | (with_reducible first | exact HB.out | apply below_alloc | apply pw_below_drewN | apply below_drew1 | refine below_set ?_ GE114.out) | exact HB.out)) hb); have n3_ := Aside0.mk (hbox); have n4_ := Aside0.mk ((by rw [hg]; exact (below_size (by repeat (first | (with_reducible first | exact HB.out | apply below_alloc | apply pw_below_drewN | apply below_drew1 | refine below_set ?_ GE114.out) | exact HB.out))) : w.heap.size ≤ gb126)); have n5_ := Aside0.mk ((by rw [hg]; exact (below_size (by repeat (first | (with_reducible first | exact HB.out | apply below_alloc | apply pw_below_drewN | apply below_drew1 | refine below_set ?_ GE114.out) | exact HB.out))) : w.heap.size ≤ gb126)); have n6_ := Aside0.mk ((by rw [hg]; exact Nat.ne_of_lt (blk_lt (g := gb114) (o := .cells #[.int .i64 0, .int .i64 0, .slice none 0 0] 24 (0, 0)) (by (with_reducible repeat (first | refine blk_drewN ?_ _ | refine blk_drew ?_ | refine blk_alloc ?_ _)); exact BK114.out)) : gb114 ≠ gb126)); have n7_ := Aside0.mk ((by rw [hg]; exact Nat.ne_of_gt (blk_lt (g := gb114) (o := .cells #[.int .i64 0, .int .i64 0, .slice none 0 0] 24 (0, 0)) (by (with_reducible repeat (first | refine blk_drewN ?_ _ | refine blk_drew ?_ | refine blk_alloc ?_ _)); exact BK114.out)) : gb126 ≠ gb114)); clear HO125; clear BK114; clear HB; have HO125 := n0_; have BK114 := n1_; have HB := n2_; have BK126 := n3_; have GW126 := n4_; have GE126 := n5_; have NB114_126 := n6_; have NB126_114 := n7_; clear n0_ n1_ n2_ n3_ n4_ n5_ n6_ n7_; clear hb hbox hg; have hnb40 := NB126_114.out; have hnc40 := NB114_126.out; have hcz41_0 : w39.cell? ⟨gb126, 0, none⟩ = some (.int .i64 0) := (blk_cell BK126.out 0).trans rfl; have hcz41_1 : w39.cell? ⟨gb126, 1, none⟩ = some (.int .i64 0) := (blk_cell BK126.out 1).trans rfl; have hcz41_2 : w39.cell? ⟨gb126, 2, none⟩ = some (.slice none 0 0) := (blk_cell BK126.out 2).trans rfl; have hfz41_0 := blk_frozen BK126.out 0; have hfz41_1 := blk_frozen BK126.out 1; have hfz41_2 := blk_frozen BK126.out 2; have hcz42_0 : w39.cell? ⟨gb114, 0, none⟩ = some (.int .i64 0) := (blk_cell BK114.out 0).trans rfl; have hcz42_1 : w39.cell? ⟨gb114, 1, none⟩ = some (.int .i64 0) := (blk_cell BK114.out 1).trans rfl; have hcz42_2 : w39.cell? ⟨gb114, 2, none⟩ = some (.slice none 0 0) := (blk_cell BK114.out 2).trans rfl; have hfz42_0 := blk_frozen BK114.out 0; have hfz42_1 := blk_frozen BK114.out 1; have hfz42_2 := blk_frozen BK114.out 2))
          refine bodyPost_ret (results_ct rfl _ _ gb114 24 #[.int .i64 0, .int .i64 0, .slice none 0 0] (0, 0) _ rfl (by (with_reducible repeat (first | refine blk_drewN ?_ _ | refine blk_drew ?_ | refine blk_alloc ?_ _)); refine blk_put (cs := #[.int .i64 0, .int .i64 0, .slice none 0 0]) ?_ 2 _ rfl; (with_reducible repeat (first | refine blk_drewN ?_ _ | refine blk_drew ?_ | refine blk_alloc ?_ _)); refine blk_put (cs := #[.int .i64 0, .int .i64 0, .slice none 0 0]) ?_ 1 _ rfl; (with_reducible repeat (first | refine blk_drewN ?_ _ | refine blk_drew ?_ | refine blk_alloc ?_ _)); refine blk_put (cs := #[.int .i64 0, .int .i64 0, .slice none 0 0]) ?_ 0 _ rfl; (with_reducible repeat (first | refine blk_drewN ?_ _ | refine blk_drew ?_ | refine blk_alloc ?_ _)); refine blk_far ?_ NB114_126.out _; (with_reducible repeat (first | refine blk_drewN ?_ _ | refine blk_drew ?_ | refine blk_alloc ?_ _)); refine blk_far ?_ NB114_126.out _; (with_reducible repeat (first | refine blk_drewN ?_ _ | refine blk_drew ?_ | refine blk_alloc ?_ _)); refine blk_far ?_ NB114_126.out _; (with_reducible repeat (first | refine blk_drewN ?_ _ | refine blk_drew ?_ | refine blk_alloc ?_ _)); exact BK114.out) Try.underlying24 rfl (by kernel_rfl)) rfl ?_
          exact ⟨_, by first | rfl | (simp [errW_none, errW_some] <;> rfl) | (simp [*, errW_none, errW_some] <;> rfl), by first | exact Kd.R_nil _ _ _ _ _ | exact Kd.N_nil _ _ _ _ _ | exact Kd.V_nil _ _ _ _ _ | exact Kd.Q_nil _ _ _ _ _ | exact Kd.S_nil _ _ _ _ _, by repeat (first | (with_reducible first | exact HB.out | apply below_alloc | apply pw_below_drewN | apply below_drew1 | refine below_set ?_ GE114.out | refine below_set ?_ GE126.out) | exact HB.out)⟩
end Go.Proofs.Ytfhjimeigelibaa.Px

namespace Go.Proofs.Ytfhjimeigelibaa.Px
open Go.RowKit Go.Proofs.YtfhjimeigelibaaW.PrintWords Go.Proofs.YtfhjimeigelibaaW.PrintLast Go.Proofs.YtfhjimeigelibaaW.PrintMore
attribute [local go_sem] max2_int min2_int max_two min_two max_three min_three max_four min_four
set_option linter.unusedVariables false
set_option linter.unusedSimpArgs false
def smallL (s : Bs) : Option (Nat × Bs) := if (takeNumL s).2.2 = 0 ∧ (takeNumL s).1 ≤ 1048576 then some ((takeNumL s).1, (takeNumL s).2.1) else none
theorem smallL_ok {s r : Bs} {v : Nat} (h : smallL s = some (v, r)) : s = numL v ++ r ∧ v ≤ 1048576 := by
  unfold smallL at h
  split at h
  · rename_i h0
    have hi := Option.some.inj h
    obtain ⟨h1, h2⟩ := takeNumL_ok (s := s) (v := (takeNumL s).1) (r := (takeNumL s).2.1) (by rw [← h0.1])
    rw [show (takeNumL s).1 = v from congrArg Prod.fst hi] at h1 h0
    rw [show (takeNumL s).2.1 = r from congrArg Prod.snd hi] at h1
    exact ⟨h1, h0.2⟩
  · cases h
theorem smallL_len {s r : Bs} {v : Nat} (h : smallL s = some (v, r)) : r.length ≤ s.length := by
  rw [(smallL_ok h).1, List.length_append]; omega
theorem smallL_num {v : Nat} (hv : v ≤ 1048576) (r : Bs) : smallL (numL v ++ r) = some (v, r) := by
  rw [smallL, takeNumL_num (by omega), if_pos ⟨rfl, hv⟩]
end Go.Proofs.Ytfhjimeigelibaa.Px

namespace Go.Proofs.Ytfhjimeigelibaa.Px
open Go.RowKit Go.Proofs.YtfhjimeigelibaaW.PrintWords Go.Proofs.YtfhjimeigelibaaW.PrintLast Go.Proofs.YtfhjimeigelibaaW.PrintMore
attribute [local go_sem] max2_int min2_int max_two min_two max_three min_three max_four min_four
set_option linter.unusedVariables false
set_option linter.unusedSimpArgs false
def numbersL (s : Bs) : Int × Int × Bs × Bool :=
  match smallL s with
  | none => (0, 0, [], false)
  | some (a, s1) => match smallL s1 with
    | none => (a, 0, [], false)
    | some (b, s2) => (a, b, s2, true)
def vertex_numbers.Rest (s : Bs) (k : Nat) (s' : ByteArray) (X Y : Int) : Prop :=
  (k = 0 ∧ ofB s' = s ∧ X = 0 ∧ Y = 0) ∨ (k = 1 ∧ Y = 0 ∧ ∃ a : Nat, X = a ∧ smallL s = some (a, ofB s')) ∨
  (k = 2 ∧ ∃ (a b : Nat) (s1 : Bs), X = a ∧ Y = b ∧ smallL s = some (a, s1) ∧ smallL s1 = some (b, ofB s'))
theorem vertex_numbers.Rest.step0 {s : Bs} {s' : ByteArray} {X Y : Int} (h : vertex_numbers.Rest s 0 s' X Y) {v : Nat} {r : Bs} (h1 : smallL (ofB s') = some (v, r)) : vertex_numbers.Rest s 1 (toB r) v Y := by
  rcases h with ⟨_, e, rfl, rfl⟩ | ⟨e, _⟩ | ⟨e, _⟩
  · exact .inr (.inl ⟨rfl, rfl, v, rfl, by rw [ofB_toB, ← h1, e]⟩)
  · cases e
  · cases e
theorem vertex_numbers.Rest.step1 {s : Bs} {s' : ByteArray} {X Y : Int} (h : vertex_numbers.Rest s 1 s' X Y) {v : Nat} {r : Bs} (h1 : smallL (ofB s') = some (v, r)) : vertex_numbers.Rest s 2 (toB r) X v := by
  rcases h with ⟨e, _⟩ | ⟨_, rfl, a, rfl, h2⟩ | ⟨e, _⟩
  · cases e
  · exact .inr (.inr ⟨rfl, a, v, _, rfl, rfl, h2, by rw [ofB_toB, h1]⟩)
  · cases e
theorem vertex_numbers.Rest.fail {s : Bs} {s' : ByteArray} {k : Nat} (hk : k < 2) {X Y : Int} (h : vertex_numbers.Rest s k s' X Y) (h1 : smallL (ofB s') = none) : numbersL s = (X, Y, [], false) := by
  rcases h with ⟨_, e, rfl, rfl⟩ | ⟨_, rfl, a, rfl, h2⟩ | ⟨e, _⟩
  · rw [e] at h1; rw [numbersL, h1]
  · rw [numbersL, h2]; simp only; rw [h1]
  · omega
theorem vertex_numbers.Rest.stop {s : Bs} {s' : ByteArray} {X Y : Int} (h : vertex_numbers.Rest s 2 s' X Y) : numbersL s = (X, Y, ofB s', true) := by
  rcases h with ⟨e, _⟩ | ⟨e, _⟩ | ⟨_, a, b, s1, rfl, rfl, h1, h2⟩
  · cases e
  · cases e
  · rw [numbersL, h1]; simp only; rw [h2]
theorem takeNum_small (s : ByteArray) (hs : s.size < 4611686018427387904) : ∃ k, (∃ (v : Nat) (r : Bs), smallL (ofB s) = some (v, r) ∧ v ≤ 1048576 ∧ digits_TakeNum.f k s = some ((v : Int), toB r, 0)) ∨ (smallL (ofB s) = none ∧ ∃ (v : Nat) (r : Bs) (e : Int), digits_TakeNum.f k s = some ((v : Int), toB r, e) ∧ (e ≠ 0 ∨ 1048576 < v)) := by
  obtain ⟨k, hk⟩ := (takeNum_ev s hs).rounds
  refine ⟨k, ?_⟩
  simp only [takeNumB] at hk
  unfold smallL
  generalize takeNumL (ofB s) = q at *
  obtain ⟨v, r, e⟩ := q
  simp only at hk ⊢
  by_cases h : e = 0 ∧ v ≤ 1048576
  · obtain ⟨rfl, h2⟩ := h
    exact .inl ⟨v, r, by rw [if_pos ⟨rfl, h2⟩], h2, hk⟩
  · refine .inr ⟨if_neg h, v, r, e, hk, ?_⟩
    by_cases he : e = 0
    · exact .inr (by have : ¬ v ≤ 1048576 := fun hh => h ⟨he, hh⟩; omega)
    · exact .inl he
set_option maxHeartbeats 4000000 in
set_option maxRecDepth 100000 in
theorem vertex_numbers.walk (s : ByteArray) (w : World) (hs : s.size < 4611686018427387904) (fin : Int × Int × Bs × Bool) (hfin : numbersL (ofB s) = fin) :
    Calls Try.prog 25 #[.string s] w fun e w' => e = .returned (.tuple #[.agg #[.int .i64 fin.1, .int .i64 fin.2.1], .string (toB fin.2.2.1), .bool fin.2.2.2]) ∧ Below w.heap.size w w' := by
  have HF := Aside0.mk hfin
  have HS := Aside0.mk hs
  clear hfin hs
  go_enter Try.func25, Try.ntmps25
  go_wp2_with (first
    | ((with_reducible refine gate_dst (N := 2) rfl ?_); refine box_event ?hg (N := 2) ?hd (cs := #[.int .i64 0, .int .i64 0]) (t := 62) ?hr ?_; (case hd => rfl); (case hg => rfl); (case hr => first | (go_simp; done) | (go_simp; rfl)); intro g2 hg w1 hbox hb; have G2 : Aside0 (w.heap.size ≤ g2) := ⟨by rw [hg]; exact Nat.le_refl _⟩; have B2 := Aside0.mk hbox; have HB1 := Aside0.mk hb; clear hb hbox hg)
    | ((with_reducible refine gate_dst (N := 5) rfl ?_); refine box_event ?hg (N := 5) ?hd (cs := #[.int .i64 0, .int .i64 0]) (t := 62) ?hr ?_; (case hd => rfl); (case hg => rfl); (case hr => first | (go_simp; done) | (go_simp; rfl)); intro g5 hg w2 hbox hb; have G5 : Aside0 (w.heap.size ≤ g5) := ⟨by rw [hg]; exact below_size HB1.out⟩; have N25 : Aside0 (g2 ≠ g5) := ⟨by rw [hg]; exact Nat.ne_of_lt (blk_lt B2.out)⟩; have C5 := Aside0.mk hbox; have C2 := Aside0.mk (blk_below B2.out hb); have HB2 := Aside0.mk (below_step HB1.out hb); clear hb hbox hg B2))
  have HR0 : Aside0 (vertex_numbers.Rest (ofB s) 0 s 0 0) := ⟨.inl ⟨rfl, rfl, rfl, rfl⟩⟩
  go_loopw [0, 10] (fun v0 v10 wr => ∃ (k : Nat) (s' : ByteArray) (X Y : Int), v0 = .string s' ∧ v10 = .int .i64 k ∧ k ≤ 2 ∧ Aside0 (s'.size ≤ s.size ∧ vertex_numbers.Rest (ofB s) k s' X Y) ∧ Aside0 (Below w.heap.size w wr ∧ wr.heap[g2]? = some (.cells #[.int .i64 0, .int .i64 0] 62 (0, 0)) ∧ wr.heap[g5]? = some (.cells #[.int .i64 X, .int .i64 Y] 62 (0, 0)))) (fun _ v10 _ => 2 - (match v10 with | .int _ q => q | _ => 0).toNat)
  case atStart => exact ⟨0, s, 0, 0, rfl, rfl, by omega, ⟨Nat.le_refl _, HR0.out⟩, ⟨HB2.out, C2.out, C5.out⟩⟩
  case round =>
    obtain ⟨k, s', X, Y, rfl, rfl, hk, HR, HW⟩ := hrel
    obtain ⟨q, hq⟩ := takeNum_small s' (by have := HS.out; have := HR.out.1; omega)
    have hlen : ∀ (v : Nat) (r : Bs), smallL (ofB s') = some (v, r) → (toB r).size ≤ s.size := fun v r h => by
      have := smallL_len h
      rw [ofB_length] at this
      rw [toB_size]; have := HR.out.1; omega
    have HLN := Aside0.mk hlen
    clear hlen HR0
    have n25 := N25.out
    have n52 := Ne.symm N25.out
    have a20 := (blk_cell HW.out.2.1 0).trans rfl; have a21 := (blk_cell HW.out.2.1 1).trans rfl; have a50 := (blk_cell HW.out.2.2 0).trans rfl; have a51 := (blk_cell HW.out.2.2 1).trans rfl
    have f20 := blk_frozen HW.out.2.1 0; have f21 := blk_frozen HW.out.2.1 1; have f50 := blk_frozen HW.out.2.2 0; have f51 := blk_frozen HW.out.2.2 1
    match k, hk, HR with
    | 0, hk, HR =>
      rcases hq with ⟨v, r, h1, h2, h3⟩ | ⟨h1, v, r, e, h3, h4⟩
      · have hb : decide (1048576 < v) = false := decide_eq_false (by omega)
        have hb2 : decide (1048576 < (v : Int)) = false := decide_eq_false (by omega)
        have hw : wrap64 (v : Int) = v := wrap64_of (by omega) (by omega)
        have H1 := Aside0.mk h1
        have H3 := Aside0.mk h3
        clear h1 h2 h3
        go_wp2_with (go_at_call 20; (with_reducible refine (digits_TakeNum.calls _ _ _ _ _ _ H3.out).mono ?_); rintro e w3 ⟨rfl, ⟨nd, rfl⟩⟩)
        exact ⟨⟨1, toB r, v, Y, rfl, rfl, by omega, ⟨HLN.out _ _ H1.out, HR.out.2.step0 H1.out⟩, ⟨below_set (pw_below_drewN HW.out.1 nd) G5.out, blk_far (blk_drewN HW.out.2.1 nd) n25 _, blk_put (blk_drewN HW.out.2.2 nd) 0 _ rfl⟩⟩, by simp⟩
      · have HE := Aside0.mk (HR.out.2.fail (by omega) h1)
        have H3 := Aside0.mk h3
        by_cases he : e = 0
        · subst he
          have hv : 1048576 < v := by rcases h4 with h4 | h4; exact absurd rfl h4; exact h4
          have hb : decide (1048576 < v) = true := decide_eq_true hv
          have hb2 : decide (1048576 < (v : Int)) = true := decide_eq_true (by omega)
          clear h1 h3 h4 hv
          go_wp2_with (go_at_call 20; (with_reducible refine (digits_TakeNum.calls _ _ _ _ _ _ H3.out).mono ?_); rintro e w3 ⟨rfl, ⟨nd, rfl⟩⟩)
          refine bodyPost_ret (results_ctt rfl _ _ g2 62 #[.int .i64 X, .int .i64 Y] (0, 0) _ rfl (blk_put (cs := #[.int .i64 X, .int .i64 0]) (blk_put (cs := #[.int .i64 0, .int .i64 0]) (blk_drewN HW.out.2.1 nd) 0 _ rfl) 1 _ rfl) Try.underlying62 rfl (by kernel_rfl)) rfl ?_
          rw [← HF.out, HE.out]
          exact ⟨rfl, below_set (below_set (pw_below_drewN HW.out.1 nd) G2.out) G2.out⟩
        · have hb : (e == 0) = false := beq_eq_false_iff_ne.2 he
          have hb2 : (e != 0) = true := by rw [bne, hb]; rfl
          clear h1 h3 h4 he
          go_wp2_with (go_at_call 20; (with_reducible refine (digits_TakeNum.calls _ _ _ _ _ _ H3.out).mono ?_); rintro e w3 ⟨rfl, ⟨nd, rfl⟩⟩)
          refine bodyPost_ret (results_ctt rfl _ _ g2 62 #[.int .i64 X, .int .i64 Y] (0, 0) _ rfl (blk_put (cs := #[.int .i64 X, .int .i64 0]) (blk_put (cs := #[.int .i64 0, .int .i64 0]) (blk_drewN HW.out.2.1 nd) 0 _ rfl) 1 _ rfl) Try.underlying62 rfl (by kernel_rfl)) rfl ?_
          rw [← HF.out, HE.out]
          exact ⟨rfl, below_set (below_set (pw_below_drewN HW.out.1 nd) G2.out) G2.out⟩
    | 1, hk, HR =>
      rcases hq with ⟨v, r, h1, h2, h3⟩ | ⟨h1, v, r, e, h3, h4⟩
      · have hb : decide (1048576 < v) = false := decide_eq_false (by omega)
        have hb2 : decide (1048576 < (v : Int)) = false := decide_eq_false (by omega)
        have hw : wrap64 (v : Int) = v := wrap64_of (by omega) (by omega)
        have H1 := Aside0.mk h1
        have H3 := Aside0.mk h3
        clear h1 h2 h3
        go_wp2_with (go_at_call 20; (with_reducible refine (digits_TakeNum.calls _ _ _ _ _ _ H3.out).mono ?_); rintro e w3 ⟨rfl, ⟨nd, rfl⟩⟩)
        exact ⟨⟨2, toB r, X, v, rfl, rfl, by omega, ⟨HLN.out _ _ H1.out, HR.out.2.step1 H1.out⟩, ⟨below_set (pw_below_drewN HW.out.1 nd) G5.out, blk_far (blk_drewN HW.out.2.1 nd) n25 _, blk_put (blk_drewN HW.out.2.2 nd) 1 _ rfl⟩⟩, by simp⟩
      · have HE := Aside0.mk (HR.out.2.fail (by omega) h1)
        have H3 := Aside0.mk h3
        by_cases he : e = 0
        · subst he
          have hv : 1048576 < v := by rcases h4 with h4 | h4; exact absurd rfl h4; exact h4
          have hb : decide (1048576 < v) = true := decide_eq_true hv
          have hb2 : decide (1048576 < (v : Int)) = true := decide_eq_true (by omega)
          clear h1 h3 h4 hv
          go_wp2_with (go_at_call 20; (with_reducible refine (digits_TakeNum.calls _ _ _ _ _ _ H3.out).mono ?_); rintro e w3 ⟨rfl, ⟨nd, rfl⟩⟩)
          refine bodyPost_ret (results_ctt rfl _ _ g2 62 #[.int .i64 X, .int .i64 Y] (0, 0) _ rfl (blk_put (cs := #[.int .i64 X, .int .i64 0]) (blk_put (cs := #[.int .i64 0, .int .i64 0]) (blk_drewN HW.out.2.1 nd) 0 _ rfl) 1 _ rfl) Try.underlying62 rfl (by kernel_rfl)) rfl ?_
          rw [← HF.out, HE.out]
          exact ⟨rfl, below_set (below_set (pw_below_drewN HW.out.1 nd) G2.out) G2.out⟩
        · have hb : (e == 0) = false := beq_eq_false_iff_ne.2 he
          have hb2 : (e != 0) = true := by rw [bne, hb]; rfl
          clear h1 h3 h4 he
          go_wp2_with (go_at_call 20; (with_reducible refine (digits_TakeNum.calls _ _ _ _ _ _ H3.out).mono ?_); rintro e w3 ⟨rfl, ⟨nd, rfl⟩⟩)
          refine bodyPost_ret (results_ctt rfl _ _ g2 62 #[.int .i64 X, .int .i64 Y] (0, 0) _ rfl (blk_put (cs := #[.int .i64 X, .int .i64 0]) (blk_put (cs := #[.int .i64 0, .int .i64 0]) (blk_drewN HW.out.2.1 nd) 0 _ rfl) 1 _ rfl) Try.underlying62 rfl (by kernel_rfl)) rfl ?_
          rw [← HF.out, HE.out]
          exact ⟨rfl, below_set (below_set (pw_below_drewN HW.out.1 nd) G2.out) G2.out⟩
    | 2, hk, HR =>
      have HE := Aside0.mk HR.out.2.stop
      clear hq
      go_wp2_with fail
      refine bodyPost_ret (results_ctt rfl _ _ g2 62 #[.int .i64 X, .int .i64 Y] (0, 0) _ rfl (blk_put (cs := #[.int .i64 X, .int .i64 0]) (blk_put (cs := #[.int .i64 0, .int .i64 0]) HW.out.2.1 0 _ rfl) 1 _ rfl) Try.underlying62 rfl (by kernel_rfl)) rfl ?_
      rw [← HF.out, HE.out]
      exact ⟨by simp only [toB_ofB]; rfl, below_set (below_set HW.out.1 G2.out) G2.out⟩
def vertex_numbers.f (a0 : ByteArray) : Option (Int × Int × ByteArray × Bool) := if a0.size < 4611686018427387904 then some ((numbersL (ofB a0)).1, (numbersL (ofB a0)).2.1, toB (numbersL (ofB a0)).2.2.1, (numbersL (ofB a0)).2.2.2) else none
theorem vertex_numbers.calls (a0 : ByteArray) (r1 r2 : Int) (r3 : ByteArray) (r4 : Bool) (w : World) (h : vertex_numbers.f a0 = some (r1, r2, r3, r4)) :
    Calls Try.prog 25 #[.string a0] w fun e w' => e = .returned (.tuple #[.agg #[.int .i64 r1, .int .i64 r2], .string r3, .bool r4]) ∧ Below w.heap.size w w' := by
  unfold vertex_numbers.f at h
  split at h
  · rename_i hs
    have h := Option.some.inj h
    simp only [Prod.mk.injEq] at h
    obtain ⟨rfl, rfl, rfl, rfl⟩ := h
    exact vertex_numbers.walk a0 w hs _ rfl
  · cases h
end Go.Proofs.Ytfhjimeigelibaa.Px
