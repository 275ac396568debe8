/- part 7 of the proof of the law PostOwn: texts merged by this session's bundle.py. What is proved: the statement at the end of the last of these texts; its conditions are those of the given row. -/
import Derived.Test.YtenbifjbeeobjaaZPostOwnD
import Derived.Test.YtenbifjbeeobjaaZPostOwnE
namespace Go.Proofs.Ytenbifjbeeobjaa.Px
open Go.RowKit Go.Proofs.YtenbifjbeeobjaaW.PrintWords Go.Proofs.YtenbifjbeeobjaaW.PrintLast Go.Proofs.YtenbifjbeeobjaaW.PrintMore
attribute [local go_sem] max2_int min2_int max_two min_two max_three min_three max_four min_four
set_option linter.unusedVariables false
set_option linter.unusedSimpArgs false
def digits_TakeText.j0 : Nat → Int → ByteArray → Bool → Option (ByteArray × ByteArray × Int)
  | 0, _, _, _ => none
  | k + 1, x7, x8, x20 => if x20 = true then (some ((⟨#[]⟩ : ByteArray), (⟨#[]⟩ : ByteArray), 4)) else (if x7 > (IntKind.u64.wrap ((x8.size : Int))) then (some ((⟨#[]⟩ : ByteArray), (⟨#[]⟩ : ByteArray), 2)) else (if 0 ≤ x7 then (if x7 ≤ (x8.size : Int) then (some (x8.extract 0 (x7 : Int).toNat, x8.extract (x7 : Int).toNat x8.size, 0)) else (none)) else (none)))
def digits_TakeText.f (k : Nat) (a0 : ByteArray) (a1 : Int) : Option (ByteArray × ByteArray × Int) := (digits_TakeNum.f k a0).bind fun bt118 => (if bt118.2.2 = 0 then (if a1 < 0 then (digits_TakeText.j0 k bt118.1 bt118.2.1 true) else (digits_TakeText.j0 k bt118.1 bt118.2.1 (decide (bt118.1 > (IntKind.u64.wrap (a1)))))) else (some ((⟨#[]⟩ : ByteArray), (⟨#[]⟩ : ByteArray), bt118.2.2)))
set_option maxHeartbeats 8000000 in
set_option maxRecDepth 100000 in
theorem digits_TakeText.calls (k : Nat) (a0 : ByteArray) (a1 : Int) (r1 : ByteArray) (r2 : ByteArray) (r3 : Int) (w : World) (h : digits_TakeText.f k a0 a1 = some (r1, r2, r3)) :
    Calls Try.prog 62 #[.string a0, .int .i64 a1] w fun e w' => e = .returned (.tuple #[.string r1, .string r2, .int .i64 r3]) ∧ Drawn0 w w' := by
  have H : ((digits_TakeNum.f k a0).bind fun bt118 => (if bt118.2.2 = 0 then (if a1 < 0 then (digits_TakeText.j0 k bt118.1 bt118.2.1 true) else (digits_TakeText.j0 k bt118.1 bt118.2.1 (decide (bt118.1 > (IntKind.u64.wrap (a1)))))) else (some ((⟨#[]⟩ : ByteArray), (⟨#[]⟩ : ByteArray), bt118.2.2)))) = some (r1, r2, r3) := h
  clear h
  replace H := Option.bind_eq_some_iff.mp H
  obtain ⟨⟨t118, t119, t120⟩, A30, H⟩ := H
  replace H : (if t120 = 0 then (if a1 < 0 then (digits_TakeText.j0 k t118 t119 true) else (digits_TakeText.j0 k t118 t119 (decide (t118 > (IntKind.u64.wrap (a1)))))) else (some ((⟨#[]⟩ : ByteArray), (⟨#[]⟩ : ByteArray), t120))) = some (r1, r2, r3) := H
  have A3 := Aside0.mk A30
  clear A30
  by_cases c4 : t120 = 0
  · rw [if_pos c4] at H
    have c4b0 : (t120 == 0) = true := beq_iff_eq.mpr c4
    have c4b1 : (t120 != 0) = false := bne_eq_false_iff_eq.mpr c4
    clear c4
    have HC5 := Aside0.mk H
    clear H
    go_enter Try.func62, Try.ntmps62
    go_upto_region 4 with (first | (go_at_call 63; (with_reducible refine (digits_TakeNum.calls k a0 t118 t119 t120 _ A3.out).mono ?_); rintro e w' ⟨rfl, ⟨nd, rfl⟩⟩; (try first | exact ⟨rfl, _, World.drewN_drewN _ _ _⟩ | exact ⟨rfl, _, Eq.trans (World.drewN_drewN _ _ _) (congrArg (World.drewN _) (Nat.add_assoc _ _ _))⟩)))
    repeat (go_quiet (first | (go_at_call 63; (with_reducible refine (digits_TakeNum.calls k a0 t118 t119 t120 _ A3.out).mono ?_); rintro e w' ⟨rfl, ⟨nd, rfl⟩⟩; (try first | exact ⟨rfl, _, World.drewN_drewN _ _ _⟩ | exact ⟨rfl, _, Eq.trans (World.drewN_drewN _ _ _) (congrArg (World.drewN _) (Nat.add_assoc _ _ _))⟩))); go_upto_region 4 with (first | (go_at_call 63; (with_reducible refine (digits_TakeNum.calls k a0 t118 t119 t120 _ A3.out).mono ?_); rintro e w' ⟨rfl, ⟨nd, rfl⟩⟩; (try first | exact ⟨rfl, _, World.drewN_drewN _ _ _⟩ | exact ⟨rfl, _, Eq.trans (World.drewN_drewN _ _ _) (congrArg (World.drewN _) (Nat.add_assoc _ _ _))⟩))))
    (try simp only [Act.put, List.setIfInBounds_toArray, List.set_cons_zero, List.set_cons_succ])
    go_cut [20] (fun v20 wc => ∃ (kq : Nat) (x20_4 : Bool), v20 = .bool x20_4 ∧ Aside0 (digits_TakeText.j0 kq t118 t119 x20_4 = some (r1, r2, r3)) ∧ Aside0 (kq ≤ k) ∧ Drawn0 w wc)
    case first =>
      have H := HC5.out
      clear HC5
      by_cases c6 : a1 < 0
      · rw [if_pos c6] at H
        have c6b0 : decide (a1 < 0) = true := decide_eq_true c6
        clear c6
        (first | rw [c6b0] | (simp only [i64_w, i32_w]; rw [c6b0]) | skip)
        have H' := Aside0.mk H
        clear H
        go_wp2
        repeat (go_quiet (fail); try go_wp2)
        go_meet
        case rel => exact ⟨_, (true), (by first | rfl | (simp; done) | (simp [*]; done)), H', ⟨by first | omega | exact Nat.le_refl _⟩, by repeat (first | exact Drawn0.refl _ | apply Drawn0.step)⟩
      · rw [if_neg c6] at H
        have c6b0 : decide (a1 < 0) = false := decide_eq_false c6
        clear c6
        (first | rw [c6b0] | (simp only [i64_w, i32_w]; rw [c6b0]) | skip)
        have H' := Aside0.mk H
        clear H
        go_wp2
        repeat (go_quiet (fail); try go_wp2)
        go_meet
        case rel => exact ⟨_, (decide (t118 > (IntKind.u64.wrap (a1)))), (by first | rfl | (simp; done) | (simp [*]; done)), H', ⟨by first | omega | exact Nat.le_refl _⟩, by repeat (first | exact Drawn0.refl _ | apply Drawn0.step)⟩
    case rest =>
      clear HC5
      try clear p2
      try clear c4
      try clear c4b0
      try clear c4b1
      try clear c6
      try clear c6b0
      obtain ⟨kq, x20_4, rfl, HA, HJ4, ⟨mc4, rfl⟩⟩ := hcut
      cases kq with
      | zero => exact absurd HA.out (by simp [digits_TakeText.j0])
      | succ kj4 =>
        have H := HA.out
        clear HA
        simp only [digits_TakeText.j0] at H
        by_cases c7 : x20_4 = true
        · subst c7
          have H1 : (some ((⟨#[]⟩ : ByteArray), (⟨#[]⟩ : ByteArray), 4)) = some (r1, r2, r3) := by rw [if_pos rfl] at H; exact H
          clear H
          have H := H1
          clear H1
          simp only [Option.some.injEq, Prod.mk.injEq] at H
          obtain ⟨rfl, rfl, rfl⟩ := H
          go_wp2
          repeat (go_quiet (fail); try go_wp2)
          go_ret3
          exact ⟨by first | rfl | (simp; done) | (simp [*]; done), by repeat (first | exact Drawn0.refl _ | apply Drawn0.step)⟩
        · replace c7 := Bool.eq_false_iff.mpr c7
          subst c7
          have H1 : (if t118 > (IntKind.u64.wrap ((t119.size : Int))) then (some ((⟨#[]⟩ : ByteArray), (⟨#[]⟩ : ByteArray), 2)) else (if 0 ≤ t118 then (if t118 ≤ (t119.size : Int) then (some (t119.extract 0 (t118 : Int).toNat, t119.extract (t118 : Int).toNat t119.size, 0)) else (none)) else (none))) = some (r1, r2, r3) := by rw [if_neg (show ¬ (false = true) by decide)] at H; exact H
          clear H
          have H := H1
          clear H1
          by_cases c8 : t118 > (IntKind.u64.wrap ((t119.size : Int)))
          · rw [if_pos c8] at H
            have c8b0 : decide ((IntKind.u64.wrap ((t119.size : Int))) < t118) = true := decide_eq_true c8
            clear c8
            simp only [Option.some.injEq, Prod.mk.injEq] at H
            obtain ⟨rfl, rfl, rfl⟩ := H
            go_wp2
            repeat (go_quiet (fail); try go_wp2)
            go_ret3
            exact ⟨by first | rfl | (simp; done) | (simp [*]; done), by repeat (first | exact Drawn0.refl _ | apply Drawn0.step)⟩
          · rw [if_neg c8] at H
            have c8b0 : decide ((IntKind.u64.wrap ((t119.size : Int))) < t118) = false := decide_eq_false c8
            clear c8
            by_cases c9 : 0 ≤ t118
            · rw [if_pos c9] at H
              have c9b0 := eq_true c9
              have c9b1 : decide (0 ≤ t118) = true := decide_eq_true c9
              clear c9
              by_cases c10 : t118 ≤ (t119.size : Int)
              · rw [if_pos c10] at H
                have c10b0 := eq_true c10
                have c10b1 : decide (t118 ≤ (t119.size : Int)) = true := decide_eq_true c10
                clear c10
                have c11b0 := eq_true (of_decide_eq_true (by first | (with_reducible assumption) | assumption) : 0 ≤ t118)
                have c12b0 := eq_true (of_decide_eq_true (by first | (with_reducible assumption) | assumption) : t118 ≤ (t119.size : Int))
                simp only [Option.some.injEq, Prod.mk.injEq] at H
                obtain ⟨rfl, rfl, rfl⟩ := H
                go_wp2
                repeat (go_quiet (fail); try go_wp2)
                go_ret3
                exact ⟨by first | rfl | (simp; done) | (simp [*]; done), by repeat (first | exact Drawn0.refl _ | apply Drawn0.step)⟩
              · rw [if_neg c10] at H
                exact absurd H (by simp)
            · rw [if_neg c9] at H
              exact absurd H (by simp)
  · rw [if_neg c4] at H
    have c4b0 : (t120 == 0) = false := beq_eq_false_iff_ne.mpr c4
    have c4b1 : (t120 != 0) = true := bne_iff_ne.mpr c4
    simp only [Option.some.injEq, Prod.mk.injEq] at H
    obtain ⟨rfl, rfl, rfl⟩ := H
    go_enter Try.func62, Try.ntmps62
    go_wp2_with (first | (go_at_call 63; (with_reducible refine (digits_TakeNum.calls k a0 t118 t119 t120 _ A3.out).mono ?_); rintro e w' ⟨rfl, ⟨nd, rfl⟩⟩; (try first | exact ⟨rfl, _, World.drewN_drewN _ _ _⟩ | exact ⟨rfl, _, Eq.trans (World.drewN_drewN _ _ _) (congrArg (World.drewN _) (Nat.add_assoc _ _ _))⟩)))
    repeat (go_quiet (first | (go_at_call 63; (with_reducible refine (digits_TakeNum.calls k a0 t118 t119 t120 _ A3.out).mono ?_); rintro e w' ⟨rfl, ⟨nd, rfl⟩⟩; (try first | exact ⟨rfl, _, World.drewN_drewN _ _ _⟩ | exact ⟨rfl, _, Eq.trans (World.drewN_drewN _ _ _) (congrArg (World.drewN _) (Nat.add_assoc _ _ _))⟩))); try go_wp2_with (first | (go_at_call 63; (with_reducible refine (digits_TakeNum.calls k a0 t118 t119 t120 _ A3.out).mono ?_); rintro e w' ⟨rfl, ⟨nd, rfl⟩⟩; (try first | exact ⟨rfl, _, World.drewN_drewN _ _ _⟩ | exact ⟨rfl, _, Eq.trans (World.drewN_drewN _ _ _) (congrArg (World.drewN _) (Nat.add_assoc _ _ _))⟩))))
    go_ret3
    exact ⟨by first | rfl | (simp; done) | (simp [*]; done), by repeat (first | exact Drawn0.refl _ | apply Drawn0.step)⟩
end Go.Proofs.Ytenbifjbeeobjaa.Px

namespace Go.Proofs.Ytenbifjbeeobjaa.Px
open Go.RowKit Go.Proofs.YtenbifjbeeobjaaW.PrintWords Go.Proofs.YtenbifjbeeobjaaW.PrintLast Go.Proofs.YtenbifjbeeobjaaW.PrintMore
attribute [local go_sem] max2_int min2_int max_two min_two max_three min_three max_four min_four
set_option linter.unusedVariables false
set_option linter.unusedSimpArgs false
end Go.Proofs.Ytenbifjbeeobjaa.Px

namespace Go.Proofs.Ytenbifjbeeobjaa.Px
open Go.RowKit Go.Proofs.YtenbifjbeeobjaaW.PrintWords Go.Proofs.YtenbifjbeeobjaaW.PrintLast Go.Proofs.YtenbifjbeeobjaaW.PrintMore
attribute [local go_sem] max2_int min2_int max_two min_two max_three min_three max_four min_four
set_option linter.unusedVariables false
set_option linter.unusedSimpArgs false
def takeTextOf (v : Nat) (r : Bs) (most : Int) : Bs × Bs × Int :=
  if most < 0 ∨ most < (v : Int) then ([], [], 4) else if r.length < v then ([], [], 2) else (r.take v, r.drop v, 0)
def takeTextIf (q : Nat × Bs × Int) (most : Int) : Bs × Bs × Int := if q.2.2 = 0 then takeTextOf q.1 q.2.1 most else ([], [], q.2.2)
def takeTextL (s : Bs) (most : Int) : Bs × Bs × Int := takeTextIf (takeNumL s) most
def takeTextB (s : ByteArray) (most : Int) : ByteArray × ByteArray × Int := (toB (takeTextL (ofB s) most).1, toB (takeTextL (ofB s) most).2.1, (takeTextL (ofB s) most).2.2)
theorem takeNumL_len (s : Bs) : (takeNumL s).2.1.length ≤ s.length := by
  rcases s with _ | ⟨c, t⟩
  · simp [takeNumL]
  · simp only [takeNumL]
    (repeat' split) <;> simp <;> omega
theorem takeNumL_val (s : Bs) : (takeNumL s).1 < 18446744073709551616 := by
  rcases h : takeNumL s with ⟨v, r, e⟩
  rcases takeNumL_err h with he | ⟨hv, _⟩
  · subst he; exact (takeNumL_ok h).2
  · show v < _; omega
theorem extract_toB (l : Bs) (i j : Nat) : (toB l).extract i j = toB ((l.drop i).take (j - i)) := ofB_inj (by rw [ofB_extract, ofB_toB, ofB_toB])
theorem takeText_end (v : Nat) (r : Bs) (h : ¬ r.length < v) : ((toB r).extract 0 v, (toB r).extract v (toB r).size) = (toB (r.take v), toB (r.drop v)) := by
  rw [extract_toB, extract_toB, toB_size, List.drop_zero, Nat.sub_zero, List.take_of_length_le (l := r.drop v) (by rw [List.length_drop]; omega)]
theorem takeText_ev (s : ByteArray) (most : Int) (hs : s.size < 4611686018427387904) (hw : (Lit.int .i64 most).wf = true) : Ev (fun k => digits_TakeText.f k s most) (takeTextB s most) := by
  obtain ⟨m0, m1⟩ := i64_wf hw
  have hv := takeNumL_val (ofB s)
  have hl := takeNumL_len (ofB s)
  rw [ofB_length] at hl
  refine Ev.bind (takeNum_ev s hs) ?_
  rcases hq : takeNumL (ofB s) with ⟨v, r, e⟩
  rw [hq] at hv hl
  simp only [takeNumB, takeTextB, takeTextL, hq]
  simp only at hv hl
  by_cases he : e = 0
  · subst he
    refine ev_pos rfl ?_
    have hj : ∀ b : Bool, (b = true ↔ (most < 0 ∨ most < (v : Int))) → Ev (fun k => digits_TakeText.j0 k (v : Int) (toB r) b) (toB (takeTextOf v r most).1, toB (takeTextOf v r most).2.1, (takeTextOf v r most).2.2) := by
      intro b hb
      refine Ev.step (fun k => by rw [digits_TakeText.j0]) ?_
      by_cases h4 : most < 0 ∨ most < (v : Int)
      · rw [takeTextOf, if_pos h4]
        exact ev_pos (hb.2 h4) (Ev.now _)
      · rw [takeTextOf, if_neg h4]
        refine ev_neg (fun h => h4 (hb.1 h)) ?_
        rw [toB_size, u64_wrap_of (by omega) (by omega)]
        by_cases h2 : r.length < v
        · rw [if_pos h2]
          exact ev_pos (by omega) (Ev.now _)
        · rw [if_neg h2]
          refine ev_neg (by omega) (ev_pos (by omega) (ev_pos (by omega) ?_))
          rw [Int.toNat_natCast]
          have hx := takeText_end v r h2
          rw [toB_size] at hx
          injection hx with hx1 hx2
          rw [hx1, hx2]
          exact Ev.now _
    by_cases hm : most < 0
    · exact ev_pos hm (hj true (by simp [hm]))
    · refine ev_neg hm ?_
      rw [u64_wrap_of (by omega) (by omega)]
      exact hj _ (by simp; omega)
  · refine ev_neg he ?_
    rw [takeTextIf, if_neg he]
    exact Ev.now _
end Go.Proofs.Ytenbifjbeeobjaa.Px

namespace Go.Proofs.Ytenbifjbeeobjaa.Px
open Go.RowKit Go.Proofs.YtenbifjbeeobjaaW.PrintWords Go.Proofs.YtenbifjbeeobjaaW.PrintLast Go.Proofs.YtenbifjbeeobjaaW.PrintMore
attribute [local go_sem] max2_int min2_int max_two min_two max_three min_three max_four min_four
set_option linter.unusedVariables false
set_option linter.unusedSimpArgs false
def takeTexts (most : Int) : Nat → Bs → List ByteArray → List ByteArray × Bs × Int
  | 0, s, acc => (acc, s, 0)
  | n + 1, s, acc => if (takeTextL s most).2.2 = 0 then takeTexts most n (takeTextL s most).2.1 (acc ++ [toB (takeTextL s most).1]) else ([], [], (takeTextL s most).2.2)
def takeRowIf (q : Nat × Bs × Int) (many most : Int) : List ByteArray × Bs × Int :=
  if q.2.2 = 0 then (if many < 0 ∨ many < (q.1 : Int) then ([], [], 4) else takeTexts most q.1 q.2.1 []) else ([], [], q.2.2)
def takeRowL (s : Bs) (many most : Int) : List ByteArray × Bs × Int := takeRowIf (takeNumL s) many most
theorem takeTextL_short {s : Bs} {most : Int} (h : (takeTextL s most).2.2 = 0) : (takeTextL s most).2.1.length < s.length := by
  unfold takeTextL takeTextIf at h ⊢
  split at h
  · rename_i h0
    rw [if_pos h0]
    unfold takeTextOf at h ⊢
    split at h
    · cases h
    · rename_i h1
      rw [if_neg h1]
      split at h
      · cases h
      · rename_i h2
        rw [if_neg h2]
        rcases hq : takeNumL s with ⟨v, r, e⟩
        rw [hq] at h0
        simp only at h0
        subst h0
        obtain ⟨rfl, _⟩ := takeNumL_ok hq
        simp only [List.length_drop, List.length_append, numL, List.length_cons]
        omega
  · rename_i h0
    exact absurd h h0
end Go.Proofs.Ytenbifjbeeobjaa.Px

namespace Go.Proofs.Ytenbifjbeeobjaa.Px
open Go.RowKit Go.Proofs.YtenbifjbeeobjaaW.PrintWords Go.Proofs.YtenbifjbeeobjaaW.PrintLast Go.Proofs.YtenbifjbeeobjaaW.PrintMore
attribute [local go_sem] max2_int min2_int max_two min_two max_three min_three max_four min_four
set_option linter.unusedVariables false
set_option linter.unusedSimpArgs false
theorem digits_TakeRow.take1k (s : ByteArray) (most : Int) (hs : s.size < 4611686018427387904) (hw : (Lit.int .i64 most).wf = true) : ∃ k, digits_TakeText.f k s most = some ((takeTextB s most).1, (takeTextB s most).2.1, (takeTextB s most).2.2) := (takeText_ev s most hs hw).rounds
set_option maxRecDepth 100000 in
theorem digits_TakeRow.take1 (s : ByteArray) (most : Int) (b : Nat) (w : World) (hs : s.size < 4611686018427387904) (hw : (Lit.int .i64 most).wf = true) (hc : w.cell? ⟨b, 0, none⟩ = some (.int .i64 most)) :
    Calls Try.prog 80 #[.string s, .pointer (some ⟨b, 0, none⟩)] w fun e w' => e = .returned (.tuple #[.string (takeTextB s most).1, .string (takeTextB s most).2.1, .int .i64 (takeTextB s most).2.2]) ∧ Drawn0 w w' := by
  obtain ⟨k, hk⟩ := digits_TakeRow.take1k s most hs hw
  have HK := Aside0.mk hk
  clear hk hs hw
  generalize takeTextB s most = q at *
  go_enter Try.func80, Try.ntmps80
  go_wp2_with (go_at_call 62; (with_reducible refine (digits_TakeText.calls _ _ _ _ _ _ _ HK.out).mono ?_); rintro e w1 ⟨rfl, hd⟩)
  go_ret3
  exact ⟨rfl, by assumption⟩
theorem digits_TakeRow.info : (Try.prog.info? 9).map (fun i => (i.zero, i.size, i.bytes)) = some (some (.string ⟨#[]⟩), 1, 16) := by kernel_rfl
def digits_TakeRow.Rel (most : Int) (w0 : World) (fin : List ByteArray × Bs × Int) (n j : Nat) (s : ByteArray) (v : Value) (wr : World) : Prop :=
  ∃ acc : List ByteArray, takeTexts most (n - j) (ofB s) acc = fin ∧ acc.length ≤ j ∧ (n ≤ 8796093022207 ∨ acc.length + s.size ≤ 8796093022207) ∧ s.size < 4611686018427387904 ∧ Kd.R Kd.string 9 wr w0.heap.size (fun _ => True) v acc ∧ Below w0.heap.size w0 wr
theorem digits_TakeRow.Rel.step {most : Int} {w0 wr : World} {fin : List ByteArray × Bs × Int} {n j : Nat} {s : ByteArray} {v : Value} (h : digits_TakeRow.Rel most w0 fin n j s v wr) (hj : j < n) (h0 : (takeTextB s most).2.2 = 0) :
    ∃ acc : List ByteArray, (acc.length + 1) * 16 ≤ 140737488355328 ∧ Kd.R Kd.string 9 wr w0.heap.size (fun _ => True) v acc ∧ Below w0.heap.size w0 wr ∧
      ∀ v' w', Kd.R Kd.string 9 w' w0.heap.size (fun _ => True) v' (acc ++ [(takeTextB s most).1]) → Below w0.heap.size w0 w' → digits_TakeRow.Rel most w0 fin n (j + 1) (takeTextB s most).2.1 v' w' := by
  obtain ⟨acc, h1, h2, h3, h4, h5, h6⟩ := h
  have hsh := takeTextL_short (s := ofB s) (most := most) h0
  rw [ofB_length] at hsh
  have e : n - j = (n - (j + 1)) + 1 := by omega
  have h0' : (takeTextL (ofB s) most).2.2 = 0 := h0
  rw [e, takeTexts, if_pos h0'] at h1
  have hsz : (takeTextB s most).2.1.size = (takeTextL (ofB s) most).2.1.length := by rw [takeTextB, toB_size]
  refine ⟨acc, by omega, h5, h6, fun v' w' k1 k2 => ⟨_, ?_, by rw [List.length_append, List.length_singleton]; omega, ?_, by omega, k1, k2⟩⟩
  · rw [show ofB (takeTextB s most).2.1 = (takeTextL (ofB s) most).2.1 by rw [takeTextB, ofB_toB]]
    exact h1
  · rw [List.length_append, List.length_singleton]; omega
theorem digits_TakeRow.Rel.fail {most : Int} {w0 wr : World} {fin : List ByteArray × Bs × Int} {n j : Nat} {s : ByteArray} {v : Value} (h : digits_TakeRow.Rel most w0 fin n j s v wr) (hj : j < n) (h0 : ¬ (takeTextB s most).2.2 = 0) : fin = ([], [], (takeTextB s most).2.2) := by
  obtain ⟨acc, h1, _⟩ := h
  have e : n - j = (n - (j + 1)) + 1 := by omega
  have h0' : ¬ (takeTextL (ofB s) most).2.2 = 0 := h0
  rw [e, takeTexts, if_neg h0'] at h1
  exact h1.symm
set_option maxRecDepth 100000 in
set_option maxHeartbeats 4000000 in
theorem digits_TakeRow.several (s : ByteArray) (n : Nat) (most : Int) (b : Nat) (w : World) (hn : n < 18446744073709551616) (hs : s.size < 4611686018427387904) (hw : (Lit.int .i64 most).wf = true) (hc : w.cell? ⟨b, 0, none⟩ = some (.int .i64 most)) (hroom : s.size ≤ 8796093022207 ∨ n ≤ 8796093022207) (fin : List ByteArray × Bs × Int) (hfin : takeTexts most n (ofB s) [] = fin) :
    Calls Try.prog 79 #[.string s, .int .u64 n, .func (.func 80) #[] #[.pointer (some ⟨b, 0, none⟩)]] w fun e w' => ∃ v0_ : Value, e = .returned (.tuple #[v0_, .string (toB fin.2.1), .int .i64 fin.2.2]) ∧ Kd.R Kd.string 9 w' w.heap.size (fun _ => True) v0_ fin.1 ∧ Below w.heap.size w w' := by
  have HF : Aside0 (digits_TakeRow.Rel most w fin n 0 s (.slice none 0 0) w) := ⟨⟨[], by rw [Nat.sub_zero]; exact hfin, Nat.le_refl _, by simp only [List.length_nil]; omega, hs, Kd.R_nil _ _ _ _ _, Below.refl _ _⟩⟩
  have HW := Aside0.mk hw
  have HC := Aside0.mk hc
  clear hfin hroom hs hw hc
  go_enter Try.func79, Try.ntmps79
  go_wp2_with fail
  go_loopw [0, 9, 10, 11, 12, 14] (fun v0 v9 _ _ _ v14 wr => ∃ (j : Nat) (s' : ByteArray), v0 = .string s' ∧ v14 = .int .u64 j ∧ j ≤ n ∧ Aside0 (digits_TakeRow.Rel most w fin n j s' v9 wr)) (fun _ _ _ _ _ v14 _ => n - (match v14 with | .int _ q => q | _ => 0).toNat)
  case atStart => exact ⟨0, s, rfl, rfl, Nat.zero_le _, HF⟩
  case round =>
    obtain ⟨j, s', rfl, rfl, hj, HR⟩ := hrel
    by_cases hlt : j < n
    · have hb : decide (j < n) = true := decide_eq_true hlt
      have HT := Aside0.mk (digits_TakeRow.take1 s' most b)
      obtain ⟨hs', hbel⟩ : s'.size < 4611686018427387904 ∧ Below w.heap.size w wr := by
        obtain ⟨_, _, _, _, h4, _, h6⟩ := HR.out
        exact ⟨h4, h6⟩
      have HCW := Aside0.mk (pw_cell_below hbel HC.out)
      have HS := Aside0.mk hs'
      clear hs' hbel
      by_cases h0 : (takeTextB s' most).2.2 = 0
      · obtain ⟨acc, a1, a2, a3, a4⟩ := HR.out.step hlt h0
        have HL := Aside0.mk a1
        have HO := Aside0.mk a2
        have HB := Aside0.mk a3
        have HN := Aside0.mk a4
        clear a1 a2 a3 a4
        have HZ := Aside0.mk h0
        clear h0
        generalize takeTextB s' most = q at *
        obtain ⟨q1, q2, q3⟩ := q
        have hq3 := HZ.out
        simp only at hq3
        subst hq3
        simp only at HN HT
        clear HZ
        go_wp2_with (first | (go_at_call 80; (with_reducible refine (HT.out _ HS.out HW.out HCW.out).mono ?_); rintro e w1 ⟨rfl, ⟨nd, rfl⟩⟩) | (at_builtin; refine Kd.R_append Kd.string (w0 := w) w.heap.size rfl (.tmp 26) (.tmp 28) 24 9 (.string ⟨#[]⟩) 16 rfl Try.underlying24 digits_TakeRow.info rfl (by decide) (by omega) _ acc q1 [.string q1] (fun _ => True) (fun _ => False) rfl rfl ?aP (fun _ hk => hk.elim) ?aF ?aO ?aB ?aS ?aL ?_; (case aP => exact rfl); (case aF => exact (fun _ _ => trivial)); (case aO => exact (Kd.R_drewN HO.out _)); (case aB => exact (pw_below_drewN HB.out _)); (case aS => exact (below_size (pw_below_drewN HB.out _))); (case aL => exact HL.out); intro v3 w3 ho hb hg hat; have HX := Aside0.mk (HN.out _ _ ho hb); clear ho hb hg hat))
        go_roundw
        case rel => exact ⟨j + 1, q2, rfl, by go_num, by omega, HX⟩
        case measure => simp; omega
      · have hf := HR.out.fail hlt h0
        have HB : Aside0 (Below w.heap.size w wr) := ⟨by obtain ⟨_, _, _, _, _, _, h6⟩ := HR.out; exact h6⟩
        have hz : ((takeTextB s' most).2.2 == 0) = false := beq_eq_false_iff_ne.2 h0
        have hz2 : ((takeTextB s' most).2.2 != 0) = true := by rw [bne, hz]; rfl
        clear h0
        have HF2 := Aside0.mk hf
        clear hf HF
        generalize takeTextB s' most = q at *
        obtain ⟨q1, q2, q3⟩ := q
        simp only at hz hz2 HF2 HT
        go_wp2_with (go_at_call 80; (with_reducible refine (HT.out _ HS.out HW.out HCW.out).mono ?_); rintro e w1 ⟨rfl, ⟨nd, rfl⟩⟩)
        go_ret3
        rw [HF2.out]
        exact ⟨_, rfl, Kd.R_nil _ _ _ _ _, pw_below_drewN HB.out _⟩
    · obtain rfl : j = n := by omega
      obtain ⟨acc, h1, _, _, _, h5, h6⟩ := HR.out
      rw [Nat.sub_self, takeTexts] at h1
      have H1 := Aside0.mk h1
      have H5 := Aside0.mk h5
      have H6 := Aside0.mk h6
      clear h1 h5 h6 hlt HF HR
      go_wp2_with fail
      go_ret3
      rw [← H1.out]
      exact ⟨_, by simp only [toB_ofB]; rfl, H5.out, H6.out⟩
def digits_TakeRow.f (a0 : ByteArray) (a1 : Int) (a2 : Int) : Option (List ByteArray × ByteArray × Int) :=
  if (Lit.int .i64 a1).wf = true ∧ (Lit.int .i64 a2).wf = true ∧ a0.size < 4611686018427387904 ∧ (a0.size ≤ 8796093022207 ∨ a1 ≤ 8796093022207) then some ((takeRowL (ofB a0) a1 a2).1, toB (takeRowL (ofB a0) a1 a2).2.1, (takeRowL (ofB a0) a1 a2).2.2) else none
set_option maxHeartbeats 4000000 in
set_option maxRecDepth 100000 in
theorem digits_TakeRow.walk (a0 : ByteArray) (a1 : Int) (a2 : Int) (w : World) (h1 : (Lit.int .i64 a1).wf = true) (h2 : (Lit.int .i64 a2).wf = true) (hs : a0.size < 4611686018427387904) (hroom : a0.size ≤ 8796093022207 ∨ a1 ≤ 8796093022207) (fin : List ByteArray × Bs × Int) (hfin : takeRowL (ofB a0) a1 a2 = fin) :
    Calls Try.prog 54 #[.string a0, .int .i64 a1, .int .i64 a2] w fun e w' => ∃ v0_ : Value, e = .returned (.tuple #[v0_, .string (toB fin.2.1), .int .i64 fin.2.2]) ∧ Kd.R Kd.string 9 w' w.heap.size (fun _ => True) v0_ fin.1 ∧ Below w.heap.size w w' := by
  obtain ⟨m0, m1⟩ := i64_wf h1
  obtain ⟨k, hk⟩ := (takeNum_ev a0 hs).rounds
  have hv := takeNumL_val (ofB a0)
  have hl := takeNumL_len (ofB a0)
  rw [ofB_length] at hl
  rcases hq : takeNumL (ofB a0) with ⟨v, r, e⟩
  rw [takeRowL, hq] at hfin
  rw [hq] at hv hl
  simp only [takeNumB, hq] at hk
  simp only at hv hl
  have HK := Aside0.mk hk
  have H2 := Aside0.mk h2
  have HF := Aside0.mk hfin
  have HR := Aside0.mk hroom
  have HL := Aside0.mk hl
  clear hk h1 h2 hfin hroom hl hq
  by_cases he : e = 0
  · subst he
    by_cases h4 : a1 < 0 ∨ a1 < (v : Int)
    · have hf := HF.out
      rw [takeRowIf, if_pos rfl, if_pos h4] at hf
      have HF2 := Aside0.mk hf
      clear hf HF
      by_cases hneg : a1 < 0
      · have hb : decide (a1 < 0) = true := decide_eq_true hneg
        clear h4
        go_enter Try.func54, Try.ntmps54
        go_wp2_with (go_at_call 63; (with_reducible refine (digits_TakeNum.calls _ _ _ _ _ _ HK.out).mono ?_); rintro e w1 ⟨rfl, ⟨nd, rfl⟩⟩)
        go_ret3
        rw [← HF2.out]
        exact ⟨_, rfl, Kd.R_nil _ _ _ _ _, pw_below_drewN ((Below.refl _ _).alloc (Nat.le_refl _) _) _⟩
      · have hb : decide (a1 < 0) = false := decide_eq_false hneg
        have hpos : 0 ≤ a1 := by omega
        have hlt : a1 < (v : Int) := by omega
        have hb2 : decide (a1 < (v : Int)) = true := decide_eq_true hlt
        clear h4 hneg
        go_enter Try.func54, Try.ntmps54
        go_wp2_with (go_at_call 63; (with_reducible refine (digits_TakeNum.calls _ _ _ _ _ _ HK.out).mono ?_); rintro e w1 ⟨rfl, ⟨nd, rfl⟩⟩)
        go_ret3
        rw [← HF2.out]
        exact ⟨_, rfl, Kd.R_nil _ _ _ _ _, pw_below_drewN ((Below.refl _ _).alloc (Nat.le_refl _) _) _⟩
    · have hf := HF.out
      rw [takeRowIf, if_pos rfl, if_neg h4] at hf
      have HF2 := Aside0.mk hf
      clear hf HF
      have hpos : 0 ≤ a1 := by omega
      have hge : (v : Int) ≤ a1 := by omega
      have hb : decide (a1 < 0) = false := decide_eq_false (by omega)
      have hb2 : decide (a1 < (v : Int)) = false := decide_eq_false (by omega)
      have HV := Aside0.mk hv
      have HS := Aside0.mk hs
      have HG := Aside0.mk hge
      clear h4 hge hv hs
      go_enter Try.func54, Try.ntmps54
      go_wp2_with (first | (go_at_call 63; (with_reducible refine (digits_TakeNum.calls _ _ _ _ _ _ HK.out).mono ?_); rintro e w1 ⟨rfl, ⟨nd, rfl⟩⟩) | (go_at_call 79; refine (digits_TakeRow.several (toB r) v a2 w.heap.size _ HV.out (by rw [toB_size]; have := HL.out; have := HS.out; omega) H2.out (by simp [World.cell?_alloc_new]) (by rw [toB_size]; have := HL.out; have := HR.out; have := HG.out; omega) fin (by rw [ofB_toB]; exact HF2.out)).mono ?_; rintro e w2 ⟨v0, rfl, hR, hB⟩))
      go_ret3
      have hW : Below w.heap.size w ((w.alloc (.cells #[.int .i64 a2] 3)).drewN nd) := pw_below_drewN ((Below.refl _ _).alloc (Nat.le_refl _) _) _
      exact ⟨_, rfl, Kd.R_lower hR hW.size, below_step hW hB⟩
  · have hf := HF.out
    rw [takeRowIf, if_neg he] at hf
    have HF2 := Aside0.mk hf
    have hz : (e == 0) = false := beq_eq_false_iff_ne.2 he
    have hz2 : (e != 0) = true := by rw [bne, hz]; rfl
    clear hf HF he
    go_enter Try.func54, Try.ntmps54
    go_wp2_with (go_at_call 63; (with_reducible refine (digits_TakeNum.calls _ _ _ _ _ _ HK.out).mono ?_); rintro e w1 ⟨rfl, ⟨nd, rfl⟩⟩)
    go_ret3
    rw [← HF2.out]
    exact ⟨_, rfl, Kd.R_nil _ _ _ _ _, pw_below_drewN ((Below.refl _ _).alloc (Nat.le_refl _) _) _⟩
theorem digits_TakeRow.calls (a0 : ByteArray) (a1 : Int) (a2 : Int) (r1 : List ByteArray) (r2 : ByteArray) (r3 : Int) (w : World) (h : digits_TakeRow.f a0 a1 a2 = some (r1, r2, r3)) :
    Calls Try.prog 54 #[.string a0, .int .i64 a1, .int .i64 a2] w fun e w' => ∃ v0_ : Value, e = .returned (.tuple #[v0_, .string r2, .int .i64 r3]) ∧ Kd.R Kd.string 9 w' w.heap.size (fun _ => True) v0_ r1 ∧ Below w.heap.size w w' := by
  unfold digits_TakeRow.f at h
  split at h
  · rename_i hc
    obtain ⟨h1, h2, h3, h4⟩ := hc
    simp only [Option.some.injEq, Prod.mk.injEq] at h
    obtain ⟨rfl, rfl, rfl⟩ := h
    exact digits_TakeRow.walk a0 a1 a2 w h1 h2 h3 h4 _ rfl
  · cases h
end Go.Proofs.Ytenbifjbeeobjaa.Px
