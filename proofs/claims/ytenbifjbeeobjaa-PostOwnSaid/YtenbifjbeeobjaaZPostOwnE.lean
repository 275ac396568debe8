/- part 5 of the proof of the law PostOwn: texts merged by this session's bundle.py. What is proved: the statement at the end of the last of these texts; its conditions are those of the given row. -/
import Derived.ScopeJumps
import Derived.WalkMore
import Derived.WalkLawsBesides
import Derived.Test.YtenbifjbeeobjaaZPostOwnD
namespace Go.Proofs.Ytenbifjbeeobjaa.Px
open Go.RowKit Go.Proofs.YtenbifjbeeobjaaW.PrintWords Go.Proofs.YtenbifjbeeobjaaW.PrintLast Go.Proofs.YtenbifjbeeobjaaW.PrintMore
attribute [local go_sem] max2_int min2_int max_two min_two max_three min_three max_four min_four
set_option linter.unusedVariables false
set_option linter.unusedSimpArgs false
mutual
def digits_TakeNum.j0 : Nat → ByteArray → Int → Option (Int × ByteArray × Int)
  | 0, _, _ => none
  | k + 1, x0, x5 => digits_TakeNum.l0 k x0 x5 0 1
def digits_TakeNum.l0 : Nat → ByteArray → Int → Int → Int → Option (Int × ByteArray × Int)
  | 0, _, _, _, _ => none
  | k + 1, x0, x5, x6, x7 => if x7 ≤ x5 then (if 0 ≤ x7 then (if x7 < (x0.size : Int) then (digits_TakeNum.l0 k x0 x5 (Go.bits .or .u64 (IntKind.u64.wrap (x6 * 256)) (IntKind.u64.wrap (bt x0 x7))) (wrap64 (x7 + 1))) else (none)) else (none)) else (if 0 ≤ (wrap64 (x5 + 1)) then (if (wrap64 (x5 + 1)) ≤ (x0.size : Int) then (some (x6, x0.extract ((wrap64 (x5 + 1)) : Int).toNat x0.size, 0)) else (none)) else (none))
end
def digits_TakeNum.f (k : Nat) (a0 : ByteArray) : Option (Int × ByteArray × Int) := if a0.toList = ([] : List UInt8) then (some (0, (⟨#[]⟩ : ByteArray), 2)) else (if 0 < (a0.size : Int) then (if (wrap64 (bt a0 0)) > 8 then (some (0, (⟨#[]⟩ : ByteArray), 3)) else (if (a0.size : Int) ≤ (wrap64 (bt a0 0)) then (some (0, (⟨#[]⟩ : ByteArray), 2)) else (if (wrap64 (bt a0 0)) > 0 then (if 1 < (a0.size : Int) then (if (bt a0 1) = 0 then (some (0, (⟨#[]⟩ : ByteArray), 3)) else (digits_TakeNum.j0 k a0 (wrap64 (bt a0 0)))) else (none)) else (digits_TakeNum.j0 k a0 (wrap64 (bt a0 0)))))) else (none))
set_option maxHeartbeats 8000000 in
set_option maxRecDepth 100000 in
theorem digits_TakeNum.calls (k : Nat) (a0 : ByteArray) (r1 : Int) (r2 : ByteArray) (r3 : Int) (w : World) (h : digits_TakeNum.f k a0 = some (r1, r2, r3)) :
    Calls Try.prog 63 #[.string a0] w fun e w' => e = .returned (.tuple #[.int .u64 r1, .string r2, .int .i64 r3]) ∧ Drawn0 w w' := by
  have H : (if a0.toList = ([] : List UInt8) then (some (0, (⟨#[]⟩ : ByteArray), 2)) else (if 0 < (a0.size : Int) then (if (wrap64 (bt a0 0)) > 8 then (some (0, (⟨#[]⟩ : ByteArray), 3)) else (if (a0.size : Int) ≤ (wrap64 (bt a0 0)) then (some (0, (⟨#[]⟩ : ByteArray), 2)) else (if (wrap64 (bt a0 0)) > 0 then (if 1 < (a0.size : Int) then (if (bt a0 1) = 0 then (some (0, (⟨#[]⟩ : ByteArray), 3)) else (digits_TakeNum.j0 k a0 (wrap64 (bt a0 0)))) else (none)) else (digits_TakeNum.j0 k a0 (wrap64 (bt a0 0)))))) else (none))) = some (r1, r2, r3) := h
  clear h
  by_cases c2 : a0.toList = ([] : List UInt8)
  · rw [if_pos c2] at H
    have c2b0 : (a0.toList == ([] : List UInt8)) = true := beq_iff_eq.mpr c2
    have c2b1 : (a0.toList != ([] : List UInt8)) = false := bne_eq_false_iff_eq.mpr c2
    clear c2
    simp only [Option.some.injEq, Prod.mk.injEq] at H
    obtain ⟨rfl, rfl, rfl⟩ := H
    go_enter Try.func63, Try.ntmps63
    go_wp2
    repeat (go_quiet (fail); try go_wp2)
    go_ret3
    exact ⟨by first | rfl | (simp; done) | (simp [*]; done), by repeat (first | exact Drawn0.refl _ | apply Drawn0.step)⟩
  · rw [if_neg c2] at H
    have c2b0 : (a0.toList == ([] : List UInt8)) = false := beq_eq_false_iff_ne.mpr c2
    have c2b1 : (a0.toList != ([] : List UInt8)) = true := bne_iff_ne.mpr c2
    by_cases c3 : 0 < (a0.size : Int)
    · rw [if_pos c3] at H
      have c3b0 : decide (0 < (a0.size : Int)) = true := decide_eq_true c3
      have c3b1 : decide (0 < a0.size) = true := decide_eq_true (by omega)
      clear c3
      have HC5 := Aside0.mk H
      clear H
      have p4 : 0 ≤ (0 : Int) := (by omega)
      have q4 : 0 < a0.size := (by have : (0 : Int) < (a0.size : Int) := of_decide_eq_true (by first | (with_reducible assumption) | assumption); omega)
      have hx4 : ∀ h : 0 < a0.size, ((a0[0]'h).toNat : Int) = bt a0 0 := bt_at a0 0
      clear p4
      have qi4 : (0 < (a0.size : Int)) = True := eq_true (of_decide_eq_true (by first | (with_reducible assumption) | assumption))
      replace q4 := eq_true q4
      go_enter Try.func63, Try.ntmps63
      go_upto_block 0 with (fail)
      repeat (go_quiet (fail); go_upto_block 0 with (fail))
      go_cut [] (fun wc => ∃ (kq : Nat), Aside0 (digits_TakeNum.j0 kq a0 (wrap64 (bt a0 0)) = some (r1, r2, r3)) ∧ Aside0 (kq ≤ k) ∧ Drawn0 w wc)
      case first =>
        have H := HC5.out
        clear HC5
        by_cases c6 : (wrap64 (bt a0 0)) > 8
        · rw [if_pos c6] at H
          have c6b0 : decide (8 < (wrap64 (bt a0 0))) = true := decide_eq_true c6
          clear c6
          (first | rw [c6b0] | (simp only [i64_w, i32_w]; rw [c6b0]) | skip)
          simp only [Option.some.injEq, Prod.mk.injEq] at H
          obtain ⟨rfl, rfl, rfl⟩ := H
          go_wp2
          repeat (go_quiet (fail); try go_wp2)
          go_ret3
          exact ⟨by first | rfl | (simp; done) | (simp [*]; done), by repeat (first | exact Drawn0.refl _ | apply Drawn0.step)⟩
        · rw [if_neg c6] at H
          have c6b0 : decide (8 < (wrap64 (bt a0 0))) = false := decide_eq_false c6
          clear c6
          (first | rw [c6b0] | (simp only [i64_w, i32_w]; rw [c6b0]) | skip)
          by_cases c7 : (a0.size : Int) ≤ (wrap64 (bt a0 0))
          · rw [if_pos c7] at H
            have c7b0 : decide ((a0.size : Int) ≤ (wrap64 (bt a0 0))) = true := decide_eq_true c7
            clear c7
            simp only [Option.some.injEq, Prod.mk.injEq] at H
            obtain ⟨rfl, rfl, rfl⟩ := H
            go_wp2
            repeat (go_quiet (fail); try go_wp2)
            go_ret3
            exact ⟨by first | rfl | (simp; done) | (simp [*]; done), by repeat (first | exact Drawn0.refl _ | apply Drawn0.step)⟩
          · rw [if_neg c7] at H
            have c7b0 : decide ((a0.size : Int) ≤ (wrap64 (bt a0 0))) = false := decide_eq_false c7
            clear c7
            by_cases c8 : (wrap64 (bt a0 0)) > 0
            · rw [if_pos c8] at H
              have c8b0 : decide (0 < (wrap64 (bt a0 0))) = true := decide_eq_true c8
              clear c8
              by_cases c9 : 1 < (a0.size : Int)
              · rw [if_pos c9] at H
                have c9b0 : decide (1 < (a0.size : Int)) = true := decide_eq_true c9
                have c9b1 : decide (1 < a0.size) = true := decide_eq_true (by omega)
                clear c9
                by_cases c11 : (bt a0 1) = 0
                · rw [if_pos c11] at H
                  have c11b0 : ((bt a0 1) == 0) = true := beq_iff_eq.mpr c11
                  have c11b1 : ((bt a0 1) != 0) = false := bne_eq_false_iff_eq.mpr c11
                  clear c11
                  simp only [Option.some.injEq, Prod.mk.injEq] at H
                  obtain ⟨rfl, rfl, rfl⟩ := H
                  have p10 : 0 ≤ (1 : Int) := (by omega)
                  have q10 : 1 < a0.size := (by have : (1 : Int) < (a0.size : Int) := of_decide_eq_true (by first | (with_reducible assumption) | assumption); omega)
                  have hx10 : ∀ h : 1 < a0.size, ((a0[1]'h).toNat : Int) = bt a0 1 := bt_at a0 1
                  clear p10
                  have qi10 : (1 < (a0.size : Int)) = True := eq_true (of_decide_eq_true (by first | (with_reducible assumption) | assumption))
                  replace q10 := eq_true q10
                  go_wp2
                  repeat (go_quiet (fail); try go_wp2)
                  go_ret3
                  exact ⟨by first | rfl | (simp; done) | (simp [*]; done), by repeat (first | exact Drawn0.refl _ | apply Drawn0.step)⟩
                · rw [if_neg c11] at H
                  have c11b0 : ((bt a0 1) == 0) = false := beq_eq_false_iff_ne.mpr c11
                  have c11b1 : ((bt a0 1) != 0) = true := bne_iff_ne.mpr c11
                  have H' := Aside0.mk H
                  clear H
                  have p10 : 0 ≤ (1 : Int) := (by omega)
                  have q10 : 1 < a0.size := (by have : (1 : Int) < (a0.size : Int) := of_decide_eq_true (by first | (with_reducible assumption) | assumption); omega)
                  have hx10 : ∀ h : 1 < a0.size, ((a0[1]'h).toNat : Int) = bt a0 1 := bt_at a0 1
                  clear p10
                  have qi10 : (1 < (a0.size : Int)) = True := eq_true (of_decide_eq_true (by first | (with_reducible assumption) | assumption))
                  replace q10 := eq_true q10
                  go_wp2
                  repeat (go_quiet (fail); try go_wp2)
                  go_meet
                  case rel => exact ⟨_, H', ⟨by first | omega | exact Nat.le_refl _⟩, by repeat (first | exact Drawn0.refl _ | apply Drawn0.step)⟩
              · rw [if_neg c9] at H
                exact absurd H (by simp)
            · rw [if_neg c8] at H
              have c8b0 : decide (0 < (wrap64 (bt a0 0))) = false := decide_eq_false c8
              clear c8
              have H' := Aside0.mk H
              clear H
              go_wp2
              repeat (go_quiet (fail); try go_wp2)
              go_meet
              case rel => exact ⟨_, H', ⟨by first | omega | exact Nat.le_refl _⟩, by repeat (first | exact Drawn0.refl _ | apply Drawn0.step)⟩
      case rest =>
        clear HC5
        try clear c1
        try clear p1
        try clear q1
        try clear hx1
        try clear qi1
        try clear c2
        try clear c2b0
        try clear c2b1
        try clear p2
        try clear c3
        try clear c3b0
        try clear c3b1
        try clear p4
        try clear q4
        try clear hx4
        try clear qi4
        try clear c6
        try clear c6b0
        try clear p6
        try clear c7
        try clear c7b0
        try clear c8
        try clear c8b0
        try clear c9
        try clear c9b0
        try clear c9b1
        try clear p10
        try clear q10
        try clear hx10
        try clear qi10
        try clear c11
        try clear c11b0
        try clear c11b1
        try clear p10
        try clear p4
        try clear q10
        try clear q4
        obtain ⟨kq, HA, HJ4, ⟨mc4, rfl⟩⟩ := hcut
        cases kq with
        | zero => exact absurd HA.out (by simp [digits_TakeNum.j0])
        | succ kj4 =>
          have H := HA.out
          clear HA
          simp only [digits_TakeNum.j0] at H
          have H' := Aside0.mk H
          clear H
          go_wp2
          repeat (go_quiet (fail); try go_wp2)
          go_loopg [6, 7] kj4 (fun kq v6 v7 w' => ∃ (x6_2 : Int) (x7_2 : Int), v6 = .int .u64 x6_2 ∧ v7 = .int .i64 x7_2 ∧ Aside0 (digits_TakeNum.l0 kq a0 (wrap64 (bt a0 0)) x6_2 x7_2 = some (r1, r2, r3)) ∧ Aside0 (kq ≤ kj4) ∧ Drawn0 w w')
          case atStart => exact ⟨(0), (1), (by first | rfl | (simp; done) | (simp [*]; done)), (by first | rfl | (simp; done) | (simp [*]; done)), H', ⟨Nat.le_refl _⟩, by repeat (first | exact Drawn0.refl _ | apply Drawn0.step)⟩
          case round =>
            clear H'
            try clear c1
            try clear p1
            try clear q1
            try clear hx1
            try clear qi1
            try clear c2
            try clear c2b0
            try clear c2b1
            try clear p2
            try clear c3
            try clear c3b0
            try clear c3b1
            try clear c4
            try clear p4
            try clear q4
            try clear hx4
            try clear qi4
            try clear c6
            try clear c6b0
            try clear p6
            try clear c7
            try clear c7b0
            try clear c8
            try clear c8b0
            try clear c9
            try clear c9b0
            try clear c9b1
            try clear p10
            try clear q10
            try clear hx10
            try clear qi10
            try clear c11
            try clear c11b0
            try clear c11b1
            try clear p1
            try clear p10
            try clear p2
            try clear p4
            try clear p6
            try clear q1
            try clear q10
            try clear q4
            obtain ⟨x6_2, x7_2, rfl, rfl, HA, HK2, ⟨m2, rfl⟩⟩ := hrel
            cases gk with
            | zero => exact absurd HA.out (by simp [digits_TakeNum.l0])
            | succ k2 =>
              have H := HA.out
              clear HA
              simp only [digits_TakeNum.l0] at H
              by_cases c12 : x7_2 ≤ (wrap64 (bt a0 0))
              · rw [if_pos c12] at H
                have c12b0 : decide (x7_2 ≤ (wrap64 (bt a0 0))) = true := decide_eq_true c12
                clear c12
                by_cases c13 : 0 ≤ x7_2
                · rw [if_pos c13] at H
                  have c13b0 : decide (0 ≤ x7_2) = true := decide_eq_true c13
                  clear c13
                  by_cases c14 : x7_2 < (a0.size : Int)
                  · rw [if_pos c14] at H
                    have c14b0 : decide (x7_2 < (a0.size : Int)) = true := decide_eq_true c14
                    clear c14
                    have H' := Aside0.mk H
                    clear H
                    have p15 : 0 ≤ (x7_2 : Int) := of_decide_eq_true (by first | (with_reducible assumption) | assumption)
                    have q15 : x7_2 < (a0.size : Int) := of_decide_eq_true (by first | (with_reducible assumption) | assumption)
                    have hx15 := bt_at a0 x7_2
                    replace p15 := eq_true p15
                    replace q15 := eq_true q15
                    go_wp2
                    repeat (go_quiet (fail); try go_wp2)
                    go_roundg k2
                    case measure => have := HJ4.out; have := HK2.out; omega
                    case rel => exact ⟨(Go.bits .or .u64 (IntKind.u64.wrap (x6_2 * 256)) (IntKind.u64.wrap (bt a0 x7_2))), (wrap64 (x7_2 + 1)), (by first | rfl | (simp; done) | (simp [*]; done)), (by first | rfl | (simp; done) | (simp [*]; done)), H', ⟨by have := HJ4.out; have := HK2.out; omega⟩, by repeat (first | exact Drawn0.refl _ | apply Drawn0.step)⟩
                  · rw [if_neg c14] at H
                    exact absurd H (by simp)
                · rw [if_neg c13] at H
                  exact absurd H (by simp)
              · rw [if_neg c12] at H
                have c12b0 : decide (x7_2 ≤ (wrap64 (bt a0 0))) = false := decide_eq_false c12
                clear c12
                obtain ⟨ji16, hji16⟩ : ∃ j_ : Int, (wrap64 ((wrap64 (bt a0 0)) + 1)) = j_ := ⟨_, rfl⟩
                replace H : (if 0 ≤ (ji16) then (if (ji16) ≤ (a0.size : Int) then (some (x6_2, a0.extract ((ji16) : Int).toNat a0.size, 0)) else (none)) else (none)) = some (r1, r2, r3) := by first | (rw [hji16] at H; exact H) | (simp only [hji16] at H ⊢; exact H)
                have hji16w : (IntKind.i64.wrap ((wrap64 (bt a0 0)) + 1)) = ji16 := (i64_w _).trans hji16
                by_cases c17 : 0 ≤ (ji16)
                · rw [if_pos c17] at H
                  have c17b0 := eq_true c17
                  have c17b1 : decide (0 ≤ (ji16)) = true := decide_eq_true c17
                  clear c17
                  by_cases c18 : (ji16) ≤ (a0.size : Int)
                  · rw [if_pos c18] at H
                    have c18b0 := eq_true c18
                    have c18b1 : decide ((ji16) ≤ (a0.size : Int)) = true := decide_eq_true c18
                    clear c18
                    simp only [Option.some.injEq, Prod.mk.injEq] at H
                    obtain ⟨rfl, rfl, rfl⟩ := H
                    go_wp2
                    repeat (go_quiet (fail); try go_wp2)
                    go_ret3
                    exact ⟨by first | rfl | (simp; done) | (simp only [← hji16] <;> (first | rfl | simp)) | (simp [*]; done), by repeat (first | exact Drawn0.refl _ | apply Drawn0.step)⟩
                  · rw [if_neg c18] at H
                    exact absurd H (by simp)
                · rw [if_neg c17] at H
                  exact absurd H (by simp)
    · rw [if_neg c3] at H
      exact absurd H (by simp)
end Go.Proofs.Ytenbifjbeeobjaa.Px

namespace Go.Proofs.Ytenbifjbeeobjaa.Px
open Go.RowKit Go.Proofs.YtenbifjbeeobjaaW.PrintWords Go.Proofs.YtenbifjbeeobjaaW.PrintLast Go.Proofs.YtenbifjbeeobjaaW.PrintMore
attribute [local go_sem] max2_int min2_int max_two min_two max_three min_three max_four min_four
set_option linter.unusedVariables false
set_option linter.unusedSimpArgs false
theorem ev_pos {α : Type} {c : Prop} [Decidable c] {f g : Nat → Option α} {r : α} (h : c) (e : Ev f r) : Ev (fun k => if c then f k else g k) r := by
  simp only [if_pos h]
  exact e
theorem ev_neg {α : Type} {c : Prop} [Decidable c] {f g : Nat → Option α} {r : α} (h : ¬ c) (e : Ev g r) : Ev (fun k => if c then f k else g k) r := by
  simp only [if_neg h]
  exact e
theorem ev_eq {α : Type} {f : Nat → Option α} {a b : α} (h : Ev f a) (e : a = b) : Ev f b := e ▸ h
theorem ev_bind_const {α β : Type} {o : Option α} {f : Nat → α → Option β} {a : α} {r : β} (h : o = some a) (k : Ev (fun n => f n a) r) : Ev (fun n => o.bind (f n)) r := by
  subst h
  exact k
theorem u64_wrap_of {x : Int} (h0 : 0 ≤ x) (h1 : x < 18446744073709551616) : IntKind.u64.wrap x = x := by
  show x % 18446744073709551616 = x
  omega
theorem wrap64_of {x : Int} (h0 : -9223372036854775808 ≤ x) (h1 : x < 9223372036854775808) : wrap64 x = x := by
  unfold wrap64
  omega
theorem i64_wf {x : Int} (h : (Lit.int .i64 x).wf = true) : -9223372036854775808 ≤ x ∧ x ≤ 9223372036854775807 := by
  simp [Lit.wf, IntKind.min, IntKind.max, IntKind.signed, IntKind.bits] at h
  omega
end Go.Proofs.Ytenbifjbeeobjaa.Px

namespace Go.Proofs.Ytenbifjbeeobjaa.Px
open Go.RowKit Go.Proofs.YtenbifjbeeobjaaW.PrintWords Go.Proofs.YtenbifjbeeobjaaW.PrintLast Go.Proofs.YtenbifjbeeobjaaW.PrintMore
attribute [local go_sem] max2_int min2_int max_two min_two max_three min_three max_four min_four
set_option linter.unusedVariables false
set_option linter.unusedSimpArgs false
def beL (v : Nat) : List Int := if v = 0 then [] else beL (v / 256) ++ [((v % 256 : Nat) : Int)]
termination_by v
decreasing_by omega
theorem beL_zero : beL 0 = [] := by rw [beL]; simp
theorem beL_pos {v : Nat} (h : 0 < v) : beL v = beL (v / 256) ++ [((v % 256 : Nat) : Int)] := by rw [beL, if_neg (by omega)]
theorem beL_be (v : Nat) : (beL v).map (fun n => UInt8.ofNat n.toNat) = be v := by
  induction v using Nat.strongRecOn with
  | _ v ih =>
    rcases Nat.eq_zero_or_pos v with h | h
    · subst h; rw [beL_zero, be_zero]; rfl
    · rw [beL_pos h, be_pos h, List.map_append, ih _ (by omega)]; rfl
theorem numB_beL (v : Nat) : numB v = strOfNums (((beL v).length : Int) :: beL v) := (numB_strOfNums v _ (beL_be v)).symm
def num_intOf : Value → Int | .int _ q => q | _ => 0
def Nine (cs : Array Value) (p : Nat) (L : List Int) : Prop := cs.size = 9 ∧ p + L.length = 9 ∧ ∀ i, i < L.length → cs[p + i]? = some (.int .u8 (L.getD i 0))
theorem Nine.cell {cs : Array Value} {p : Nat} {L : List Int} (h : Nine cs p L) (i : Nat) (hi : i < 9) : ∃ v, cs[i]? = some v :=
  ⟨cs[i]'(by rw [h.1]; exact hi), Array.getElem?_eq_getElem _⟩
theorem Nine.set {cs : Array Value} {q : Nat} {L : List Int} (h : Nine cs (q + 1) L) (x : Int) : Nine (cs.setIfInBounds q (.int .u8 x)) q (x :: L) := by
  refine ⟨by simp [h.1], by have := h.2.1; simp only [List.length_cons]; omega, fun i hi => ?_⟩
  rcases i with _ | i
  · rw [Nat.add_zero, Array.getElem?_setIfInBounds_self_of_lt (by rw [h.1]; have := h.2.1; omega)]; rfl
  · have h2 := h.2.2 i (by simpa using hi)
    rw [Array.getElem?_setIfInBounds_ne (by omega), ← Nat.add_assoc, Nat.add_right_comm, h2]; simp
theorem pow_step {v q : Nat} (h : v < 256 ^ (q + 1)) : v / 256 < 256 ^ q := by
  rw [Nat.pow_succ] at h
  exact Nat.div_lt_of_lt_mul (by rw [Nat.mul_comm]; exact h)
set_option maxHeartbeats 1000000 in
set_option maxRecDepth 100000 in
theorem digits_Num.walk (a0 : Nat) (w : World) (h1 : a0 < 18446744073709551616) :
    Calls Try.prog 50 #[.int .u64 a0] w fun e w' => e = .returned (.string (numB a0)) ∧ Below w.heap.size w w' := by
  go_enter Try.func50, Try.ntmps50
  go_wp2
  refine wp_scope_jumps 0 (fun a' w' => ∃ (v p n : Nat) (L : List Int) (cs : Array Value) (u6 u7 u8 u9 u10 u11 u12 u13 u14 u15 u16 u17 : Value),
      Nine cs p L ∧ v < 256 ^ (p - 1) ∧ 1 ≤ p ∧ L.length = n ∧ beL a0 = beL v ++ L ∧
      w' = w.alloc (.cells cs 127) ∧
      a' = { tmps := #[.int .u64 v, undef, .string ⟨#[]⟩, .pointer (some ⟨w.heap.size, 0, none⟩), .int .i64 p, .int .u8 n, u6, u7, u8, u9, u10, u11, u12, u13, u14, u15, u16, u17, undef, undef, undef, undef, undef, undef, undef, undef], defers := [] })
      (fun a' _ => (num_intOf (a'.tmps.getD 4 undef)).toNat) rfl ?_ ?_
  · rcases Nat.eq_zero_or_pos a0 with h0 | h0
    · subst h0
      have hcv := fun W => run_convert_bytes_arg (P := Try.prog) (w.alloc W) 69 5 Try.underlying69 Try.underlying5 w.heap.size 8 1 1 [0] rfl
      go_wp2
      go_step3
      go_wp2
      simp only [Exit.jump]
      go_ret
      exact ⟨by rw [numB_beL, beL_zero]; rfl, (Below.refl _ _).alloc (Nat.le_refl _) _⟩
    · go_wp2
      go_step3
      go_wp2
      go_step3
      refine ⟨rfl, a0 / 256, 8, 1, [(a0 % 256 : Nat)], _, _, _, _, _, _, _, _, _, _, _, _, _, ?_, ?_, ?_, rfl, beL_pos h0, rfl, rfl⟩
      · refine ⟨rfl, rfl, fun i hi => ?_⟩
        obtain rfl : i = 0 := by simpa using hi
        rfl
      · have : (256:Nat) ^ (8 - 1) = 72057594037927936 := by decide
        omega
      · omega
  · rintro a' w' ⟨v, p, n, L, cs, u6, u7, u8, u9, u10, u11, u12, u13, u14, u15, u16, u17, hN, hv, hp, hn, hb, rfl, rfl⟩
    obtain ⟨q, rfl⟩ : ∃ q, p = q + 1 := ⟨p - 1, by omega⟩
    have hq : q < 9 := by have := hN.2.1; omega
    have hnq : n + q = 8 := by have := hN.2.1; omega
    have hnn : n ≤ 8 := by omega
    have hvb : v < 18446744073709551616 := by
      have : 256 ^ (q + 1 - 1) ≤ 256 ^ 8 := Nat.pow_le_pow_right (by omega) (by omega)
      have : (256:Nat) ^ 8 = 18446744073709551616 := by decide
      omega
    obtain ⟨v0, hc⟩ := hN.cell q hq
    have HN := Aside0.mk hN
    have HB := Aside0.mk hb
    have HV := Aside0.mk hv
    have HL := Aside0.mk hn
    have HQ := Aside0.mk hnq
    clear hN hb hv hn hnq h1
    rcases Nat.eq_zero_or_pos v with h0 | h0
    · subst h0
      have hq9 : q ≤ 9 := by omega
      have hsl : ∀ W : World, (Instr.sliceAt 127 (.pointer (some ⟨w.heap.size, 0, none⟩)) (some (.int .i64 (q : Int))) none none).run Try.prog W = .ok (.slice (some ⟨w.heap.size, q, none⟩) (9 - q) (9 - q)) W := by
        intro W
        rw [run_sliceAt_array_l W 127 _ (by kernel_rfl) .i64 q (by omega) (by show (q : Int) ≤ 9; omega)]
        have e1 : (sizeOf (Try.prog.elem 127)).run Try.prog W = .ok 1 W := by kernel_rfl
        have e2 : Try.prog.arrayLen 127 = 9 := by kernel_rfl
        rw [e1, e2]
        simp only [Result.andThen, slicedAt, Int.toNat_natCast, Nat.mul_one]
        rw [if_neg (by omega), add_plain]
      have hS := HN.out.set n
      have hcv := run_convert_bytes_arg (P := Try.prog) (w.alloc (.cells (cs.setIfInBounds q (.int .u8 (n : Int))) 127)) 69 5 Try.underlying69 Try.underlying5 w.heap.size q (9 - q) (9 - q) ((n : Int) :: L) (by rw [List.length_cons, HL.out]; have := HQ.out; omega)
        (fun i hi => by
          have h2 := hS.2.2 i (by have := hS.2.1; omega)
          rw [World.cell?_alloc_new]; exact h2) 9 Try.underlying9
      clear hS
      go_wp2
      simp only [Exit.jump]
      go_ret
      exact ⟨by rw [numB_beL, HB.out, beL_zero, List.nil_append, HL.out]; rfl, (Below.refl _ _).alloc (Nat.le_refl _) _⟩
    · obtain ⟨q', rfl⟩ : ∃ q', q = q' + 1 := ⟨q - 1, by
        rcases Nat.eq_zero_or_pos q with hz | hz
        · have := HV.out; subst hz; simp at this; omega
        · omega⟩
      go_wp2
      go_step3
      refine ⟨rfl, ⟨v / 256, q' + 1, n + 1, ((v % 256 : Nat) : Int) :: L, _, _, _, _, _, _, _, _, _, _, _, _, _, HN.out.set _, pow_step HV.out, by omega, by rw [List.length_cons, HL.out], ?_, rfl, rfl⟩, ?_⟩
      · rw [HB.out, beL_pos h0]; simp
      · simp [num_intOf]; omega
def digits_Num.f (a0 : Int) : Option (ByteArray) := if 0 ≤ a0 then (if a0 < 18446744073709551616 then (some (numB a0.toNat)) else (none)) else (none)
theorem digits_Num.calls (a0 : Int) (r : ByteArray) (w : World) (h : digits_Num.f a0 = some r) :
    Calls Try.prog 50 #[.int .u64 a0] w fun e w' => e = .returned (.string r) ∧ Below w.heap.size w w' := by
  unfold digits_Num.f at h
  split at h
  · rename_i h0
    split at h
    · rename_i h1
      obtain ⟨n, rfl⟩ := Int.eq_ofNat_of_zero_le h0
      obtain rfl := Option.some.inj h
      rw [Int.toNat_natCast]
      exact digits_Num.walk n w (by omega)
    · cases h
  · cases h
end Go.Proofs.Ytenbifjbeeobjaa.Px

namespace Go.Proofs.Ytenbifjbeeobjaa.Px
open Go.RowKit Go.Proofs.YtenbifjbeeobjaaW.PrintWords Go.Proofs.YtenbifjbeeobjaaW.PrintLast Go.Proofs.YtenbifjbeeobjaaW.PrintMore
attribute [local go_sem] max2_int min2_int max_two min_two max_three min_three max_four min_four
set_option linter.unusedVariables false
set_option linter.unusedSimpArgs false
def digits_Text.f (a0 : ByteArray) : Option (ByteArray) := if a0.size ≤ 1152921504606846976 then (some (textB a0)) else (none)
theorem digits_Text.calls (a0 : ByteArray) (r : ByteArray) (w : World) (h : digits_Text.f a0 = some r) :
    Calls Try.prog 77 #[.string a0] w fun e w' => e = .returned (.string r) ∧ Below w.heap.size w w' := by
  unfold digits_Text.f at h
  split at h
  · rename_i h0
    obtain rfl := Option.some.inj h
    clear h
    have hn : (numB a0.size).size ≤ 9 := numB_size (by omega)
    have hn2 : (numB a0.size).size + a0.size ≤ 9223372036854775807 := by omega
    have HN := Aside0.mk (show digits_Num.f (a0.size : Int) = some (numB a0.size) by unfold digits_Num.f; rw [if_pos (by omega), if_pos (by omega), Int.toNat_natCast])
    go_enter Try.func77, Try.ntmps77
    go_wp2_with (go_at_call 50; (with_reducible refine (digits_Num.calls _ _ _ HN.out).mono ?_); rintro e w1 ⟨rfl, hb⟩)
    go_ret
    exact ⟨rfl, by assumption⟩
  · cases h
end Go.Proofs.Ytenbifjbeeobjaa.Px

namespace Go.Proofs.Ytenbifjbeeobjaa.Px
open Go.RowKit Go.Proofs.YtenbifjbeeobjaaW.PrintWords Go.Proofs.YtenbifjbeeobjaaW.PrintLast Go.Proofs.YtenbifjbeeobjaaW.PrintMore
attribute [local go_sem] max2_int min2_int max_two min_two max_three min_three max_four min_four
set_option linter.unusedVariables false
set_option linter.unusedSimpArgs false
end Go.Proofs.Ytenbifjbeeobjaa.Px

namespace Go.Proofs.Ytenbifjbeeobjaa.Px
open Go.RowKit Go.Proofs.YtenbifjbeeobjaaW.PrintWords Go.Proofs.YtenbifjbeeobjaaW.PrintLast Go.Proofs.YtenbifjbeeobjaaW.PrintMore
attribute [local go_sem] max2_int min2_int max_two min_two max_three min_three max_four min_four
set_option linter.unusedVariables false
set_option linter.unusedSimpArgs false
theorem or_byte (v : Nat) (c : UInt8) (hv : v < 72057594037927936) : Go.bits .or .u64 (IntKind.u64.wrap ((v : Int) * 256)) (IntKind.u64.wrap (c.toNat : Int)) = ((v * 256 + c.toNat : Nat) : Int) := by
  have hc := c.toNat_lt
  rw [u64_wrap_of (by omega) (by omega), u64_wrap_of (by omega) (by omega), show (v : Int) * 256 = ((v * 256 : Nat) : Int) by omega, u64_or_nat _ _ (by omega) (by omega)]
  have := Nat.two_pow_add_eq_or_of_lt (i := 8) (b := c.toNat) (by omega) v
  rw [Nat.mul_comm v 256, show (256 : Nat) = 2 ^ 8 from rfl, this]
theorem val_take_succ (t : Bs) (j : Nat) (h : j < t.length) : val (t.take (j + 1)) = val (t.take j) * 256 + (t.getD j 0).toNat := by
  rw [List.take_succ_eq_append_getElem h, val_snoc, List.getD_eq_getElem?_getD, List.getElem?_eq_getElem h]; rfl
theorem val_take_lt (t : Bs) (j : Nat) (h : j < 8) : val (t.take j) < 72057594037927936 := by
  have h1 := val_lt (t.take j)
  have h2 : 256 ^ (t.take j).length ≤ 256 ^ 7 := Nat.pow_le_pow_right (by omega) (by rw [List.length_take]; omega)
  have : (256 : Nat) ^ 7 = 72057594037927936 := by decide
  omega
def takeNumB (s : ByteArray) : Int × ByteArray × Int := (((takeNumL (ofB s)).1 : Int), toB (takeNumL (ofB s)).2.1, (takeNumL (ofB s)).2.2)
theorem takeNumB_toB (l : Bs) : takeNumB (toB l) = (((takeNumL l).1 : Int), toB (takeNumL l).2.1, (takeNumL l).2.2) := by rw [takeNumB, ofB_toB]
theorem bt_toB_succ (c : UInt8) (t : Bs) (j : Nat) : bt (toB (c :: t)) ((j + 1 : Nat) : Int) = ((t.getD j 0).toNat : Int) := by
  rw [bt_ofB, ofB_toB]; rfl
theorem drop_toB (c : UInt8) (t : Bs) (n : Nat) : (toB (c :: t)).extract (n + 1) (toB (c :: t)).size = toB (t.drop n) := by
  apply ofB_inj
  rw [ofB_extract, ofB_toB, ofB_toB, toB_size, List.drop_succ_cons, List.take_of_length_le (by simp)]
theorem takeNum_loop (c : UInt8) (t : Bs) (hc : c.toNat ≤ 8) (hl : c.toNat ≤ t.length) (hs : t.length < 4611686018427387904) (d : Nat) : ∀ j, j + d = c.toNat →
    Ev (fun k => digits_TakeNum.l0 k (toB (c :: t)) (c.toNat : Int) (val (t.take j) : Int) ((j + 1 : Nat) : Int)) ((val (t.take c.toNat) : Int), toB (t.drop c.toNat), 0) := by
  induction d with
  | zero =>
    intro j hj
    refine Ev.step (fun k => by rw [digits_TakeNum.l0]) ?_
    rw [wrap64_of (x := (c.toNat : Int) + 1) (by omega) (by omega)]
    refine ev_neg (by omega) (ev_pos (by omega) (ev_pos (by rw [toB_size, List.length_cons]; omega) ?_))
    rw [show ((c.toNat : Int) + 1).toNat = c.toNat + 1 by omega, drop_toB]
    obtain rfl : j = c.toNat := by omega
    exact Ev.now _
  | succ d ih =>
    intro j hj
    refine Ev.step (fun k => by rw [digits_TakeNum.l0]) ?_
    refine ev_pos (by omega) (ev_pos (by omega) (ev_pos (by rw [toB_size, List.length_cons]; omega) ?_))
    rw [bt_toB_succ, or_byte _ _ (val_take_lt t j (by omega)), ← val_take_succ t j (by omega), wrap64_of (by omega) (by omega)]
    exact ih (j + 1) (by omega)
theorem takeNum_ev (s : ByteArray) (hs : s.size < 4611686018427387904) : Ev (fun k => digits_TakeNum.f k s) (takeNumB s) := by
  obtain ⟨l, rfl⟩ : ∃ l, s = toB l := ⟨_, (toB_ofB s).symm⟩
  rw [toB_size] at hs
  rw [takeNumB_toB]
  rcases l with _ | ⟨c, t⟩
  · exact ev_pos (by rw [toList_ofB, ofB_toB]) (Ev.now _)
  · have hc := c.toNat_lt
    rw [List.length_cons] at hs
    have e0 : bt (toB (c :: t)) 0 = (c.toNat : Int) := by rw [show (0 : Int) = ((0 : Nat) : Int) from rfl, bt_ofB, ofB_toB]; rfl
    have e1 : bt (toB (c :: t)) 1 = ((t.getD 0 0).toNat : Int) := bt_toB_succ c t 0
    refine ev_neg (by rw [toList_ofB, ofB_toB]; simp) (ev_pos (by rw [toB_size, List.length_cons]; omega) ?_)
    rw [e0, e1, wrap64_of (by omega) (by omega), toB_size, List.length_cons]
    have hj : c.toNat ≤ 8 → c.toNat ≤ t.length → Ev (fun k => digits_TakeNum.j0 k (toB (c :: t)) (c.toNat : Int)) ((val (t.take c.toNat) : Int), toB (t.drop c.toNat), 0) := fun h8 hl => by
      refine Ev.step (fun k => by rw [digits_TakeNum.j0]) ?_
      exact takeNum_loop c t h8 hl (by omega) c.toNat 0 (by omega)
    by_cases h8 : 8 < c.toNat
    · refine ev_pos (by omega) ?_
      simp only [takeNumL, if_pos h8]
      exact Ev.now _
    refine ev_neg (by omega) ?_
    by_cases hl : t.length < c.toNat
    · refine ev_pos (by omega) ?_
      simp only [takeNumL, if_neg h8, if_pos hl]
      exact Ev.now _
    refine ev_neg (by omega) ?_
    by_cases h0 : 0 < c.toNat
    · refine ev_pos (by omega) (ev_pos (by omega) ?_)
      by_cases hz : t.getD 0 0 = 0
      · refine ev_pos (by rw [hz]; rfl) ?_
        simp only [takeNumL, if_neg h8, if_neg hl, if_pos (And.intro h0 hz)]
        exact Ev.now _
      · refine ev_neg (fun h => hz (UInt8.toNat_inj.1 (by show _ = 0; omega))) ?_
        simp only [takeNumL, if_neg h8, if_neg hl, if_neg (fun h : _ ∧ _ => hz h.2)]
        exact hj (by omega) (by omega)
    · refine ev_neg (by omega) ?_
      simp only [takeNumL, if_neg h8, if_neg hl, if_neg (fun h : _ ∧ _ => h0 h.1)]
      exact hj (by omega) (by omega)
theorem digits_Num_of (v : Nat) (hv : v < 18446744073709551616) : digits_Num.f (v : Int) = some (numB v) := by
  unfold digits_Num.f
  rw [if_pos (by omega), if_pos (by omega), Int.toNat_natCast]
theorem digits_Text_of (t : ByteArray) (h : t.size ≤ 1152921504606846976) : digits_Text.f t = some (textB t) := by unfold digits_Text.f; rw [if_pos h]
theorem be_2 : be 2 = [2] := by
  rw [be_pos (by omega)]
  simp [be_zero]
end Go.Proofs.Ytenbifjbeeobjaa.Px

namespace Go.Proofs.Ytenbifjbeeobjaa.Px
open Go.RowKit Go.Proofs.YtenbifjbeeobjaaW.PrintWords Go.Proofs.YtenbifjbeeobjaaW.PrintLast Go.Proofs.YtenbifjbeeobjaaW.PrintMore
attribute [local go_sem] max2_int min2_int max_two min_two max_three min_three max_four min_four
set_option linter.unusedVariables false
set_option linter.unusedSimpArgs false
def oddV : Value := .iface 91 (.agg #[])
def oddChain : List PanicEntry := [{ v := .iface 91 (.agg #[]), recovered := false }]
theorem post_ask.yes (w : World) : Calls Try.prog 28 #[.bool true] w fun e w' => e = .returned (.tuple #[]) ∧ w' = w := by
  go_enter Try.func28, Try.ntmps28
  go_wp2
  exact ⟨rfl, .tuple #[], by simp [results, Try.results28], rfl, rfl⟩
theorem post_ask.no (w : World) : Calls Try.prog 28 #[.bool false] w fun e w' => e = .panicked oddChain ∧ w' = w := by
  go_enter Try.func28, Try.ntmps28
  go_wp2
  exact ⟨rfl, rfl, rfl⟩
set_option maxHeartbeats 2000000 in
set_option maxRecDepth 100000 in
theorem post_num.good (s : ByteArray) (b v : Nat) (r : Bs) (w : World) (hs : s.size < 4611686018427387904) (h : smallL (ofB s) = some (v, r)) (hc : w.cell? ⟨b, 0, none⟩ = some (.string s)) (hf : w.frozen? ⟨b, 0, none⟩ = false) :
    Calls Try.prog 37 #[.pointer (some ⟨b, 0, none⟩)] w fun e w' => e = .returned (.int .i64 v) ∧ ∃ m, w' = (w.drewN m).setCell ⟨b, 0, none⟩ (.string (toB r)) := by
  obtain ⟨k, hk⟩ := (takeNum_ev s hs).rounds
  unfold smallL at h
  split at h
  · rename_i h0
    have hi := Option.some.inj h
    simp only [takeNumB] at hk
    rw [h0.1, show (takeNumL (ofB s)).1 = v from congrArg Prod.fst hi, show (takeNumL (ofB s)).2.1 = r from congrArg Prod.snd hi] at hk
    have hv : v ≤ 1048576 := by have := h0.2; rwa [show (takeNumL (ofB s)).1 = v from congrArg Prod.fst hi] at this
    have hb : decide (v ≤ 1048576) = true := decide_eq_true hv
    have hb2 : decide ((v : Int) ≤ 1048576) = true := decide_eq_true (by omega)
    have hw : wrap64 (v : Int) = v := wrap64_of (by omega) (by omega)
    have HK := Aside0.mk hk
    clear hk h h0 hi hs hv
    go_enter Try.func37, Try.ntmps37
    go_wp2_with (first
      | (go_at_call 63; (with_reducible refine (digits_TakeNum.calls _ _ _ _ _ _ HK.out).mono ?_); rintro e w1 ⟨rfl, ⟨nd, rfl⟩⟩)
      | (go_at_call 28; (with_reducible refine (post_ask.yes _).mono ?_); rintro e w1 ⟨rfl, rfl⟩))
    go_ret
    rw [hw]
    exact ⟨rfl, _, rfl⟩
  · cases h
set_option maxHeartbeats 2000000 in
set_option maxRecDepth 100000 in
theorem post_num.bad (s : ByteArray) (b : Nat) (w : World) (hs : s.size < 4611686018427387904) (h : smallL (ofB s) = none) (hc : w.cell? ⟨b, 0, none⟩ = some (.string s)) (hf : w.frozen? ⟨b, 0, none⟩ = false) :
    Calls Try.prog 37 #[.pointer (some ⟨b, 0, none⟩)] w fun e w' => e = .panicked oddChain ∧ ∃ m, w' = w.drewN m := by
  obtain ⟨k, hk⟩ := (takeNum_ev s hs).rounds
  unfold smallL at h
  split at h
  · cases h
  · rename_i h0
    simp only [takeNumB] at hk
    generalize takeNumL (ofB s) = q at *
    obtain ⟨v, r, e⟩ := q
    simp only at hk h0
    have HK := Aside0.mk hk
    clear hk h hs
    by_cases he : e = 0
    · subst he
      have hv : ¬ v ≤ 1048576 := fun hh => h0 ⟨rfl, hh⟩
      have hb : decide (v ≤ 1048576) = false := decide_eq_false hv
      have hb2 : decide ((v : Int) ≤ 1048576) = false := decide_eq_false (by omega)
      clear h0 hv
      go_enter Try.func37, Try.ntmps37
      go_wp2_with (first
        | (go_at_call 63; (with_reducible refine (digits_TakeNum.calls _ _ _ _ _ _ HK.out).mono ?_); rintro e w1 ⟨rfl, ⟨nd, rfl⟩⟩)
        | (go_at_call 28; (with_reducible refine (post_ask.no _).mono ?_); rintro e w1 ⟨rfl, rfl⟩))
      exact ⟨rfl, rfl, _, rfl⟩
    · have hb : (e == 0) = false := beq_eq_false_iff_ne.2 he
      clear h0 he
      go_enter Try.func37, Try.ntmps37
      go_wp2_with (first
        | (go_at_call 63; (with_reducible refine (digits_TakeNum.calls _ _ _ _ _ _ HK.out).mono ?_); rintro e w1 ⟨rfl, ⟨nd, rfl⟩⟩)
        | (go_at_call 28; (with_reducible refine (post_ask.no _).mono ?_); rintro e w1 ⟨rfl, rfl⟩))
      exact ⟨rfl, rfl, _, rfl⟩
theorem post_num.upd {w w' : World} {b m : Nat} {t : TypeId} {s u : Value} (hb : w.heap[b]? = some (.cells #[s] t (0, 0))) (he : w' = (w.drewN m).setCell ⟨b, 0, none⟩ u) :
    w'.heap[b]? = some (.cells #[u] t (0, 0)) ∧ (∀ (i : Nat) (t' : TypeId) (cs : Array Value), i ≠ b → w.heap[i]? = some (.cells cs t' (0, 0)) → w'.heap[i]? = some (.cells cs t' (0, 0))) ∧ ∀ W0 : World, Below W0.heap.size W0 w → W0.heap.size ≤ b → Below W0.heap.size W0 w' := by
  subst he
  refine ⟨blk_put (blk_drewN hb m) 0 u rfl, fun i t' cs hi h => blk_far (blk_drewN h m) hi u, fun W0 h hg => below_set (pw_below_drewN h m) hg⟩
theorem post_num.goodU (s : ByteArray) (b v : Nat) (r : Bs) (w : World) (t : TypeId) (hs : s.size < 4611686018427387904) (h : smallL (ofB s) = some (v, r)) (hb : w.heap[b]? = some (.cells #[.string s] t (0, 0))) :
    Calls Try.prog 37 #[.pointer (some ⟨b, 0, none⟩)] w fun e w' => e = .returned (.int .i64 v) ∧ w'.heap[b]? = some (.cells #[.string (toB r)] t (0, 0)) ∧ (∀ (i : Nat) (t' : TypeId) (cs : Array Value), i ≠ b → w.heap[i]? = some (.cells cs t' (0, 0)) → w'.heap[i]? = some (.cells cs t' (0, 0))) ∧ ∀ W0 : World, Below W0.heap.size W0 w → W0.heap.size ≤ b → Below W0.heap.size W0 w' := by
  refine (post_num.good s b v r w hs h ((blk_cell hb 0).trans rfl) (blk_frozen hb 0)).mono ?_
  rintro e w' ⟨rfl, m, he⟩
  exact ⟨rfl, post_num.upd hb he⟩
theorem post_num.badU (s : ByteArray) (b : Nat) (w : World) (t : TypeId) (hs : s.size < 4611686018427387904) (h : smallL (ofB s) = none) (hb : w.heap[b]? = some (.cells #[.string s] t (0, 0))) :
    Calls Try.prog 37 #[.pointer (some ⟨b, 0, none⟩)] w fun e w' => e = .panicked oddChain ∧ ∀ W0 : World, Below W0.heap.size W0 w → Below W0.heap.size W0 w' := by
  refine (post_num.bad s b w hs h ((blk_cell hb 0).trans rfl) (blk_frozen hb 0)).mono ?_
  rintro e w' ⟨rfl, m, rfl⟩
  exact ⟨rfl, fun W0 hb => pw_below_drewN hb m⟩
theorem hasPrefix_of (s : ByteArray) (c : UInt8) : stringslite_HasPrefix.f s (toB [c]) = some (decide ((ofB s).head? = some c)) := by
  unfold stringslite_HasPrefix.f
  rw [toB_size]
  rcases hq : ofB s with _ | ⟨x, t⟩
  · have hz : s.size = 0 := by rw [← ofB_length, hq]; rfl
    rw [hz, if_neg (by simp)]; simp
  · have hz : s.size = t.length + 1 := by rw [← ofB_length, hq]; rfl
    rw [hz, if_pos (by simp; omega), if_pos (by simp), if_pos (by simp; omega)]
    have e1 : (s.extract 0 ((([c] : Bs).length : Int) : Int).toNat).toList = [x] := by
      rw [toList_ofB, ofB_extract, hq]; rfl
    rw [e1, toList_ofB, ofB_toB]
    by_cases h : x = c
    · subst h; simp
    · simp [h]
theorem cutPrefix_yes (s : ByteArray) (c : UInt8) (t : Bs) (h : ofB s = c :: t) : strings_CutPrefix.f s (toB [c]) = some (toB t, true) := by
  unfold strings_CutPrefix.f stringslite_CutPrefix.f
  rw [hasPrefix_of, h]
  have hz : s.size = t.length + 1 := by rw [← ofB_length, h]; rfl
  simp only [List.head?_cons, decide_true, Option.bind_some, if_true]
  rw [toB_size, hz, if_pos (by simp), if_pos (by simp; omega)]
  simp only [Option.bind_some]
  have e : s.extract ((([c] : Bs).length : Int) : Int).toNat (t.length + 1) = toB t := by
    apply ofB_inj
    rw [ofB_extract, h, ofB_toB]
    show List.take (t.length + 1 - 1) t = t
    rw [Nat.add_sub_cancel, List.take_length]
  rw [e]
theorem cutPrefix_no (s : ByteArray) (c : UInt8) (h : (ofB s).head? ≠ some c) : strings_CutPrefix.f s (toB [c]) = some (s, false) := by
  unfold strings_CutPrefix.f stringslite_CutPrefix.f
  rw [hasPrefix_of, decide_eq_false h]
  simp only [Option.bind_some]
  rw [if_neg (by simp)]
  rfl
end Go.Proofs.Ytenbifjbeeobjaa.Px
