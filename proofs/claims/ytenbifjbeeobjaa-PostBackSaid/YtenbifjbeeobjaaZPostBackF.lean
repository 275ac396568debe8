/- Part 6 of 33 of the proof of the law PostBack: what is proved is the statement at the end of the last part; its conditions are those of the given row. -/
import Derived.Tactics2
import Derived.Defers
import Derived.Recover
import Derived.Laws.Pointers
import Derived.Test.YtenbifjbeeobjaaZPostBackE
namespace Go.Proofs.Ytenbifjbeeobjaa.Px
open Go.RowKit Go.Proofs.YtenbifjbeeobjaaW.PrintWords Go.Proofs.YtenbifjbeeobjaaW.PrintLast Go.Proofs.YtenbifjbeeobjaaW.PrintMore
attribute [local go_sem] zC zE zJ zK zv zw zB zD
set_option linter.unusedVariables false
set_option linter.unusedSimpArgs false
mutual
def zx.j0 : Nat → ByteArray → Int → Option (Int × ByteArray × Int)
  | 0, _, _ => none
  | k + 1, x0, x5 => zx.l0 k x0 x5 0 1
def zx.l0 : Nat → ByteArray → Int → Int → Int → Option (Int × ByteArray × Int)
  | 0, _, _, _, _ => none
  | k + 1, x0, x5, x6, x7 => if x7 ≤ x5 then (if 0 ≤ x7 then (if x7 < (x0.size : Int) then (zx.l0 k x0 x5 (Go.bits .or .u64 (IntKind.u64.wrap (x6 * 256)) (IntKind.u64.wrap (bt x0 x7))) (wrap64 (x7 + 1))) else (none)) else (none)) else (if 0 ≤ (wrap64 (x5 + 1)) then (if (wrap64 (x5 + 1)) ≤ (x0.size : Int) then (some (x6, x0.extract ((wrap64 (x5 + 1)) : Int).toNat x0.size, 0)) else (none)) else (none))
end
def zx.f (k : Nat) (a0 : ByteArray) : Option (Int × ByteArray × Int) := if a0.toList = ([] : List UInt8) then (some (0, (⟨#[]⟩ : ByteArray), 2)) else (if 0 < (a0.size : Int) then (if (wrap64 (bt a0 0)) > 8 then (some (0, (⟨#[]⟩ : ByteArray), 3)) else (if (a0.size : Int) ≤ (wrap64 (bt a0 0)) then (some (0, (⟨#[]⟩ : ByteArray), 2)) else (if (wrap64 (bt a0 0)) > 0 then (if 1 < (a0.size : Int) then (if (bt a0 1) = 0 then (some (0, (⟨#[]⟩ : ByteArray), 3)) else (zx.j0 k a0 (wrap64 (bt a0 0)))) else (none)) else (zx.j0 k a0 (wrap64 (bt a0 0)))))) else (none))
set_option maxHeartbeats 8000000 in
set_option maxRecDepth 100000 in
theorem zx.calls (k : Nat) (a0 : ByteArray) (r1 : Int) (r2 : ByteArray) (r3 : Int) (w : World) (h : zx.f k a0 = some (r1, r2, r3)) :
    Calls Try.prog 63 #[.string a0] w fun e w' => e = .returned (.tuple #[.int .u64 r1, .string r2, .int .i64 r3]) ∧ zI w w' := by
  have H : (if a0.toList = ([] : List UInt8) then (some (0, (⟨#[]⟩ : ByteArray), 2)) else (if 0 < (a0.size : Int) then (if (wrap64 (bt a0 0)) > 8 then (some (0, (⟨#[]⟩ : ByteArray), 3)) else (if (a0.size : Int) ≤ (wrap64 (bt a0 0)) then (some (0, (⟨#[]⟩ : ByteArray), 2)) else (if (wrap64 (bt a0 0)) > 0 then (if 1 < (a0.size : Int) then (if (bt a0 1) = 0 then (some (0, (⟨#[]⟩ : ByteArray), 3)) else (zx.j0 k a0 (wrap64 (bt a0 0)))) else (none)) else (zx.j0 k a0 (wrap64 (bt a0 0)))))) else (none))) = some (r1, r2, r3) := h
  clear h
  by_cases c2 : a0.toList = ([] : List UInt8)
  · rw [if_pos c2] at H
    have c2b0 : (a0.toList == ([] : List UInt8)) = true := beq_iff_eq.mpr c2
    have c2b1 : (a0.toList != ([] : List UInt8)) = false := bne_eq_false_iff_eq.mpr c2
    clear c2
    simp only [Option.some.injEq, Prod.mk.injEq] at H
    obtain ⟨rfl, rfl, rfl⟩ := H
    go_enter Try.func63, Try.ntmps63
    go_wp2
    repeat (go_quiet (fail); try go_wp2)
    go_ret3
    exact ⟨by first | rfl | (simp; done) | (simp [*]; done), by repeat (first | exact zI.refl _ | apply zI.step)⟩
  · rw [if_neg c2] at H
    have c2b0 : (a0.toList == ([] : List UInt8)) = false := beq_eq_false_iff_ne.mpr c2
    have c2b1 : (a0.toList != ([] : List UInt8)) = true := bne_iff_ne.mpr c2
    by_cases c3 : 0 < (a0.size : Int)
    · rw [if_pos c3] at H
      have c3b0 : decide (0 < (a0.size : Int)) = true := decide_eq_true c3
      have c3b1 : decide (0 < a0.size) = true := decide_eq_true (by omega)
      clear c3
      have HC5 := zb.mk H
      clear H
      have p4 : 0 ≤ (0 : Int) := (by omega)
      have q4 : 0 < a0.size := (by have : (0 : Int) < (a0.size : Int) := of_decide_eq_true (by first | (with_reducible assumption) | assumption); omega)
      have hx4 : ∀ h : 0 < a0.size, ((a0[0]'h).toNat : Int) = bt a0 0 := zfY a0 0
      clear p4
      have qi4 : (0 < (a0.size : Int)) = True := eq_true (of_decide_eq_true (by first | (with_reducible assumption) | assumption))
      replace q4 := eq_true q4
      go_enter Try.func63, Try.ntmps63
      go_upto_block 0 with (fail)
      repeat (go_quiet (fail); go_upto_block 0 with (fail))
      go_cut [] (fun wc => ∃ (kq : Nat), zb (zx.j0 kq a0 (wrap64 (bt a0 0)) = some (r1, r2, r3)) ∧ zb (kq ≤ k) ∧ zI w wc)
      case first =>
        have H := HC5.out
        clear HC5
        by_cases c6 : (wrap64 (bt a0 0)) > 8
        · rw [if_pos c6] at H
          have c6b0 : decide (8 < (wrap64 (bt a0 0))) = true := decide_eq_true c6
          clear c6
          (first | rw [c6b0] | (simp only [zU, zW]; rw [c6b0]) | skip)
          simp only [Option.some.injEq, Prod.mk.injEq] at H
          obtain ⟨rfl, rfl, rfl⟩ := H
          go_wp2
          repeat (go_quiet (fail); try go_wp2)
          go_ret3
          exact ⟨by first | rfl | (simp; done) | (simp [*]; done), by repeat (first | exact zI.refl _ | apply zI.step)⟩
        · rw [if_neg c6] at H
          have c6b0 : decide (8 < (wrap64 (bt a0 0))) = false := decide_eq_false c6
          clear c6
          (first | rw [c6b0] | (simp only [zU, zW]; rw [c6b0]) | skip)
          by_cases c7 : (a0.size : Int) ≤ (wrap64 (bt a0 0))
          · rw [if_pos c7] at H
            have c7b0 : decide ((a0.size : Int) ≤ (wrap64 (bt a0 0))) = true := decide_eq_true c7
            clear c7
            simp only [Option.some.injEq, Prod.mk.injEq] at H
            obtain ⟨rfl, rfl, rfl⟩ := H
            go_wp2
            repeat (go_quiet (fail); try go_wp2)
            go_ret3
            exact ⟨by first | rfl | (simp; done) | (simp [*]; done), by repeat (first | exact zI.refl _ | apply zI.step)⟩
          · rw [if_neg c7] at H
            have c7b0 : decide ((a0.size : Int) ≤ (wrap64 (bt a0 0))) = false := decide_eq_false c7
            clear c7
            by_cases c8 : (wrap64 (bt a0 0)) > 0
            · rw [if_pos c8] at H
              have c8b0 : decide (0 < (wrap64 (bt a0 0))) = true := decide_eq_true c8
              clear c8
              by_cases c9 : 1 < (a0.size : Int)
              · rw [if_pos c9] at H
                have c9b0 : decide (1 < (a0.size : Int)) = true := decide_eq_true c9
                have c9b1 : decide (1 < a0.size) = true := decide_eq_true (by omega)
                clear c9
                by_cases c11 : (bt a0 1) = 0
                · rw [if_pos c11] at H
                  have c11b0 : ((bt a0 1) == 0) = true := beq_iff_eq.mpr c11
                  have c11b1 : ((bt a0 1) != 0) = false := bne_eq_false_iff_eq.mpr c11
                  clear c11
                  simp only [Option.some.injEq, Prod.mk.injEq] at H
                  obtain ⟨rfl, rfl, rfl⟩ := H
                  have p10 : 0 ≤ (1 : Int) := (by omega)
                  have q10 : 1 < a0.size := (by have : (1 : Int) < (a0.size : Int) := of_decide_eq_true (by first | (with_reducible assumption) | assumption); omega)
                  have hx10 : ∀ h : 1 < a0.size, ((a0[1]'h).toNat : Int) = bt a0 1 := zfY a0 1
                  clear p10
                  have qi10 : (1 < (a0.size : Int)) = True := eq_true (of_decide_eq_true (by first | (with_reducible assumption) | assumption))
                  replace q10 := eq_true q10
                  go_wp2
                  repeat (go_quiet (fail); try go_wp2)
                  go_ret3
                  exact ⟨by first | rfl | (simp; done) | (simp [*]; done), by repeat (first | exact zI.refl _ | apply zI.step)⟩
                · rw [if_neg c11] at H
                  have c11b0 : ((bt a0 1) == 0) = false := beq_eq_false_iff_ne.mpr c11
                  have c11b1 : ((bt a0 1) != 0) = true := bne_iff_ne.mpr c11
                  have H' := zb.mk H
                  clear H
                  have p10 : 0 ≤ (1 : Int) := (by omega)
                  have q10 : 1 < a0.size := (by have : (1 : Int) < (a0.size : Int) := of_decide_eq_true (by first | (with_reducible assumption) | assumption); omega)
                  have hx10 : ∀ h : 1 < a0.size, ((a0[1]'h).toNat : Int) = bt a0 1 := zfY a0 1
                  clear p10
                  have qi10 : (1 < (a0.size : Int)) = True := eq_true (of_decide_eq_true (by first | (with_reducible assumption) | assumption))
                  replace q10 := eq_true q10
                  go_wp2
                  repeat (go_quiet (fail); try go_wp2)
                  go_meet
                  case rel => exact ⟨_, H', ⟨by first | omega | exact Nat.le_refl _⟩, by repeat (first | exact zI.refl _ | apply zI.step)⟩
              · rw [if_neg c9] at H
                exact absurd H (by simp)
            · rw [if_neg c8] at H
              have c8b0 : decide (0 < (wrap64 (bt a0 0))) = false := decide_eq_false c8
              clear c8
              have H' := zb.mk H
              clear H
              go_wp2
              repeat (go_quiet (fail); try go_wp2)
              go_meet
              case rel => exact ⟨_, H', ⟨by first | omega | exact Nat.le_refl _⟩, by repeat (first | exact zI.refl _ | apply zI.step)⟩
      case rest =>
        clear HC5
        try clear c1
        try clear p1
        try clear q1
        try clear hx1
        try clear qi1
        try clear c2
        try clear c2b0
        try clear c2b1
        try clear p2
        try clear c3
        try clear c3b0
        try clear c3b1
        try clear p4
        try clear q4
        try clear hx4
        try clear qi4
        try clear c6
        try clear c6b0
        try clear p6
        try clear c7
        try clear c7b0
        try clear c8
        try clear c8b0
        try clear c9
        try clear c9b0
        try clear c9b1
        try clear p10
        try clear q10
        try clear hx10
        try clear qi10
        try clear c11
        try clear c11b0
        try clear c11b1
        try clear p10
        try clear p4
        try clear q10
        try clear q4
        obtain ⟨kq, HA, HJ4, ⟨mc4, rfl⟩⟩ := hcut
        cases kq with
        | zero => exact absurd HA.out (by simp [zx.j0])
        | succ kj4 =>
          have H := HA.out
          clear HA
          simp only [zx.j0] at H
          have H' := zb.mk H
          clear H
          go_wp2
          repeat (go_quiet (fail); try go_wp2)
          go_loopg [6, 7] kj4 (fun kq v6 v7 w' => ∃ (x6_2 : Int) (x7_2 : Int), v6 = .int .u64 x6_2 ∧ v7 = .int .i64 x7_2 ∧ zb (zx.l0 kq a0 (wrap64 (bt a0 0)) x6_2 x7_2 = some (r1, r2, r3)) ∧ zb (kq ≤ kj4) ∧ zI w w')
          case atStart => exact ⟨(0), (1), (by first | rfl | (simp; done) | (simp [*]; done)), (by first | rfl | (simp; done) | (simp [*]; done)), H', ⟨Nat.le_refl _⟩, by repeat (first | exact zI.refl _ | apply zI.step)⟩
          case round =>
            clear H'
            try clear c1
            try clear p1
            try clear q1
            try clear hx1
            try clear qi1
            try clear c2
            try clear c2b0
            try clear c2b1
            try clear p2
            try clear c3
            try clear c3b0
            try clear c3b1
            try clear c4
            try clear p4
            try clear q4
            try clear hx4
            try clear qi4
            try clear c6
            try clear c6b0
            try clear p6
            try clear c7
            try clear c7b0
            try clear c8
            try clear c8b0
            try clear c9
            try clear c9b0
            try clear c9b1
            try clear p10
            try clear q10
            try clear hx10
            try clear qi10
            try clear c11
            try clear c11b0
            try clear c11b1
            try clear p1
            try clear p10
            try clear p2
            try clear p4
            try clear p6
            try clear q1
            try clear q10
            try clear q4
            obtain ⟨x6_2, x7_2, rfl, rfl, HA, HK2, ⟨m2, rfl⟩⟩ := hrel
            cases gk with
            | zero => exact absurd HA.out (by simp [zx.l0])
            | succ k2 =>
              have H := HA.out
              clear HA
              simp only [zx.l0] at H
              by_cases c12 : x7_2 ≤ (wrap64 (bt a0 0))
              · rw [if_pos c12] at H
                have c12b0 : decide (x7_2 ≤ (wrap64 (bt a0 0))) = true := decide_eq_true c12
                clear c12
                by_cases c13 : 0 ≤ x7_2
                · rw [if_pos c13] at H
                  have c13b0 : decide (0 ≤ x7_2) = true := decide_eq_true c13
                  clear c13
                  by_cases c14 : x7_2 < (a0.size : Int)
                  · rw [if_pos c14] at H
                    have c14b0 : decide (x7_2 < (a0.size : Int)) = true := decide_eq_true c14
                    clear c14
                    have H' := zb.mk H
                    clear H
                    have p15 : 0 ≤ (x7_2 : Int) := of_decide_eq_true (by first | (with_reducible assumption) | assumption)
                    have q15 : x7_2 < (a0.size : Int) := of_decide_eq_true (by first | (with_reducible assumption) | assumption)
                    have hx15 := zfY a0 x7_2
                    replace p15 := eq_true p15
                    replace q15 := eq_true q15
                    go_wp2
                    repeat (go_quiet (fail); try go_wp2)
                    go_roundg k2
                    case measure => have := HJ4.out; have := HK2.out; omega
                    case rel => exact ⟨(Go.bits .or .u64 (IntKind.u64.wrap (x6_2 * 256)) (IntKind.u64.wrap (bt a0 x7_2))), (wrap64 (x7_2 + 1)), (by first | rfl | (simp; done) | (simp [*]; done)), (by first | rfl | (simp; done) | (simp [*]; done)), H', ⟨by have := HJ4.out; have := HK2.out; omega⟩, by repeat (first | exact zI.refl _ | apply zI.step)⟩
                  · rw [if_neg c14] at H
                    exact absurd H (by simp)
                · rw [if_neg c13] at H
                  exact absurd H (by simp)
              · rw [if_neg c12] at H
                have c12b0 : decide (x7_2 ≤ (wrap64 (bt a0 0))) = false := decide_eq_false c12
                clear c12
                obtain ⟨ji16, hji16⟩ : ∃ j_ : Int, (wrap64 ((wrap64 (bt a0 0)) + 1)) = j_ := ⟨_, rfl⟩
                replace H : (if 0 ≤ (ji16) then (if (ji16) ≤ (a0.size : Int) then (some (x6_2, a0.extract ((ji16) : Int).toNat a0.size, 0)) else (none)) else (none)) = some (r1, r2, r3) := by first | (rw [hji16] at H; exact H) | (simp only [hji16] at H ⊢; exact H)
                have hji16w : (IntKind.i64.wrap ((wrap64 (bt a0 0)) + 1)) = ji16 := (zU _).trans hji16
                by_cases c17 : 0 ≤ (ji16)
                · rw [if_pos c17] at H
                  have c17b0 := eq_true c17
                  have c17b1 : decide (0 ≤ (ji16)) = true := decide_eq_true c17
                  clear c17
                  by_cases c18 : (ji16) ≤ (a0.size : Int)
                  · rw [if_pos c18] at H
                    have c18b0 := eq_true c18
                    have c18b1 : decide ((ji16) ≤ (a0.size : Int)) = true := decide_eq_true c18
                    clear c18
                    simp only [Option.some.injEq, Prod.mk.injEq] at H
                    obtain ⟨rfl, rfl, rfl⟩ := H
                    go_wp2
                    repeat (go_quiet (fail); try go_wp2)
                    go_ret3
                    exact ⟨by first | rfl | (simp; done) | (simp only [← hji16] <;> (first | rfl | simp)) | (simp [*]; done), by repeat (first | exact zI.refl _ | apply zI.step)⟩
                  · rw [if_neg c18] at H
                    exact absurd H (by simp)
                · rw [if_neg c17] at H
                  exact absurd H (by simp)
    · rw [if_neg c3] at H
      exact absurd H (by simp)
end Go.Proofs.Ytenbifjbeeobjaa.Px

namespace Go.Proofs.Ytenbifjbeeobjaa.Px
open Go.RowKit Go.Proofs.YtenbifjbeeobjaaW.PrintWords Go.Proofs.YtenbifjbeeobjaaW.PrintLast Go.Proofs.YtenbifjbeeobjaaW.PrintMore
attribute [local go_sem] zC zE zJ zK zv zw zB zD
set_option linter.unusedVariables false
set_option linter.unusedSimpArgs false
theorem zX {α : Type} {c : Prop} [Decidable c] {f g : Nat → Option α} {r : α} (h : c) (e : Ev f r) : Ev (fun k => if c then f k else g k) r := by
  simp only [if_pos h]
  exact e
theorem zak {α : Type} {c : Prop} [Decidable c] {f g : Nat → Option α} {r : α} (h : ¬ c) (e : Ev g r) : Ev (fun k => if c then f k else g k) r := by
  simp only [if_neg h]
  exact e
theorem zaX {α : Type} {f : Nat → Option α} {a b : α} (h : Ev f a) (e : a = b) : Ev f b := e ▸ h
theorem zam {α β : Type} {o : Option α} {f : Nat → α → Option β} {a : α} {r : β} (h : o = some a) (k : Ev (fun n => f n a) r) : Ev (fun n => o.bind (f n)) r := by
  subst h
  exact k
theorem zbe {x : Int} (h0 : 0 ≤ x) (h1 : x < 18446744073709551616) : IntKind.u64.wrap x = x := by
  show x % 18446744073709551616 = x
  omega
theorem zaL {x : Int} (h0 : -9223372036854775808 ≤ x) (h1 : x < 9223372036854775808) : wrap64 x = x := by
  unfold wrap64
  omega
theorem zhF {x : Int} (h : (Lit.int .u64 x).wf = true) : 0 ≤ x ∧ x < 18446744073709551616 := by
  simp [Lit.wf, IntKind.min, IntKind.max, IntKind.signed, IntKind.bits] at h
  omega
theorem zgV {x : Int} (h : (Lit.int .i64 x).wf = true) : -9223372036854775808 ≤ x ∧ x ≤ 9223372036854775807 := by
  simp [Lit.wf, IntKind.min, IntKind.max, IntKind.signed, IntKind.bits] at h
  omega
end Go.Proofs.Ytenbifjbeeobjaa.Px

namespace Go.Proofs.Ytenbifjbeeobjaa.Px
open Go.RowKit Go.Proofs.YtenbifjbeeobjaaW.PrintWords Go.Proofs.YtenbifjbeeobjaaW.PrintLast Go.Proofs.YtenbifjbeeobjaaW.PrintMore
attribute [local go_sem] zC zE zJ zK zv zw zB zD
set_option linter.unusedVariables false
set_option linter.unusedSimpArgs false
def za8.f (a0 : ByteArray) : Option (ByteArray) := if a0.size ≤ 1152921504606846976 then (some (zdP a0)) else (none)
theorem za8.calls (a0 : ByteArray) (r : ByteArray) (w : World) (h : za8.f a0 = some r) :
    Calls Try.prog 77 #[.string a0] w fun e w' => e = .returned (.string r) ∧ Below w.heap.size w w' := by
  unfold za8.f at h
  split at h
  · rename_i h0
    obtain rfl := Option.some.inj h
    clear h
    have hn : (zbg a0.size).size ≤ 9 := zaY (by omega)
    have hn2 : (zbg a0.size).size + a0.size ≤ 9223372036854775807 := by omega
    have HN := zb.mk (show zO.f (a0.size : Int) = some (zbg a0.size) by unfold zO.f; rw [if_pos (by omega), if_pos (by omega), Int.toNat_natCast])
    go_enter Try.func77, Try.ntmps77
    go_wp2_with (go_at_call 50; (with_reducible refine (zO.calls _ _ _ HN.out).mono ?_); rintro e w1 ⟨rfl, hb⟩)
    go_ret
    exact ⟨rfl, by assumption⟩
  · cases h
end Go.Proofs.Ytenbifjbeeobjaa.Px

namespace Go.Proofs.Ytenbifjbeeobjaa.Px
open Go.RowKit Go.Proofs.YtenbifjbeeobjaaW.PrintWords Go.Proofs.YtenbifjbeeobjaaW.PrintLast Go.Proofs.YtenbifjbeeobjaaW.PrintMore
attribute [local go_sem] zC zE zJ zK zv zw zB zD
set_option linter.unusedVariables false
set_option linter.unusedSimpArgs false
end Go.Proofs.Ytenbifjbeeobjaa.Px

namespace Go.Proofs.Ytenbifjbeeobjaa.Px
open Go.RowKit Go.Proofs.YtenbifjbeeobjaaW.PrintWords Go.Proofs.YtenbifjbeeobjaaW.PrintLast Go.Proofs.YtenbifjbeeobjaaW.PrintMore
attribute [local go_sem] zC zE zJ zK zv zw zB zD
set_option linter.unusedVariables false
set_option linter.unusedSimpArgs false
theorem zhh (v : Nat) (c : UInt8) (hv : v < 72057594037927936) : Go.bits .or .u64 (IntKind.u64.wrap ((v : Int) * 256)) (IntKind.u64.wrap (c.toNat : Int)) = ((v * 256 + c.toNat : Nat) : Int) := by
  have hc := c.toNat_lt
  rw [zbe (by omega) (by omega), zbe (by omega) (by omega), show (v : Int) * 256 = ((v * 256 : Nat) : Int) by omega, u64_or_nat _ _ (by omega) (by omega)]
  have := Nat.two_pow_add_eq_or_of_lt (i := 8) (b := c.toNat) (by omega) v
  rw [Nat.mul_comm v 256, show (256 : Nat) = 2 ^ 8 from rfl, this]
theorem ze2 (t : Bs) (j : Nat) (h : j < t.length) : val (t.take (j + 1)) = val (t.take j) * 256 + (t.getD j 0).toNat := by
  rw [List.take_succ_eq_append_getElem h, zc2, List.getD_eq_getElem?_getD, List.getElem?_eq_getElem h]; rfl
theorem zfF (t : Bs) (j : Nat) (h : j < 8) : val (t.take j) < 72057594037927936 := by
  have h1 := zhb (t.take j)
  have h2 : 256 ^ (t.take j).length ≤ 256 ^ 7 := Nat.pow_le_pow_right (by omega) (by rw [List.length_take]; omega)
  have : (256 : Nat) ^ 7 = 72057594037927936 := by decide
  omega
def zbs (s : ByteArray) : Int × ByteArray × Int := (((zM (ofB s)).1 : Int), toB (zM (ofB s)).2.1, (zM (ofB s)).2.2)
theorem zfD (l : Bs) : zbs (toB l) = (((zM l).1 : Int), toB (zM l).2.1, (zM l).2.2) := by rw [zbs, zY]
theorem zdY (c : UInt8) (t : Bs) (j : Nat) : bt (toB (c :: t)) ((j + 1 : Nat) : Int) = ((t.getD j 0).toNat : Int) := by
  rw [zgb, zY]; rfl
theorem zgL (c : UInt8) (t : Bs) (n : Nat) : (toB (c :: t)).extract (n + 1) (toB (c :: t)).size = toB (t.drop n) := by
  apply zcN
  rw [zcs, zY, zY, z5, List.drop_succ_cons, List.take_of_length_le (by simp)]
theorem zfm (c : UInt8) (t : Bs) (hc : c.toNat ≤ 8) (hl : c.toNat ≤ t.length) (hs : t.length < 4611686018427387904) (d : Nat) : ∀ j, j + d = c.toNat →
    Ev (fun k => zx.l0 k (toB (c :: t)) (c.toNat : Int) (val (t.take j) : Int) ((j + 1 : Nat) : Int)) ((val (t.take c.toNat) : Int), toB (t.drop c.toNat), 0) := by
  induction d with
  | zero =>
    intro j hj
    refine Ev.step (fun k => by rw [zx.l0]) ?_
    rw [zaL (x := (c.toNat : Int) + 1) (by omega) (by omega)]
    refine zak (by omega) (zX (by omega) (zX (by rw [z5, List.length_cons]; omega) ?_))
    rw [show ((c.toNat : Int) + 1).toNat = c.toNat + 1 by omega, zgL]
    obtain rfl : j = c.toNat := by omega
    exact Ev.now _
  | succ d ih =>
    intro j hj
    refine Ev.step (fun k => by rw [zx.l0]) ?_
    refine zX (by omega) (zX (by omega) (zX (by rw [z5, List.length_cons]; omega) ?_))
    rw [zdY, zhh _ _ (zfF t j (by omega)), ← ze2 t j (by omega), zaL (by omega) (by omega)]
    exact ih (j + 1) (by omega)
theorem zbu (s : ByteArray) (hs : s.size < 4611686018427387904) : Ev (fun k => zx.f k s) (zbs s) := by
  obtain ⟨l, rfl⟩ : ∃ l, s = toB l := ⟨_, (zbt s).symm⟩
  rw [z5] at hs
  rw [zfD]
  rcases l with _ | ⟨c, t⟩
  · exact zX (by rw [zaI, zY]) (Ev.now _)
  · have hc := c.toNat_lt
    rw [List.length_cons] at hs
    have e0 : bt (toB (c :: t)) 0 = (c.toNat : Int) := by rw [show (0 : Int) = ((0 : Nat) : Int) from rfl, zgb, zY]; rfl
    have e1 : bt (toB (c :: t)) 1 = ((t.getD 0 0).toNat : Int) := zdY c t 0
    refine zak (by rw [zaI, zY]; simp) (zX (by rw [z5, List.length_cons]; omega) ?_)
    rw [e0, e1, zaL (by omega) (by omega), z5, List.length_cons]
    have hj : c.toNat ≤ 8 → c.toNat ≤ t.length → Ev (fun k => zx.j0 k (toB (c :: t)) (c.toNat : Int)) ((val (t.take c.toNat) : Int), toB (t.drop c.toNat), 0) := fun h8 hl => by
      refine Ev.step (fun k => by rw [zx.j0]) ?_
      exact zfm c t h8 hl (by omega) c.toNat 0 (by omega)
    by_cases h8 : 8 < c.toNat
    · refine zX (by omega) ?_
      simp only [zM, if_pos h8]
      exact Ev.now _
    refine zak (by omega) ?_
    by_cases hl : t.length < c.toNat
    · refine zX (by omega) ?_
      simp only [zM, if_neg h8, if_pos hl]
      exact Ev.now _
    refine zak (by omega) ?_
    by_cases h0 : 0 < c.toNat
    · refine zX (by omega) (zX (by omega) ?_)
      by_cases hz : t.getD 0 0 = 0
      · refine zX (by rw [hz]; rfl) ?_
        simp only [zM, if_neg h8, if_neg hl, if_pos (And.intro h0 hz)]
        exact Ev.now _
      · refine zak (fun h => hz (UInt8.toNat_inj.1 (by show _ = 0; omega))) ?_
        simp only [zM, if_neg h8, if_neg hl, if_neg (fun h : _ ∧ _ => hz h.2)]
        exact hj (by omega) (by omega)
    · refine zak (by omega) ?_
      simp only [zM, if_neg h8, if_neg hl, if_neg (fun h : _ ∧ _ => h0 h.1)]
      exact hj (by omega) (by omega)
theorem zbY (v : Nat) (hv : v < 18446744073709551616) : zO.f (v : Int) = some (zbg v) := by
  unfold zO.f
  rw [if_pos (by omega), if_pos (by omega), Int.toNat_natCast]
theorem zc4 (t : ByteArray) (h : t.size ≤ 1152921504606846976) : za8.f t = some (zdP t) := by unfold za8.f; rw [if_pos h]
theorem zia : be 2 = [2] := by
  rw [zcJ (by omega)]
  simp [zb0]
end Go.Proofs.Ytenbifjbeeobjaa.Px

namespace Go.Proofs.Ytenbifjbeeobjaa.Px
open Go.RowKit Go.Proofs.YtenbifjbeeobjaaW.PrintWords Go.Proofs.YtenbifjbeeobjaaW.PrintLast Go.Proofs.YtenbifjbeeobjaaW.PrintMore
attribute [local go_sem] zC zE zJ zK zv zw zB zD
set_option linter.unusedVariables false
set_option linter.unusedSimpArgs false
def zao (s : Bs) : Option (Nat × Bs) := if (zM s).2.2 = 0 ∧ (zM s).1 ≤ 1048576 then some ((zM s).1, (zM s).2.1) else none
theorem zdV {s r : Bs} {v : Nat} (h : zao s = some (v, r)) : s = zaN v ++ r ∧ v ≤ 1048576 := by
  unfold zao at h
  split at h
  · rename_i h0
    have hi := Option.some.inj h
    obtain ⟨h1, h2⟩ := zbn (s := s) (v := (zM s).1) (r := (zM s).2.1) (by rw [← h0.1])
    rw [show (zM s).1 = v from congrArg Prod.fst hi] at h1 h0
    rw [show (zM s).2.1 = r from congrArg Prod.snd hi] at h1
    exact ⟨h1, h0.2⟩
  · cases h
theorem zbq {s r : Bs} {v : Nat} (h : zao s = some (v, r)) : r.length ≤ s.length := by
  rw [(zdV h).1, List.length_append]; omega
theorem zbJ {v : Nat} (hv : v ≤ 1048576) (r : Bs) : zao (zaN v ++ r) = some (v, r) := by
  rw [zao, zbA (by omega), if_pos ⟨rfl, hv⟩]
end Go.Proofs.Ytenbifjbeeobjaa.Px

namespace Go.Proofs.Ytenbifjbeeobjaa.Px
open Go.RowKit Go.Proofs.YtenbifjbeeobjaaW.PrintWords Go.Proofs.YtenbifjbeeobjaaW.PrintLast Go.Proofs.YtenbifjbeeobjaaW.PrintMore
attribute [local go_sem] zC zE zJ zK zv zw zB zD
set_option linter.unusedVariables false
set_option linter.unusedSimpArgs false
def zbM : Value := .iface 91 (.agg #[])
def zch : List PanicEntry := [{ v := .iface 91 (.agg #[]), recovered := false }]
theorem zaB.yes (w : World) : Calls Try.prog 28 #[.bool true] w fun e w' => e = .returned (.tuple #[]) ∧ w' = w := by
  go_enter Try.func28, Try.ntmps28
  go_wp2
  exact ⟨rfl, .tuple #[], by simp [results, Try.results28], rfl, rfl⟩
theorem zaB.no (w : World) : Calls Try.prog 28 #[.bool false] w fun e w' => e = .panicked zch ∧ w' = w := by
  go_enter Try.func28, Try.ntmps28
  go_wp2
  exact ⟨rfl, rfl, rfl⟩
set_option maxHeartbeats 2000000 in
set_option maxRecDepth 100000 in
theorem zat.good (s : ByteArray) (b v : Nat) (r : Bs) (w : World) (hs : s.size < 4611686018427387904) (h : zao (ofB s) = some (v, r)) (hc : w.cell? ⟨b, 0, none⟩ = some (.string s)) (hf : w.frozen? ⟨b, 0, none⟩ = false) :
    Calls Try.prog 37 #[.pointer (some ⟨b, 0, none⟩)] w fun e w' => e = .returned (.int .i64 v) ∧ ∃ m, w' = (w.drewN m).setCell ⟨b, 0, none⟩ (.string (toB r)) := by
  obtain ⟨k, hk⟩ := (zbu s hs).rounds
  unfold zao at h
  split at h
  · rename_i h0
    have hi := Option.some.inj h
    simp only [zbs] at hk
    rw [h0.1, show (zM (ofB s)).1 = v from congrArg Prod.fst hi, show (zM (ofB s)).2.1 = r from congrArg Prod.snd hi] at hk
    have hv : v ≤ 1048576 := by have := h0.2; rwa [show (zM (ofB s)).1 = v from congrArg Prod.fst hi] at this
    have hb : decide (v ≤ 1048576) = true := decide_eq_true hv
    have hb2 : decide ((v : Int) ≤ 1048576) = true := decide_eq_true (by omega)
    have hw : wrap64 (v : Int) = v := zaL (by omega) (by omega)
    have HK := zb.mk hk
    clear hk h h0 hi hs hv
    go_enter Try.func37, Try.ntmps37
    go_wp2_with (first
      | (go_at_call 63; (with_reducible refine (zx.calls _ _ _ _ _ _ HK.out).mono ?_); rintro e w1 ⟨rfl, ⟨nd, rfl⟩⟩)
      | (go_at_call 28; (with_reducible refine (zaB.yes _).mono ?_); rintro e w1 ⟨rfl, rfl⟩))
    go_ret
    rw [hw]
    exact ⟨rfl, _, rfl⟩
  · cases h
set_option maxHeartbeats 2000000 in
set_option maxRecDepth 100000 in
theorem zat.bad (s : ByteArray) (b : Nat) (w : World) (hs : s.size < 4611686018427387904) (h : zao (ofB s) = none) (hc : w.cell? ⟨b, 0, none⟩ = some (.string s)) (hf : w.frozen? ⟨b, 0, none⟩ = false) :
    Calls Try.prog 37 #[.pointer (some ⟨b, 0, none⟩)] w fun e w' => e = .panicked zch ∧ ∃ m, w' = w.drewN m := by
  obtain ⟨k, hk⟩ := (zbu s hs).rounds
  unfold zao at h
  split at h
  · cases h
  · rename_i h0
    simp only [zbs] at hk
    generalize zM (ofB s) = q at *
    obtain ⟨v, r, e⟩ := q
    simp only at hk h0
    have HK := zb.mk hk
    clear hk h hs
    by_cases he : e = 0
    · subst he
      have hv : ¬ v ≤ 1048576 := fun hh => h0 ⟨rfl, hh⟩
      have hb : decide (v ≤ 1048576) = false := decide_eq_false hv
      have hb2 : decide ((v : Int) ≤ 1048576) = false := decide_eq_false (by omega)
      clear h0 hv
      go_enter Try.func37, Try.ntmps37
      go_wp2_with (first
        | (go_at_call 63; (with_reducible refine (zx.calls _ _ _ _ _ _ HK.out).mono ?_); rintro e w1 ⟨rfl, ⟨nd, rfl⟩⟩)
        | (go_at_call 28; (with_reducible refine (zaB.no _).mono ?_); rintro e w1 ⟨rfl, rfl⟩))
      exact ⟨rfl, rfl, _, rfl⟩
    · have hb : (e == 0) = false := beq_eq_false_iff_ne.2 he
      clear h0 he
      go_enter Try.func37, Try.ntmps37
      go_wp2_with (first
        | (go_at_call 63; (with_reducible refine (zx.calls _ _ _ _ _ _ HK.out).mono ?_); rintro e w1 ⟨rfl, ⟨nd, rfl⟩⟩)
        | (go_at_call 28; (with_reducible refine (zaB.no _).mono ?_); rintro e w1 ⟨rfl, rfl⟩))
      exact ⟨rfl, rfl, _, rfl⟩
theorem zat.upd {w w' : World} {b m : Nat} {t : TypeId} {s u : Value} (hb : w.heap[b]? = some (.cells #[s] t (0, 0))) (he : w' = (w.drewN m).setCell ⟨b, 0, none⟩ u) :
    w'.heap[b]? = some (.cells #[u] t (0, 0)) ∧ (∀ (i : Nat) (t' : TypeId) (cs : Array Value), i ≠ b → w.heap[i]? = some (.cells cs t' (0, 0)) → w'.heap[i]? = some (.cells cs t' (0, 0))) ∧ ∀ W0 : World, Below W0.heap.size W0 w → W0.heap.size ≤ b → Below W0.heap.size W0 w' := by
  subst he
  refine ⟨zn (ze hb m) 0 u rfl, fun i t' cs hi h => zm (ze h m) hi u, fun W0 h hg => zg (zd h m) hg⟩
theorem zat.goodU (s : ByteArray) (b v : Nat) (r : Bs) (w : World) (t : TypeId) (hs : s.size < 4611686018427387904) (h : zao (ofB s) = some (v, r)) (hb : w.heap[b]? = some (.cells #[.string s] t (0, 0))) :
    Calls Try.prog 37 #[.pointer (some ⟨b, 0, none⟩)] w fun e w' => e = .returned (.int .i64 v) ∧ w'.heap[b]? = some (.cells #[.string (toB r)] t (0, 0)) ∧ (∀ (i : Nat) (t' : TypeId) (cs : Array Value), i ≠ b → w.heap[i]? = some (.cells cs t' (0, 0)) → w'.heap[i]? = some (.cells cs t' (0, 0))) ∧ ∀ W0 : World, Below W0.heap.size W0 w → W0.heap.size ≤ b → Below W0.heap.size W0 w' := by
  refine (zat.good s b v r w hs h ((zc hb 0).trans rfl) (za hb 0)).mono ?_
  rintro e w' ⟨rfl, m, he⟩
  exact ⟨rfl, zat.upd hb he⟩
theorem zat.badU (s : ByteArray) (b : Nat) (w : World) (t : TypeId) (hs : s.size < 4611686018427387904) (h : zao (ofB s) = none) (hb : w.heap[b]? = some (.cells #[.string s] t (0, 0))) :
    Calls Try.prog 37 #[.pointer (some ⟨b, 0, none⟩)] w fun e w' => e = .panicked zch ∧ ∀ W0 : World, Below W0.heap.size W0 w → Below W0.heap.size W0 w' := by
  refine (zat.bad s b w hs h ((zc hb 0).trans rfl) (za hb 0)).mono ?_
  rintro e w' ⟨rfl, m, rfl⟩
  exact ⟨rfl, fun W0 hb => zd hb m⟩
theorem zdN (s : ByteArray) (c : UInt8) : zax.f s (toB [c]) = some (decide ((ofB s).head? = some c)) := by
  unfold zax.f
  rw [z5]
  rcases hq : ofB s with _ | ⟨x, t⟩
  · have hz : s.size = 0 := by rw [← z9, hq]; rfl
    rw [hz, if_neg (by simp)]; simp
  · have hz : s.size = t.length + 1 := by rw [← z9, hq]; rfl
    rw [hz, if_pos (by simp; omega), if_pos (by simp), if_pos (by simp; omega)]
    have e1 : (s.extract 0 ((([c] : Bs).length : Int) : Int).toNat).toList = [x] := by
      rw [zaI, zcs, hq]; rfl
    rw [e1, zaI, zY]
    by_cases h : x = c
    · subst h; simp
    · simp [h]
theorem zbF (s : ByteArray) (c : UInt8) (t : Bs) (h : ofB s = c :: t) : zG.f s (toB [c]) = some (toB t, true) := by
  unfold zG.f zaE.f
  rw [zdN, h]
  have hz : s.size = t.length + 1 := by rw [← z9, h]; rfl
  simp only [List.head?_cons, decide_true, Option.bind_some, if_true]
  rw [z5, hz, if_pos (by simp), if_pos (by simp; omega)]
  simp only [Option.bind_some]
  have e : s.extract ((([c] : Bs).length : Int) : Int).toNat (t.length + 1) = toB t := by
    apply zcN
    rw [zcs, h, zY]
    show List.take (t.length + 1 - 1) t = t
    rw [Nat.add_sub_cancel, List.take_length]
  rw [e]
theorem za5 (s : ByteArray) (c : UInt8) (h : (ofB s).head? ≠ some c) : zG.f s (toB [c]) = some (s, false) := by
  unfold zG.f zaE.f
  rw [zdN, decide_eq_false h]
  simp only [Option.bind_some]
  rw [if_neg (by simp)]
  rfl
end Go.Proofs.Ytenbifjbeeobjaa.Px

namespace Go.Proofs.Ytenbifjbeeobjaa.Px
open Go.RowKit Go.Proofs.YtenbifjbeeobjaaW.PrintWords Go.Proofs.YtenbifjbeeobjaaW.PrintLast Go.Proofs.YtenbifjbeeobjaaW.PrintMore
attribute [local go_sem] zC zE zJ zK zv zw zB zD
set_option linter.unusedVariables false
set_option linter.unusedSimpArgs false
theorem zbc.body (s : ByteArray) (w : World) : Calls Try.prog 45 #[.string s] w fun e w' => e = .returned (.string s) ∧ w' = w := by
  go_enter Try.func45, Try.ntmps45
  go_wp2
  go_ret
  exact ⟨rfl, rfl⟩
theorem z4.assert (w : World) : (Instr.typeAssert (.iface 91 (.agg #[])) 20 91 true).run Try.prog w = .ok (.tuple #[.agg #[], .bool true]) w := by kernel_rfl
set_option maxHeartbeats 4000000 in
set_option maxRecDepth 100000 in
theorem z4.catch (g6 g7 : Nat) (older : List PanicEntry) (c6 c7 : Value) (w : World) (h6 : w.heap[g6]? = some (.cells #[c6] 9 (0, 0))) (h7 : w.heap[g7]? = some (.cells #[c7] 29 (0, 0))) (hne : g6 ≠ g7) :
    CallsD Try.prog 69 #[.pointer (some ⟨g6, 0, none⟩), .pointer (some ⟨g7, 0, none⟩)] (.panicking ({ v := zbM, recovered := false } :: older)) w fun e u' w' =>
      e = .returned (.tuple #[]) ∧ u' = .panicking ({ v := zbM, recovered := true } :: older) ∧ w'.heap[g6]? = some (.cells #[.string ⟨#[]⟩] 9 (0, 0)) ∧ w'.heap[g7]? = some (.cells #[.int .i64 3] 29 (0, 0)) ∧ ∀ W0 : World, Below W0.heap.size W0 w → W0.heap.size ≤ g6 → W0.heap.size ≤ g7 → Below W0.heap.size W0 w' := by
  have ha := z4.assert
  have hne' := Ne.symm hne
  refine callsD_of_wpS Try.func69 rfl fun c₀ cs hu => ?_
  apply wpS_seq
  apply wpS_region
  simp [wpOpsS, go_sem, recoverD, hu, Try.ntmps69, Exit.thenS, zbM]
  show Code.wpS _ _ _ ⟨#[.pointer (some ⟨g6, 0, none⟩), .pointer (some ⟨g7, 0, none⟩), zbM, undef, undef, undef, zbM, undef, undef, undef, undef, undef, undef, undef, undef, undef, undef, undef], []⟩ _ _
  unfold zbM
  refine wpS_of_wp ?_
  go_wp2_with (first
    | ((with_reducible refine zq (N := 3) rfl ?_); refine zp ?hg (N := 3) ?hd (cs := #[]) (t := 91) ?hr ?_; (case hd => rfl); (case hg => rfl); (case hr => first | (go_simp; done) | (go_simp; rfl)); intro g3 hg w1 hbox hb; have B6 := zb.mk (zk h6 hb); have B7 := zb.mk (zk h7 hb); have HB1 := zb.mk hb; clear hb hbox hg; have ca0 := (zc B6.out 0).trans rfl; have fca0 := za B6.out 0; have cb0 := (zc B7.out 0).trans rfl; have fcb0 := za B7.out 0))
  have x6 : ((w1.setCell ⟨g6, 0, none⟩ (.string ⟨#[]⟩)).setCell ⟨g7, 0, none⟩ (.int .i64 3)).heap[g6]? = some (.cells #[.string ⟨#[]⟩] 9 (0, 0)) := zm (zn B6.out 0 _ rfl) hne _
  have x7 : ((w1.setCell ⟨g6, 0, none⟩ (.string ⟨#[]⟩)).setCell ⟨g7, 0, none⟩ (.int .i64 3)).heap[g7]? = some (.cells #[.int .i64 3] 29 (0, 0)) := zn (zm B7.out hne' _) 0 _ rfl
  have x8 : ∀ W0 : World, Below W0.heap.size W0 w → W0.heap.size ≤ g6 → W0.heap.size ≤ g7 → Below W0.heap.size W0 ((w1.setCell ⟨g6, 0, none⟩ (.string ⟨#[]⟩)).setCell ⟨g7, 0, none⟩ (.int .i64 3)) := fun W0 h k6 k7 => zg (zg (zl h HB1.out) k6) k7
  generalize ((w1.setCell ⟨g6, 0, none⟩ (.string ⟨#[]⟩)).setCell ⟨g7, 0, none⟩ (.int .i64 3)) = wE at x6 x7 x8 ⊢
  simp [bodyPostS, results, Try.results69]
  exact ⟨x6, x7, x8⟩
set_option maxHeartbeats 4000000 in
set_option maxRecDepth 100000 in
theorem z4.idle (g6 g7 : Nat) (w : World) :
    CallsD Try.prog 69 #[.pointer (some ⟨g6, 0, none⟩), .pointer (some ⟨g7, 0, none⟩)] .returning w fun e u' w' => e = .returned (.tuple #[]) ∧ u' = .returning ∧ w' = w := by
  refine callsD_of_wpS Try.func69 rfl fun c₀ cs hu => ?_
  apply wpS_seq
  apply wpS_region
  simp [wpOpsS, go_sem, recoverD, hu, Try.ntmps69, Exit.thenS]
  show Code.wpS _ _ _ ⟨#[.pointer (some ⟨g6, 0, none⟩), .pointer (some ⟨g7, 0, none⟩), .nilIface, undef, undef, undef, .nilIface, undef, undef, undef, undef, undef, undef, undef, undef, undef, undef, undef], []⟩ _ _
  refine wpS_of_wp ?_
  go_wp2
  cases c₀
  simp_all [bodyPostS, results, Try.results69]
set_option maxHeartbeats 4000000 in
set_option maxRecDepth 100000 in
theorem z4.good (s rest : ByteArray) (w : World) (hcut : zG.f s ⟨#[116]⟩ = some (rest, true)) :
    Calls Try.prog 44 #[.string s, .string ⟨#[116]⟩, .func (.func 45) #[] #[]] w fun e w' => e = .returned (.tuple #[.string rest, .int .i64 0]) ∧ Below w.heap.size w w' := by
  have hmf : ∀ (fn : Fn) (first cap : Array Value) (w : World), (Instr.makeFunc fn first cap).run Try.prog w = .ok (.func fn first cap) w := fun _ _ _ _ => rfl
  have HC := zb.mk hcut
  clear hcut
  go_enter_defers Try.func44, Try.ntmps44
  go_wp2_with (first
    | ((with_reducible refine zq (N := 6) rfl ?_); refine zp ?hg (N := 6) ?hd (cs := #[.string ⟨#[]⟩]) (t := 9) ?hr ?_; (case hd => rfl); (case hg => rfl); (case hr => first | (go_simp; done) | (go_simp; rfl)); intro g6 hg w1 hbox hb; have G6 : zb (w.heap.size ≤ g6) := ⟨by rw [hg]; exact Nat.le_refl _⟩; have B6 := zb.mk hbox; have HB1 := zb.mk hb; clear hb hbox hg)
    | ((with_reducible refine zq (N := 7) rfl ?_); refine zp ?hg (N := 7) ?hd (cs := #[.int .i64 0]) (t := 29) ?hr ?_; (case hd => rfl); (case hg => rfl); (case hr => first | (go_simp; done) | (go_simp; rfl)); intro g7 hg w2 hbox hb; have G7 : zb (w.heap.size ≤ g7) := ⟨by rw [hg]; exact zo HB1.out⟩; have N67 : zb (g6 ≠ g7) := ⟨by rw [hg]; exact Nat.ne_of_lt (zH B6.out)⟩; have C7 := zb.mk hbox; have C6 := zb.mk (zk B6.out hb); have HB2 := zb.mk (zl HB1.out hb); clear hb hbox hg B6)
    | (go_at_call 52; (with_reducible refine (zG.calls _ _ _ _ _ HC.out).mono ?_); rintro e w3 ⟨rfl, ⟨n3, rfl⟩⟩)
    | (go_at_call 28; (with_reducible refine (zaB.yes _).mono ?_); rintro e w1 ⟨rfl, rfl⟩)
    | (go_at_call 45; (with_reducible refine (zbc.body rest _).mono ?_); rintro e w4 ⟨rfl, hw4⟩; have D6 : zb (w4.heap[g6]? = some (.cells #[.string ⟨#[]⟩] 9 (0, 0))) := ⟨by rw [hw4]; exact ze C6.out _⟩; have D7 : zb (w4.heap[g7]? = some (.cells #[.int .i64 0] 29 (0, 0))) := ⟨by rw [hw4]; exact ze C7.out _⟩; have HB4 : zb (Below w.heap.size w w4) := ⟨by rw [hw4]; exact zd HB2.out _⟩; clear hw4; have ca0 := (zc D6.out 0).trans rfl; have fca0 := za D6.out 0; have cb0 := (zc D7.out 0).trans rfl; have fcb0 := za D7.out 0; have n67 := N67.out; have n76 := Ne.symm N67.out))
  have x6 : ((w4.setCell ⟨g6, 0, none⟩ (.string rest)).setCell ⟨g7, 0, none⟩ (.int .i64 0)).heap[g6]? = some (.cells #[.string rest] 9 (0, 0)) := zm (zn D6.out 0 _ rfl) N67.out _
  have x7 : ((w4.setCell ⟨g6, 0, none⟩ (.string rest)).setCell ⟨g7, 0, none⟩ (.int .i64 0)).heap[g7]? = some (.cells #[.int .i64 0] 29 (0, 0)) := zn (zm D7.out (Ne.symm N67.out) _) 0 _ rfl
  have x8 : Below w.heap.size w ((w4.setCell ⟨g6, 0, none⟩ (.string rest)).setCell ⟨g7, 0, none⟩ (.int .i64 0)) := zg (zg HB4.out G6.out) G7.out
  generalize ((w4.setCell ⟨g6, 0, none⟩ (.string rest)).setCell ⟨g7, 0, none⟩ (.int .i64 0)) = wE at x6 x7 x8 ⊢
  refine leaves_cons (f := 69) (args := #[.pointer (some ⟨g6, 0, none⟩), .pointer (some ⟨g7, 0, none⟩)]) (by simp) (by simp [go_sem]) ?_
  refine (z4.idle g6 g7 _).mono ?_
  rintro e u' w'' ⟨rfl, rfl, rfl⟩
  have hc60 : w''.cell? ⟨g6, 0, none⟩ = some (.string rest) := (zc x6 0).trans rfl
  have hc7 : w''.cell? ⟨g7, 0, none⟩ = some (.int .i64 0) := (zc x7 0).trans rfl
  simp [Leaves, settle, results, Try.results44, asAddr, go_sem, hc60, hc7]
  exact x8
set_option maxHeartbeats 4000000 in
set_option maxRecDepth 100000 in
theorem z4.none1 (s : ByteArray) (w : World) (hcut : zG.f s ⟨#[116]⟩ = some (s, false)) :
    Calls Try.prog 44 #[.string s, .string ⟨#[116]⟩, .func (.func 45) #[] #[]] w fun e w' => e = .returned (.tuple #[.string ⟨#[]⟩, .int .i64 3]) ∧ Below w.heap.size w w' := by
  have hmf : ∀ (fn : Fn) (first cap : Array Value) (w : World), (Instr.makeFunc fn first cap).run Try.prog w = .ok (.func fn first cap) w := fun _ _ _ _ => rfl
  have HC := zb.mk hcut
  clear hcut
  go_enter_defers Try.func44, Try.ntmps44
  go_wp2_with (first
    | ((with_reducible refine zq (N := 6) rfl ?_); refine zp ?hg (N := 6) ?hd (cs := #[.string ⟨#[]⟩]) (t := 9) ?hr ?_; (case hd => rfl); (case hg => rfl); (case hr => first | (go_simp; done) | (go_simp; rfl)); intro g6 hg w1 hbox hb; have G6 : zb (w.heap.size ≤ g6) := ⟨by rw [hg]; exact Nat.le_refl _⟩; have B6 := zb.mk hbox; have HB1 := zb.mk hb; clear hb hbox hg)
    | ((with_reducible refine zq (N := 7) rfl ?_); refine zp ?hg (N := 7) ?hd (cs := #[.int .i64 0]) (t := 29) ?hr ?_; (case hd => rfl); (case hg => rfl); (case hr => first | (go_simp; done) | (go_simp; rfl)); intro g7 hg w2 hbox hb; have G7 : zb (w.heap.size ≤ g7) := ⟨by rw [hg]; exact zo HB1.out⟩; have N67 : zb (g6 ≠ g7) := ⟨by rw [hg]; exact Nat.ne_of_lt (zH B6.out)⟩; have C7 := zb.mk hbox; have C6 := zb.mk (zk B6.out hb); have HB2 := zb.mk (zl HB1.out hb); clear hb hbox hg B6)
    | (go_at_call 52; (with_reducible refine (zG.calls _ _ _ _ _ HC.out).mono ?_); rintro e w3 ⟨rfl, ⟨n3, rfl⟩⟩)
    | (go_at_call 28; (with_reducible refine (zaB.no _).mono ?_); rintro e w4 ⟨rfl, rfl⟩; have D6 := zb.mk (ze C6.out n3); have D7 := zb.mk (ze C7.out n3); have HB4 := zb.mk (zd HB2.out n3)))
  refine leaves_cons (f := 69) (args := #[.pointer (some ⟨g6, 0, none⟩), .pointer (some ⟨g7, 0, none⟩)]) (by simp) (by simp [go_sem]) ?_
  refine (z4.catch g6 g7 [] _ _ _ D6.out D7.out N67.out).mono ?_
  rintro e u' w'' ⟨rfl, rfl, x6, x7, hx⟩
  have x8 := hx w HB4.out G6.out G7.out
  have hc60 : w''.cell? ⟨g6, 0, none⟩ = some (.string ⟨#[]⟩) := (zc x6 0).trans rfl
  have hc7 : w''.cell? ⟨g7, 0, none⟩ = some (.int .i64 3) := (zc x7 0).trans rfl
  simp [Leaves, settle, results, Try.results44, asAddr, go_sem, hc60, hc7]
  exact x8
def zei (s : ByteArray) : ByteArray × Int := match ofB s with
  | c :: t => if c = 116 then (toB t, 0) else ((⟨#[]⟩ : ByteArray), 3)
  | [] => ((⟨#[]⟩ : ByteArray), 3)
def z4.f (a0 a1 : ByteArray) : Option (ByteArray × Int) := if a1 = ⟨#[116]⟩ then some (zei a0) else none
theorem z4.calls (a0 a1 : ByteArray) (r1 : ByteArray) (r2 : Int) (w : World) (h : z4.f a0 a1 = some (r1, r2)) :
    Calls Try.prog 44 #[.string a0, .string a1, .func (.func 45) #[] #[]] w fun e w' => e = .returned (.tuple #[.string r1, .int .i64 r2]) ∧ Below w.heap.size w w' := by
  unfold z4.f at h
  split at h
  · rename_i h0
    subst h0
    have h := Option.some.inj h
    unfold zei at h
    rcases hq : ofB a0 with _ | ⟨c, t⟩
    · rw [hq] at h
      simp only [Prod.mk.injEq] at h
      obtain ⟨rfl, rfl⟩ := h
      exact z4.none1 a0 w (za5 _ _ (by rw [hq]; simp))
    · rw [hq] at h
      simp only at h
      by_cases hc : c = 116
      · rw [if_pos hc] at h
        subst hc
        simp only [Prod.mk.injEq] at h
        obtain ⟨rfl, rfl⟩ := h
        exact z4.good a0 (toB t) w (zbF a0 116 t hq)
      · rw [if_neg hc] at h
        simp only [Prod.mk.injEq] at h
        obtain ⟨rfl, rfl⟩ := h
        exact z4.none1 a0 w (za5 _ _ (by rw [hq]; simpa using hc))
  · cases h
end Go.Proofs.Ytenbifjbeeobjaa.Px
