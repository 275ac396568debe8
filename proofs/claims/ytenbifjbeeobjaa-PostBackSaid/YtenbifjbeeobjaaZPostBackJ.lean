/- Part 10 of 33 of the proof of the law PostBack: what is proved is the statement at the end of the last part; its conditions are those of the given row. -/
import Derived.Test.YtenbifjbeeobjaaZPostBackI
namespace Go.Proofs.Ytenbifjbeeobjaa.Px
open Go.RowKit Go.Proofs.YtenbifjbeeobjaaW.PrintWords Go.Proofs.YtenbifjbeeobjaaW.PrintLast Go.Proofs.YtenbifjbeeobjaaW.PrintMore
attribute [local go_sem] zC zE zJ zK zv zw zB zD
set_option linter.unusedVariables false
set_option linter.unusedSimpArgs false
def zbd.f (a0 : Int) : Option (Int) := (zau.f a0).bind fun t136 => (if t136 = true then (some (wrap64 (Int.tdiv (wrap64 (a0 - 1)) 3))) else (some 0))
set_option maxHeartbeats 8000000 in
set_option maxRecDepth 100000 in
theorem zbd.calls (a0 : Int) (r : Int) (w : World) (h : zbd.f a0 = some r) :
    Calls Try.prog 106 #[.int .i64 a0] w fun e w' => e = .returned (.int .i64 r) ∧ zI w w' := by
  have H : ((zau.f a0).bind fun t136 => (if t136 = true then (some (wrap64 (Int.tdiv (wrap64 (a0 - 1)) 3))) else (some 0))) = some r := h
  clear h
  replace H := Option.bind_eq_some_iff.mp H
  obtain ⟨t136, A20, H⟩ := H
  replace H : (if t136 = true then (some (wrap64 (Int.tdiv (wrap64 (a0 - 1)) 3))) else (some 0)) = some r := H
  have A2 := zb.mk A20
  clear A20
  by_cases c3 : t136 = true
  · subst c3
    have H1 : (some (wrap64 (Int.tdiv (wrap64 (a0 - 1)) 3))) = some r := by rw [if_pos rfl] at H; exact H
    clear H
    have H := H1
    clear H1
    obtain rfl := Option.some.inj H
    go_enter Try.func106, Try.ntmps106
    go_wp2_with (first | ((with_reducible refine zu (f := 83) rfl ?_); refine zQ (some 4) rfl rfl Try.func83 (by kernel_rfl) rfl #[.int .i64 a0] rfl (by (try simp only [List.map_toArray, List.map_cons, List.map_nil]); first | done | rfl | (simp only [List.length_drop, List.length_take]; rfl)) ?_; (with_reducible refine (zau.calls a0 true _ A2.out).mono ?_); rintro e w' ⟨rfl, ⟨nd, rfl⟩⟩; refine ⟨_, rfl, ?_⟩))
    go_ret
    exact ⟨by first | rfl | (simp; done) | (simp [*]; done), by repeat (first | exact zI.refl _ | apply zI.step)⟩
  · replace c3 := Bool.eq_false_iff.mpr c3
    subst c3
    have H1 : (some 0) = some r := by rw [if_neg (show ¬ (false = true) by decide)] at H; exact H
    clear H
    have H := H1
    clear H1
    obtain rfl := Option.some.inj H
    go_enter Try.func106, Try.ntmps106
    go_wp2_with (first | ((with_reducible refine zu (f := 83) rfl ?_); refine zQ (some 4) rfl rfl Try.func83 (by kernel_rfl) rfl #[.int .i64 a0] rfl (by (try simp only [List.map_toArray, List.map_cons, List.map_nil]); first | done | rfl | (simp only [List.length_drop, List.length_take]; rfl)) ?_; (with_reducible refine (zau.calls a0 false _ A2.out).mono ?_); rintro e w' ⟨rfl, ⟨nd, rfl⟩⟩; refine ⟨_, rfl, ?_⟩))
    go_ret
    exact ⟨by first | rfl | (simp; done) | (simp [*]; done), by repeat (first | exact zI.refl _ | apply zI.step)⟩
end Go.Proofs.Ytenbifjbeeobjaa.Px

namespace Go.Proofs.Ytenbifjbeeobjaa.Px
open Go.RowKit Go.Proofs.YtenbifjbeeobjaaW.PrintWords Go.Proofs.YtenbifjbeeobjaaW.PrintLast Go.Proofs.YtenbifjbeeobjaaW.PrintMore
attribute [local go_sem] zC zE zJ zK zv zw zB zD
set_option linter.unusedVariables false
set_option linter.unusedSimpArgs false
def zay.f (a0 : Int) : Option (Int) := (zau.f a0).bind fun t137 => (if t137 = true then ((zbd.f a0).bind fun t138 => (some (wrap64 (a0 - t138)))) else (some 0))
set_option maxHeartbeats 8000000 in
set_option maxRecDepth 100000 in
theorem zay.calls (a0 : Int) (r : Int) (w : World) (h : zay.f a0 = some r) :
    Calls Try.prog 96 #[.int .i64 a0] w fun e w' => e = .returned (.int .i64 r) ∧ zI w w' := by
  have H : ((zau.f a0).bind fun t137 => (if t137 = true then ((zbd.f a0).bind fun t138 => (some (wrap64 (a0 - t138)))) else (some 0))) = some r := h
  clear h
  replace H := Option.bind_eq_some_iff.mp H
  obtain ⟨t137, A20, H⟩ := H
  replace H : (if t137 = true then ((zbd.f a0).bind fun t138 => (some (wrap64 (a0 - t138)))) else (some 0)) = some r := H
  have A2 := zb.mk A20
  clear A20
  by_cases c3 : t137 = true
  · subst c3
    have H1 : ((zbd.f a0).bind fun t138 => (some (wrap64 (a0 - t138)))) = some r := by rw [if_pos rfl] at H; exact H
    clear H
    have H := H1
    clear H1
    replace H := Option.bind_eq_some_iff.mp H
    obtain ⟨t138, A40, H⟩ := H
    replace H : (some (wrap64 (a0 - t138))) = some r := H
    have A4 := zb.mk A40
    clear A40
    obtain rfl := Option.some.inj H
    go_enter Try.func96, Try.ntmps96
    go_wp2_with (first | ((with_reducible refine zu (f := 83) rfl ?_); refine zQ (some 4) rfl rfl Try.func83 (by kernel_rfl) rfl #[.int .i64 a0] rfl (by (try simp only [List.map_toArray, List.map_cons, List.map_nil]); first | done | rfl | (simp only [List.length_drop, List.length_take]; rfl)) ?_; (with_reducible refine (zau.calls a0 true _ A2.out).mono ?_); rintro e w' ⟨rfl, ⟨nd, rfl⟩⟩; refine ⟨_, rfl, ?_⟩) | ((with_reducible refine zu (f := 106) rfl ?_); refine zQ (some 8) rfl rfl Try.func106 (by kernel_rfl) rfl #[.int .i64 a0] rfl (by (try simp only [List.map_toArray, List.map_cons, List.map_nil]); first | done | rfl | (simp only [List.length_drop, List.length_take]; rfl)) ?_; (with_reducible refine (zbd.calls a0 t138 _ A4.out).mono ?_); rintro e w' ⟨rfl, ⟨nd, rfl⟩⟩; refine ⟨_, rfl, ?_⟩))
    go_ret
    exact ⟨by first | rfl | (simp; done) | (simp [*]; done), by repeat (first | exact zI.refl _ | apply zI.step)⟩
  · replace c3 := Bool.eq_false_iff.mpr c3
    subst c3
    have H1 : (some 0) = some r := by rw [if_neg (show ¬ (false = true) by decide)] at H; exact H
    clear H
    have H := H1
    clear H1
    obtain rfl := Option.some.inj H
    go_enter Try.func96, Try.ntmps96
    go_wp2_with (first | ((with_reducible refine zu (f := 83) rfl ?_); refine zQ (some 4) rfl rfl Try.func83 (by kernel_rfl) rfl #[.int .i64 a0] rfl (by (try simp only [List.map_toArray, List.map_cons, List.map_nil]); first | done | rfl | (simp only [List.length_drop, List.length_take]; rfl)) ?_; (with_reducible refine (zau.calls a0 false _ A2.out).mono ?_); rintro e w' ⟨rfl, ⟨nd, rfl⟩⟩; refine ⟨_, rfl, ?_⟩))
    go_ret
    exact ⟨by first | rfl | (simp; done) | (simp [*]; done), by repeat (first | exact zI.refl _ | apply zI.step)⟩
end Go.Proofs.Ytenbifjbeeobjaa.Px

namespace Go.Proofs.Ytenbifjbeeobjaa.Px
open Go.RowKit Go.Proofs.YtenbifjbeeobjaaW.PrintWords Go.Proofs.YtenbifjbeeobjaaW.PrintLast Go.Proofs.YtenbifjbeeobjaaW.PrintMore
attribute [local go_sem] zC zE zJ zK zv zw zB zD
set_option linter.unusedVariables false
set_option linter.unusedSimpArgs false
def zaj.l0 : Nat → List ByteArray → Int → List ByteArray → Int → Int → Option (Bool)
  | 0, _, _, _, _, _ => none
  | k + 1, x0, x2, x14, x15, x16 => if x16 < x15 then (if 0 ≤ x16 then (if x16 < (x14.length : Int) then (if ((zL ByteArray.empty x14 x16).size : Int) = 32 then (if x16 > 0 then (if 0 ≤ (wrap64 (x16 - 1)) then (if (wrap64 (x16 - 1)) < (x0.length : Int) then (if ((Op.bytesLess ((zL ByteArray.empty x0 (wrap64 (x16 - 1))).toList) ((zL ByteArray.empty x14 x16).toList)) = true) then (zaj.l0 k x0 x2 x14 x15 (wrap64 (x16 + 1))) else (some false)) else (none)) else (none)) else (zaj.l0 k x0 x2 x14 x15 (wrap64 (x16 + 1)))) else (some false)) else (none)) else (none)) else ((zay.f x2).bind fun t141 => (if (x0.length : Int) ≥ t141 then (some (decide ((x0.length : Int) ≤ x2))) else (some false)))
def zaj.f (k : Nat) (l0 : List ByteArray) (a1 : Int) (a2 : Int) : Option (Bool) := if a1 = 1 then (some ((l0.length : Int) == 0)) else (zaj.l0 k l0 a2 l0 (l0.length : Int) 0)
set_option maxHeartbeats 8000000 in
set_option maxRecDepth 100000 in
theorem zaj.calls (k : Nat) (A0 : Option Addr) (c0 : Nat) (l0 : List ByteArray) (a1 : Int) (a2 : Int) (r : Bool) (w : World) (hr0 : Kd.C Kd.string w A0 l0.length l0) (hc0 : l0.length ≤ c0) (h : zaj.f k l0 a1 a2 = some r) :
    Calls Try.prog 87 #[.slice A0 l0.length c0, .int .i64 a1, .int .i64 a2] w fun e w' => e = .returned (.bool r) ∧ zI w w' := by
  have HR0 := zb.mk hr0
  have HC0 := zb.mk hc0
  clear hr0 hc0
  have H : (if a1 = 1 then (some ((l0.length : Int) == 0)) else (zaj.l0 k l0 a2 l0 (l0.length : Int) 0)) = some r := h
  clear h
  by_cases c4 : a1 = 1
  · rw [if_pos c4] at H
    have c4b0 : (a1 == 1) = true := beq_iff_eq.mpr c4
    have c4b1 : (a1 != 1) = false := bne_eq_false_iff_eq.mpr c4
    clear c4
    obtain rfl := Option.some.inj H
    go_enter Try.func87, Try.ntmps87
    go_wp2
    go_ret
    exact ⟨by first | rfl | (simp; done) | (simp [*]; done), by repeat (first | exact zI.refl _ | apply zI.step)⟩
  · rw [if_neg c4] at H
    have c4b0 : (a1 == 1) = false := beq_eq_false_iff_ne.mpr c4
    have c4b1 : (a1 != 1) = true := bne_iff_ne.mpr c4
    have H' := zb.mk H
    clear H
    go_enter Try.func87, Try.ntmps87
    go_wp2
    go_loopg [16] k (fun kq v16 w' => ∃ (x16_1 : Int), v16 = .int .i64 x16_1 ∧ zb (zaj.l0 kq l0 a2 l0 (l0.length : Int) x16_1 = some r) ∧ zb (kq ≤ k) ∧ zI w w')
    case atStart => exact ⟨(0), (by first | rfl | (simp; done) | (simp [*]; done)), H', ⟨Nat.le_refl _⟩, by repeat (first | exact zI.refl _ | apply zI.step)⟩
    case round =>
      clear H'
      try clear p2
      try clear c4
      try clear c4b0
      try clear c4b1
      obtain ⟨x16_1, rfl, HA, HK1, ⟨m1, rfl⟩⟩ := hrel
      cases gk with
      | zero => exact absurd HA.out (by simp [zaj.l0])
      | succ k1 =>
        have H := HA.out
        clear HA
        simp only [zaj.l0] at H
        by_cases c5 : x16_1 < (l0.length : Int)
        · rw [if_pos c5] at H
          have c5b0 : decide (x16_1 < (l0.length : Int)) = true := decide_eq_true c5
          clear c5
          by_cases c6 : 0 ≤ x16_1
          · rw [if_pos c6] at H
            have c6b0 : decide (0 ≤ x16_1) = true := decide_eq_true c6
            clear c6
            by_cases c7 : x16_1 < (l0.length : Int)
            · rw [if_pos c7] at H
              have c7b0 : decide (x16_1 < (l0.length : Int)) = true := decide_eq_true c7
              clear c7
              by_cases c8 : ((zL ByteArray.empty l0 x16_1).size : Int) = 32
              · rw [if_pos c8] at H
                have c8b0 : (((zL ByteArray.empty l0 x16_1).size : Int) == 32) = true := beq_iff_eq.mpr c8
                have c8b1 : (((zL ByteArray.empty l0 x16_1).size : Int) != 32) = false := bne_eq_false_iff_eq.mpr c8
                clear c8
                by_cases c9 : x16_1 > 0
                · rw [if_pos c9] at H
                  have c9b0 : decide (0 < x16_1) = true := decide_eq_true c9
                  clear c9
                  obtain ⟨ji10, hji10⟩ : ∃ j_ : Int, (wrap64 (x16_1 - 1)) = j_ := ⟨_, rfl⟩
                  replace H : (if 0 ≤ (ji10) then (if (ji10) < (l0.length : Int) then (if ((Op.bytesLess ((zL ByteArray.empty l0 (ji10)).toList) ((zL ByteArray.empty l0 x16_1).toList)) = true) then (zaj.l0 k1 l0 a2 l0 (l0.length : Int) (wrap64 (x16_1 + 1))) else (some false)) else (none)) else (none)) = some r := by first | (rw [hji10] at H; exact H) | (simp only [hji10] at H ⊢; exact H)
                  have hji10w : (IntKind.i64.wrap (x16_1 - 1)) = ji10 := (zU _).trans hji10
                  by_cases c11 : 0 ≤ (ji10)
                  · rw [if_pos c11] at H
                    have c11b0 : decide (0 ≤ (ji10)) = true := decide_eq_true c11
                    clear c11
                    by_cases c12 : (ji10) < (l0.length : Int)
                    · rw [if_pos c12] at H
                      have c12b0 : decide ((ji10) < (l0.length : Int)) = true := decide_eq_true c12
                      clear c12
                      by_cases c13 : ((Op.bytesLess ((zL ByteArray.empty l0 (ji10)).toList) ((zL ByteArray.empty l0 x16_1).toList)) = true)
                      · rw [if_pos c13] at H
                        have c13b0 : (Op.bytesLess ((zL ByteArray.empty l0 (ji10)).toList) ((zL ByteArray.empty l0 x16_1).toList)) = true := c13
                        clear c13
                        have H' := zb.mk H
                        clear H
                        have p139 : 0 ≤ (x16_1 : Int) := of_decide_eq_true (by first | (with_reducible assumption) | assumption)
                        have q139 : x16_1 < (l0.length : Int) := of_decide_eq_true (by first | (with_reducible assumption) | assumption)
                        obtain ⟨ad139, e139, hx139_0⟩ := Kd.at_string HR0.out x16_1 p139 q139
                        cases e139
                        replace p139 := eq_true p139
                        replace q139 := eq_true q139
                        have p140 : 0 ≤ ((ji10) : Int) := of_decide_eq_true (by first | (with_reducible assumption) | assumption)
                        have q140 : (ji10) < (l0.length : Int) := of_decide_eq_true (by first | (with_reducible assumption) | assumption)
                        obtain ⟨ad140, e140, hx140_0⟩ := Kd.at_string HR0.out (ji10) p140 q140
                        obtain rfl : ad139 = ad140 := (by injection e140)
                        replace p140 := eq_true p140
                        replace q140 := eq_true q140
                        go_wp2
                        go_roundg k1
                        case measure => have := HK1.out; omega
                        case rel => exact ⟨(wrap64 (x16_1 + 1)), (by first | rfl | (simp; done) | (simp [*]; done)), H', ⟨by have := HK1.out; omega⟩, by repeat (first | exact zI.refl _ | apply zI.step)⟩
                      · rw [if_neg c13] at H
                        have c13b0 : (Op.bytesLess ((zL ByteArray.empty l0 (ji10)).toList) ((zL ByteArray.empty l0 x16_1).toList)) = false := by simpa using c13
                        clear c13
                        obtain rfl := Option.some.inj H
                        have p139 : 0 ≤ (x16_1 : Int) := of_decide_eq_true (by first | (with_reducible assumption) | assumption)
                        have q139 : x16_1 < (l0.length : Int) := of_decide_eq_true (by first | (with_reducible assumption) | assumption)
                        obtain ⟨ad139, e139, hx139_0⟩ := Kd.at_string HR0.out x16_1 p139 q139
                        cases e139
                        replace p139 := eq_true p139
                        replace q139 := eq_true q139
                        have p140 : 0 ≤ ((ji10) : Int) := of_decide_eq_true (by first | (with_reducible assumption) | assumption)
                        have q140 : (ji10) < (l0.length : Int) := of_decide_eq_true (by first | (with_reducible assumption) | assumption)
                        obtain ⟨ad140, e140, hx140_0⟩ := Kd.at_string HR0.out (ji10) p140 q140
                        obtain rfl : ad139 = ad140 := (by injection e140)
                        replace p140 := eq_true p140
                        replace q140 := eq_true q140
                        go_wp2
                        go_ret
                        exact ⟨by first | rfl | (simp; done) | (simp only [← hji10] <;> (first | rfl | simp)) | (simp [*]; done), by repeat (first | exact zI.refl _ | apply zI.step)⟩
                    · rw [if_neg c12] at H
                      exact absurd H (by simp)
                  · rw [if_neg c11] at H
                    exact absurd H (by simp)
                · rw [if_neg c9] at H
                  have c9b0 : decide (0 < x16_1) = false := decide_eq_false c9
                  clear c9
                  have H' := zb.mk H
                  clear H
                  have p139 : 0 ≤ (x16_1 : Int) := of_decide_eq_true (by first | (with_reducible assumption) | assumption)
                  have q139 : x16_1 < (l0.length : Int) := of_decide_eq_true (by first | (with_reducible assumption) | assumption)
                  obtain ⟨ad139, e139, hx139_0⟩ := Kd.at_string HR0.out x16_1 p139 q139
                  cases e139
                  replace p139 := eq_true p139
                  replace q139 := eq_true q139
                  go_wp2
                  go_roundg k1
                  case measure => have := HK1.out; omega
                  case rel => exact ⟨(wrap64 (x16_1 + 1)), (by first | rfl | (simp; done) | (simp [*]; done)), H', ⟨by have := HK1.out; omega⟩, by repeat (first | exact zI.refl _ | apply zI.step)⟩
              · rw [if_neg c8] at H
                have c8b0 : (((zL ByteArray.empty l0 x16_1).size : Int) == 32) = false := beq_eq_false_iff_ne.mpr c8
                have c8b1 : (((zL ByteArray.empty l0 x16_1).size : Int) != 32) = true := bne_iff_ne.mpr c8
                obtain rfl := Option.some.inj H
                have p139 : 0 ≤ (x16_1 : Int) := of_decide_eq_true (by first | (with_reducible assumption) | assumption)
                have q139 : x16_1 < (l0.length : Int) := of_decide_eq_true (by first | (with_reducible assumption) | assumption)
                obtain ⟨ad139, e139, hx139_0⟩ := Kd.at_string HR0.out x16_1 p139 q139
                cases e139
                replace p139 := eq_true p139
                replace q139 := eq_true q139
                go_wp2
                go_ret
                exact ⟨by first | rfl | (simp; done) | (simp [*]; done), by repeat (first | exact zI.refl _ | apply zI.step)⟩
            · rw [if_neg c7] at H
              exact absurd H (by simp)
          · rw [if_neg c6] at H
            exact absurd H (by simp)
        · rw [if_neg c5] at H
          have c5b0 : decide (x16_1 < (l0.length : Int)) = false := decide_eq_false c5
          clear c5
          replace H := Option.bind_eq_some_iff.mp H
          obtain ⟨t141, A140, H⟩ := H
          replace H : (if (l0.length : Int) ≥ t141 then (some (decide ((l0.length : Int) ≤ a2))) else (some false)) = some r := H
          have A14 := zb.mk A140
          clear A140
          by_cases c15 : (l0.length : Int) ≥ t141
          · rw [if_pos c15] at H
            have c15b0 : decide (t141 ≤ (l0.length : Int)) = true := decide_eq_true c15
            clear c15
            obtain rfl := Option.some.inj H
            go_wp2_with (first | ((with_reducible refine zu (f := 96) rfl ?_); refine zQ (some 41) rfl rfl Try.func96 (by kernel_rfl) rfl #[.int .i64 a2] rfl (by (try simp only [List.map_toArray, List.map_cons, List.map_nil]); first | done | rfl | (simp only [List.length_drop, List.length_take]; rfl)) ?_; (with_reducible refine (zay.calls a2 t141 _ A14.out).mono ?_); rintro e w' ⟨rfl, ⟨nd, rfl⟩⟩; refine ⟨_, rfl, ?_⟩))
            go_ret
            exact ⟨by first | rfl | (simp; done) | (simp [*]; done), by repeat (first | exact zI.refl _ | apply zI.step)⟩
          · rw [if_neg c15] at H
            have c15b0 : decide (t141 ≤ (l0.length : Int)) = false := decide_eq_false c15
            clear c15
            obtain rfl := Option.some.inj H
            go_wp2_with (first | ((with_reducible refine zu (f := 96) rfl ?_); refine zQ (some 41) rfl rfl Try.func96 (by kernel_rfl) rfl #[.int .i64 a2] rfl (by (try simp only [List.map_toArray, List.map_cons, List.map_nil]); first | done | rfl | (simp only [List.length_drop, List.length_take]; rfl)) ?_; (with_reducible refine (zay.calls a2 t141 _ A14.out).mono ?_); rintro e w' ⟨rfl, ⟨nd, rfl⟩⟩; refine ⟨_, rfl, ?_⟩))
            go_ret
            exact ⟨by first | rfl | (simp; done) | (simp [*]; done), by repeat (first | exact zI.refl _ | apply zI.step)⟩
end Go.Proofs.Ytenbifjbeeobjaa.Px

namespace Go.Proofs.Ytenbifjbeeobjaa.Px
open Go.RowKit Go.Proofs.YtenbifjbeeobjaaW.PrintWords Go.Proofs.YtenbifjbeeobjaaW.PrintLast Go.Proofs.YtenbifjbeeobjaaW.PrintMore
attribute [local go_sem] zC zE zJ zK zv zw zB zD
set_option linter.unusedVariables false
set_option linter.unusedSimpArgs false
def zbf.f (a0 : Int) : Option (Bool) := if a0 ≥ 3 then (some ((Int.tmod a0 3) == 0)) else (some false)
set_option maxHeartbeats 8000000 in
set_option maxRecDepth 100000 in
theorem zbf.calls (a0 : Int) (r : Bool) (w : World) (h : zbf.f a0 = some r) :
    Calls Try.prog 86 #[.int .i64 a0] w fun e w' => e = .returned (.bool r) ∧ zI w w' := by
  have H : (if a0 ≥ 3 then (some ((Int.tmod a0 3) == 0)) else (some false)) = some r := h
  clear h
  by_cases c2 : a0 ≥ 3
  · rw [if_pos c2] at H
    have c2b0 : decide (3 ≤ a0) = true := decide_eq_true c2
    clear c2
    obtain rfl := Option.some.inj H
    go_enter Try.func86, Try.ntmps86
    go_wp2
    go_ret
    exact ⟨by first | rfl | (simp; done) | (simp [*]; done), by repeat (first | exact zI.refl _ | apply zI.step)⟩
  · rw [if_neg c2] at H
    have c2b0 : decide (3 ≤ a0) = false := decide_eq_false c2
    clear c2
    obtain rfl := Option.some.inj H
    go_enter Try.func86, Try.ntmps86
    go_wp2
    go_ret
    exact ⟨by first | rfl | (simp; done) | (simp [*]; done), by repeat (first | exact zI.refl _ | apply zI.step)⟩
end Go.Proofs.Ytenbifjbeeobjaa.Px

namespace Go.Proofs.Ytenbifjbeeobjaa.Px
open Go.RowKit Go.Proofs.YtenbifjbeeobjaaW.PrintWords Go.Proofs.YtenbifjbeeobjaaW.PrintLast Go.Proofs.YtenbifjbeeobjaaW.PrintMore
attribute [local go_sem] zC zE zJ zK zv zw zB zD
set_option linter.unusedVariables false
set_option linter.unusedSimpArgs false
end Go.Proofs.Ytenbifjbeeobjaa.Px

namespace Go.Proofs.Ytenbifjbeeobjaa.Px
open Go.RowKit Go.Proofs.YtenbifjbeeobjaaW.PrintWords Go.Proofs.YtenbifjbeeobjaaW.PrintLast Go.Proofs.YtenbifjbeeobjaaW.PrintMore
attribute [local go_sem] zC zE zJ zK zv zw zB zD
set_option linter.unusedVariables false
set_option linter.unusedSimpArgs false
def zf1 : Bs → Bs → Bool
  | [], b => !b.isEmpty
  | _ :: _, [] => false
  | x :: xs, y :: ys => if x = y then zf1 xs ys else decide (x.toNat < y.toNat)
end Go.Proofs.Ytenbifjbeeobjaa.Px

namespace Go.Proofs.Ytenbifjbeeobjaa.Px
open Go.RowKit Go.Proofs.YtenbifjbeeobjaaW.PrintWords Go.Proofs.YtenbifjbeeobjaaW.PrintLast Go.Proofs.YtenbifjbeeobjaaW.PrintMore
attribute [local go_sem] zC zE zJ zK zv zw zB zD
set_option linter.unusedVariables false
set_option linter.unusedSimpArgs false
theorem zcS : ∀ a b : Bs, Op.bytesLess a b = zf1 a b
  | [], [] => rfl
  | [], _ :: _ => rfl
  | _ :: _, [] => rfl
  | x :: xs, y :: ys => by
    rw [Op.bytesLess, zf1, zcS xs ys]
    by_cases h : x = y
    · subst h; simp
    · rw [if_neg h]
      have hn : x.toNat ≠ y.toNat := fun e => h (UInt8.toNat_inj.1 e)
      by_cases h1 : x < y
      · have := UInt8.lt_iff_toNat_lt.1 h1
        simp [h1, this]
      · have h2 : ¬ x.toNat < y.toNat := fun e => h1 (UInt8.lt_iff_toNat_lt.2 e)
        have h3 : y < x := UInt8.lt_iff_toNat_lt.2 (by omega)
        simp [h1, h2]
        exact fun e => absurd e h
def ze4 (n : Int) : Bool := decide (4 ≤ n) && decide (n ≤ 64) && decide (n % 3 = 1)
theorem zaK (n : Int) : zau.f n = some (ze4 n) := by
  unfold zau.f ze4
  by_cases h : n ≥ 4
  · rw [if_pos h]
    by_cases h1 : n ≤ 64
    · rw [if_pos h1, Int.tmod_eq_emod_of_nonneg (by omega)]
      by_cases h2 : n % 3 = 1
      · simp [h1, h2]; omega
      · simp [h2]
    · rw [if_neg h1]; simp [h1]
  · rw [if_neg h]
    have : ¬ 4 ≤ n := by omega
    simp [this]
theorem zcz (n : Int) : ze4 n = true ↔ 4 ≤ n ∧ n ≤ 64 ∧ n % 3 = 1 := by
  unfold ze4; simp [and_assoc]
def zcw (n : Int) : Int := if ze4 n = true then n - (n - 1) / 3 else 0
theorem zcU (n : Int) : zay.f n = some (zcw n) := by
  unfold zay.f zbd.f zcw
  rw [zaK]
  simp only [Option.bind_some]
  by_cases h : ze4 n = true
  · rw [if_pos h, if_pos h, if_pos h]
    obtain ⟨h1, h2, h3⟩ := (zcz n).1 h
    simp only [Option.bind_some]
    rw [zaL (x := n - 1) (by omega) (by omega), Int.tdiv_eq_ediv_of_nonneg (by omega), zaL (x := (n - 1) / 3) (by omega) (by omega), zaL (by omega) (by omega)]
  · rw [if_neg h, if_neg h]
def zf6 (a b : Int) : Bool := decide (0 ≤ a) && decide (a < 10007) && decide (0 ≤ b) && decide (b < 10007)
theorem zdy (a b : Int) : zf6 a b = true ↔ 0 ≤ a ∧ a < 10007 ∧ 0 ≤ b ∧ b < 10007 := by
  unfold zf6; simp [and_assoc]
theorem zbR (a b : Int) : zbC.f a b = some (zf6 a b) := by
  unfold zbC.f zf6
  by_cases h1 : 0 ≤ a <;> by_cases h2 : a < 10007 <;> by_cases h3 : 0 ≤ b <;> simp [h1, h2, h3]
def zeR (r : Int) : Bool := decide (3 ≤ r) && decide (r % 3 = 0)
theorem zbG (r : Int) : zbf.f r = some (zeR r) := by
  unfold zbf.f zeR
  by_cases h : r ≥ 3
  · rw [if_pos h, Int.tmod_eq_emod_of_nonneg (by omega)]
    have : 3 ≤ r := h
    by_cases h2 : r % 3 = 0 <;> simp [this, h2]
  · rw [if_neg h]
    have : ¬ 3 ≤ r := by omega
    simp [this]
def zgE (l : List ByteArray) (j : Nat) : Bool := decide ((l.getD j ByteArray.empty).size = 32) && (decide (j = 0) || zf1 (ofB (l.getD (j - 1) ByteArray.empty)) (ofB (l.getD j ByteArray.empty)))
def zcm (l : List ByteArray) : Nat → Nat → Bool
  | 0, _ => true
  | d + 1, j => zgE l j && zcm l d (j + 1)
def zb9 (l : List ByteArray) (r n : Int) : Bool :=
  if r = 1 then decide (l.length = 0) else zcm l l.length 0 && decide (zcw n ≤ l.length) && decide ((l.length : Int) ≤ n)
theorem zfA (l : List ByteArray) (n : Int) (hl : l.length ≤ 9223372036854775807) (d : Nat) : ∀ j, j + d = l.length →
    Ev (fun k => zaj.l0 k l n l (l.length : Int) (j : Int)) (zcm l d j && decide (zcw n ≤ l.length) && decide ((l.length : Int) ≤ n)) := by
  induction d with
  | zero =>
    intro j hj
    refine Ev.step (fun k => by rw [zaj.l0]) ?_
    refine zak (by omega) (zam (zcU n) ?_)
    by_cases h : zcw n ≤ l.length
    · exact zX h (zaX (Ev.now _) (by simp [zcm, h]))
    · exact zak h (zaX (Ev.now _) (by simp [zcm, h]))
  | succ d ih =>
    intro j hj
    refine Ev.step (fun k => by rw [zaj.l0]) ?_
    refine zX (by omega) (zX (by omega) (zX (by omega) ?_))
    have e1 : zL ByteArray.empty l (j : Int) = l.getD j ByteArray.empty := by rw [zL, Int.toNat_natCast]
    rw [e1]
    by_cases h : (l.getD j ByteArray.empty).size = 32
    · refine zX (by omega) ?_
      rw [zaL (x := (j : Int) + 1) (by omega) (by omega)]
      by_cases h0 : j = 0
      · subst h0
        refine zak (by omega) (zaX (ih 1 (by omega)) ?_)
        simp only [zcm, zgE, h]; simp
      · refine zX (by omega) ?_
        have e2 : wrap64 ((j : Int) - 1) = ((j - 1 : Nat) : Int) := by rw [zaL (by omega) (by omega)]; omega
        rw [e2]
        refine zX (by omega) (zX (by omega) ?_)
        have e3 : zL ByteArray.empty l ((j - 1 : Nat) : Int) = l.getD (j - 1) ByteArray.empty := by rw [zL, Int.toNat_natCast]
        rw [e3, zaI, zaI, zcS]
        by_cases h2 : zf1 (ofB (l.getD (j - 1) ByteArray.empty)) (ofB (l.getD j ByteArray.empty)) = true
        · refine zX h2 (zaX (ih (j + 1) (by omega)) ?_)
          simp only [zcm, zgE, h, h2]; simp
        · refine zak h2 (zaX (Ev.now _) ?_)
          rw [Bool.not_eq_true] at h2
          simp only [zcm, zgE, h, h0, h2]; simp
    · refine zak (by omega) (zaX (Ev.now _) ?_)
      simp only [zcm, zgE, h]; simp
theorem zgf (l : List ByteArray) (r n : Int) (hl : l.length ≤ 9223372036854775807) : Ev (fun k => zaj.f k l r n) (zb9 l r n) := by
  unfold zb9
  by_cases h : r = 1
  · rw [if_pos h]
    refine zX h (zaX (Ev.now _) ?_)
    by_cases h0 : l.length = 0 <;> simp [h0]
  · rw [if_neg h]
    exact zak h (zfA l n hl l.length 0 (by omega))
end Go.Proofs.Ytenbifjbeeobjaa.Px
