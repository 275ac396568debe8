/- part 5 of the proof of the law VertexTakes: texts merged by this session's bundle.py. What is proved: the statement at the end of the last of these texts; its conditions are those of the given row. -/
import Derived.Test.YtfhjimeigelibaaZVertexTakesC
import Derived.Test.YtfhjimeigelibaaZVertexTakesD
namespace Go.Proofs.Ytfhjimeigelibaa.Px
open Go.RowKit Go.Proofs.YtfhjimeigelibaaW.PrintWords Go.Proofs.YtfhjimeigelibaaW.PrintLast Go.Proofs.YtfhjimeigelibaaW.PrintMore
attribute [local go_sem] max2_int min2_int max_two min_two max_three min_three max_four min_four
set_option linter.unusedVariables false
set_option linter.unusedSimpArgs false
def vertex_parents.l0 : Nat → List ByteArray → Int → List ByteArray → Int → Int → Option (Bool)
  | 0, _, _, _, _, _ => none
  | k + 1, x0, x2, x14, x15, x16 => if x16 < x15 then (if 0 ≤ x16 then (if x16 < (x14.length : Int) then (if ((rdOf ByteArray.empty x14 x16).size : Int) = 32 then (if x16 > 0 then (if 0 ≤ (wrap64 (x16 - 1)) then (if (wrap64 (x16 - 1)) < (x0.length : Int) then (if ((Op.bytesLess ((rdOf ByteArray.empty x0 (wrap64 (x16 - 1))).toList) ((rdOf ByteArray.empty x14 x16).toList)) = true) then (vertex_parents.l0 k x0 x2 x14 x15 (wrap64 (x16 + 1))) else (some false)) else (none)) else (none)) else (vertex_parents.l0 k x0 x2 x14 x15 (wrap64 (x16 + 1)))) else (some false)) else (none)) else (none)) else ((seats_Quorum.f x2).bind fun t143 => (if (x0.length : Int) ≥ t143 then (some (decide ((x0.length : Int) ≤ x2))) else (some false)))
def vertex_parents.f (k : Nat) (l0 : List ByteArray) (a1 : Int) (a2 : Int) : Option (Bool) := if a1 = 1 then (some ((l0.length : Int) == 0)) else (vertex_parents.l0 k l0 a2 l0 (l0.length : Int) 0)
set_option maxHeartbeats 8000000 in
set_option maxRecDepth 100000 in
theorem vertex_parents.calls (k : Nat) (A0 : Option Addr) (c0 : Nat) (l0 : List ByteArray) (a1 : Int) (a2 : Int) (r : Bool) (w : World) (hr0 : Kd.C Kd.string w A0 l0.length l0) (hc0 : l0.length ≤ c0) (h : vertex_parents.f k l0 a1 a2 = some r) :
    Calls Try.prog 39 #[.slice A0 l0.length c0, .int .i64 a1, .int .i64 a2] w fun e w' => e = .returned (.bool r) ∧ Drawn0 w w' := by
  have HR0 := Aside0.mk hr0
  have HC0 := Aside0.mk hc0
  clear hr0 hc0
  have H : (if a1 = 1 then (some ((l0.length : Int) == 0)) else (vertex_parents.l0 k l0 a2 l0 (l0.length : Int) 0)) = some r := h
  clear h
  by_cases c4 : a1 = 1
  · rw [if_pos c4] at H
    have c4b0 : (a1 == 1) = true := beq_iff_eq.mpr c4
    have c4b1 : (a1 != 1) = false := bne_eq_false_iff_eq.mpr c4
    clear c4
    obtain rfl := Option.some.inj H
    go_enter Try.func39, Try.ntmps39
    go_wp2
    go_ret
    exact ⟨by first | rfl | (simp; done) | (simp [*]; done), by repeat (first | exact Drawn0.refl _ | apply Drawn0.step)⟩
  · rw [if_neg c4] at H
    have c4b0 : (a1 == 1) = false := beq_eq_false_iff_ne.mpr c4
    have c4b1 : (a1 != 1) = true := bne_iff_ne.mpr c4
    have H' := Aside0.mk H
    clear H
    go_enter Try.func39, Try.ntmps39
    go_wp2
    go_loopg [16] k (fun kq v16 w' => ∃ (x16_1 : Int), v16 = .int .i64 x16_1 ∧ Aside0 (vertex_parents.l0 kq l0 a2 l0 (l0.length : Int) x16_1 = some r) ∧ Aside0 (kq ≤ k) ∧ Drawn0 w w')
    case atStart => exact ⟨(0), (by first | rfl | (simp; done) | (simp [*]; done)), H', ⟨Nat.le_refl _⟩, by repeat (first | exact Drawn0.refl _ | apply Drawn0.step)⟩
    case round =>
      clear H'
      try clear p2
      try clear c3
      try clear c4
      try clear c4b0
      try clear c4b1
      obtain ⟨x16_1, rfl, HA, HK1, ⟨m1, rfl⟩⟩ := hrel
      cases gk with
      | zero => exact absurd HA.out (by simp [vertex_parents.l0])
      | succ k1 =>
        have H := HA.out
        clear HA
        simp only [vertex_parents.l0] at H
        by_cases c5 : x16_1 < (l0.length : Int)
        · rw [if_pos c5] at H
          have c5b0 : decide (x16_1 < (l0.length : Int)) = true := decide_eq_true c5
          clear c5
          by_cases c6 : 0 ≤ x16_1
          · rw [if_pos c6] at H
            have c6b0 : decide (0 ≤ x16_1) = true := decide_eq_true c6
            clear c6
            by_cases c7 : x16_1 < (l0.length : Int)
            · rw [if_pos c7] at H
              have c7b0 : decide (x16_1 < (l0.length : Int)) = true := decide_eq_true c7
              clear c7
              by_cases c8 : ((rdOf ByteArray.empty l0 x16_1).size : Int) = 32
              · rw [if_pos c8] at H
                have c8b0 : (((rdOf ByteArray.empty l0 x16_1).size : Int) == 32) = true := beq_iff_eq.mpr c8
                have c8b1 : (((rdOf ByteArray.empty l0 x16_1).size : Int) != 32) = false := bne_eq_false_iff_eq.mpr c8
                clear c8
                by_cases c9 : x16_1 > 0
                · rw [if_pos c9] at H
                  have c9b0 : decide (0 < x16_1) = true := decide_eq_true c9
                  clear c9
                  obtain ⟨ji10, hji10⟩ : ∃ j_ : Int, (wrap64 (x16_1 - 1)) = j_ := ⟨_, rfl⟩
                  replace H : (if 0 ≤ (ji10) then (if (ji10) < (l0.length : Int) then (if ((Op.bytesLess ((rdOf ByteArray.empty l0 (ji10)).toList) ((rdOf ByteArray.empty l0 x16_1).toList)) = true) then (vertex_parents.l0 k1 l0 a2 l0 (l0.length : Int) (wrap64 (x16_1 + 1))) else (some false)) else (none)) else (none)) = some r := by first | (rw [hji10] at H; exact H) | (simp only [hji10] at H ⊢; exact H)
                  have hji10w : (IntKind.i64.wrap (x16_1 - 1)) = ji10 := (i64_w _).trans hji10
                  by_cases c11 : 0 ≤ (ji10)
                  · rw [if_pos c11] at H
                    have c11b0 : decide (0 ≤ (ji10)) = true := decide_eq_true c11
                    clear c11
                    by_cases c12 : (ji10) < (l0.length : Int)
                    · rw [if_pos c12] at H
                      have c12b0 : decide ((ji10) < (l0.length : Int)) = true := decide_eq_true c12
                      clear c12
                      by_cases c13 : ((Op.bytesLess ((rdOf ByteArray.empty l0 (ji10)).toList) ((rdOf ByteArray.empty l0 x16_1).toList)) = true)
                      · rw [if_pos c13] at H
                        have c13b0 : (Op.bytesLess ((rdOf ByteArray.empty l0 (ji10)).toList) ((rdOf ByteArray.empty l0 x16_1).toList)) = true := c13
                        clear c13
                        have H' := Aside0.mk H
                        clear H
                        have p141 : 0 ≤ (x16_1 : Int) := of_decide_eq_true (by first | (with_reducible assumption) | assumption)
                        have q141 : x16_1 < (l0.length : Int) := of_decide_eq_true (by first | (with_reducible assumption) | assumption)
                        obtain ⟨ad141, e141, hx141_0⟩ := Kd.at_string HR0.out x16_1 p141 q141
                        cases e141
                        replace p141 := eq_true p141
                        replace q141 := eq_true q141
                        have p142 : 0 ≤ ((ji10) : Int) := of_decide_eq_true (by first | (with_reducible assumption) | assumption)
                        have q142 : (ji10) < (l0.length : Int) := of_decide_eq_true (by first | (with_reducible assumption) | assumption)
                        obtain ⟨ad142, e142, hx142_0⟩ := Kd.at_string HR0.out (ji10) p142 q142
                        obtain rfl : ad141 = ad142 := (by injection e142)
                        replace p142 := eq_true p142
                        replace q142 := eq_true q142
                        go_wp2
                        go_roundg k1
                        case measure => have := HK1.out; omega
                        case rel => exact ⟨(wrap64 (x16_1 + 1)), (by first | rfl | (simp; done) | (simp [*]; done)), H', ⟨by have := HK1.out; omega⟩, by repeat (first | exact Drawn0.refl _ | apply Drawn0.step)⟩
                      · rw [if_neg c13] at H
                        have c13b0 : (Op.bytesLess ((rdOf ByteArray.empty l0 (ji10)).toList) ((rdOf ByteArray.empty l0 x16_1).toList)) = false := by simpa using c13
                        clear c13
                        obtain rfl := Option.some.inj H
                        have p141 : 0 ≤ (x16_1 : Int) := of_decide_eq_true (by first | (with_reducible assumption) | assumption)
                        have q141 : x16_1 < (l0.length : Int) := of_decide_eq_true (by first | (with_reducible assumption) | assumption)
                        obtain ⟨ad141, e141, hx141_0⟩ := Kd.at_string HR0.out x16_1 p141 q141
                        cases e141
                        replace p141 := eq_true p141
                        replace q141 := eq_true q141
                        have p142 : 0 ≤ ((ji10) : Int) := of_decide_eq_true (by first | (with_reducible assumption) | assumption)
                        have q142 : (ji10) < (l0.length : Int) := of_decide_eq_true (by first | (with_reducible assumption) | assumption)
                        obtain ⟨ad142, e142, hx142_0⟩ := Kd.at_string HR0.out (ji10) p142 q142
                        obtain rfl : ad141 = ad142 := (by injection e142)
                        replace p142 := eq_true p142
                        replace q142 := eq_true q142
                        go_wp2
                        go_ret
                        exact ⟨by first | rfl | (simp; done) | (simp only [← hji10] <;> (first | rfl | simp)) | (simp [*]; done), by repeat (first | exact Drawn0.refl _ | apply Drawn0.step)⟩
                    · rw [if_neg c12] at H
                      exact absurd H (by simp)
                  · rw [if_neg c11] at H
                    exact absurd H (by simp)
                · rw [if_neg c9] at H
                  have c9b0 : decide (0 < x16_1) = false := decide_eq_false c9
                  clear c9
                  have H' := Aside0.mk H
                  clear H
                  have p141 : 0 ≤ (x16_1 : Int) := of_decide_eq_true (by first | (with_reducible assumption) | assumption)
                  have q141 : x16_1 < (l0.length : Int) := of_decide_eq_true (by first | (with_reducible assumption) | assumption)
                  obtain ⟨ad141, e141, hx141_0⟩ := Kd.at_string HR0.out x16_1 p141 q141
                  cases e141
                  replace p141 := eq_true p141
                  replace q141 := eq_true q141
                  go_wp2
                  go_roundg k1
                  case measure => have := HK1.out; omega
                  case rel => exact ⟨(wrap64 (x16_1 + 1)), (by first | rfl | (simp; done) | (simp [*]; done)), H', ⟨by have := HK1.out; omega⟩, by repeat (first | exact Drawn0.refl _ | apply Drawn0.step)⟩
              · rw [if_neg c8] at H
                have c8b0 : (((rdOf ByteArray.empty l0 x16_1).size : Int) == 32) = false := beq_eq_false_iff_ne.mpr c8
                have c8b1 : (((rdOf ByteArray.empty l0 x16_1).size : Int) != 32) = true := bne_iff_ne.mpr c8
                obtain rfl := Option.some.inj H
                have p141 : 0 ≤ (x16_1 : Int) := of_decide_eq_true (by first | (with_reducible assumption) | assumption)
                have q141 : x16_1 < (l0.length : Int) := of_decide_eq_true (by first | (with_reducible assumption) | assumption)
                obtain ⟨ad141, e141, hx141_0⟩ := Kd.at_string HR0.out x16_1 p141 q141
                cases e141
                replace p141 := eq_true p141
                replace q141 := eq_true q141
                go_wp2
                go_ret
                exact ⟨by first | rfl | (simp; done) | (simp [*]; done), by repeat (first | exact Drawn0.refl _ | apply Drawn0.step)⟩
            · rw [if_neg c7] at H
              exact absurd H (by simp)
          · rw [if_neg c6] at H
            exact absurd H (by simp)
        · rw [if_neg c5] at H
          have c5b0 : decide (x16_1 < (l0.length : Int)) = false := decide_eq_false c5
          clear c5
          replace H := Option.bind_eq_some_iff.mp H
          obtain ⟨t143, A140, H⟩ := H
          replace H : (if (l0.length : Int) ≥ t143 then (some (decide ((l0.length : Int) ≤ a2))) else (some false)) = some r := H
          have A14 := Aside0.mk A140
          clear A140
          by_cases c15 : (l0.length : Int) ≥ t143
          · rw [if_pos c15] at H
            have c15b0 : decide (t143 ≤ (l0.length : Int)) = true := decide_eq_true c15
            clear c15
            obtain rfl := Option.some.inj H
            go_wp2_with (first | ((with_reducible refine gate_callee (f := 56) rfl ?_); refine goesL_ (some 41) rfl rfl Try.func56 (by kernel_rfl) rfl #[.int .i64 a2] rfl (by (try simp only [List.map_toArray, List.map_cons, List.map_nil]); first | done | rfl | (simp only [List.length_drop, List.length_take]; rfl)) ?_; (with_reducible refine (seats_Quorum.calls a2 t143 _ A14.out).mono ?_); rintro e w' ⟨rfl, ⟨nd, rfl⟩⟩; refine ⟨_, rfl, ?_⟩))
            go_ret
            exact ⟨by first | rfl | (simp; done) | (simp [*]; done), by repeat (first | exact Drawn0.refl _ | apply Drawn0.step)⟩
          · rw [if_neg c15] at H
            have c15b0 : decide (t143 ≤ (l0.length : Int)) = false := decide_eq_false c15
            clear c15
            obtain rfl := Option.some.inj H
            go_wp2_with (first | ((with_reducible refine gate_callee (f := 56) rfl ?_); refine goesL_ (some 41) rfl rfl Try.func56 (by kernel_rfl) rfl #[.int .i64 a2] rfl (by (try simp only [List.map_toArray, List.map_cons, List.map_nil]); first | done | rfl | (simp only [List.length_drop, List.length_take]; rfl)) ?_; (with_reducible refine (seats_Quorum.calls a2 t143 _ A14.out).mono ?_); rintro e w' ⟨rfl, ⟨nd, rfl⟩⟩; refine ⟨_, rfl, ?_⟩))
            go_ret
            exact ⟨by first | rfl | (simp; done) | (simp [*]; done), by repeat (first | exact Drawn0.refl _ | apply Drawn0.step)⟩
end Go.Proofs.Ytfhjimeigelibaa.Px

namespace Go.Proofs.Ytfhjimeigelibaa.Px
open Go.RowKit Go.Proofs.YtfhjimeigelibaaW.PrintWords Go.Proofs.YtfhjimeigelibaaW.PrintLast Go.Proofs.YtfhjimeigelibaaW.PrintMore
attribute [local go_sem] max2_int min2_int max_two min_two max_three min_three max_four min_four
set_option linter.unusedVariables false
set_option linter.unusedSimpArgs false
def vertex_Third.f (a0 : Int) : Option (Bool) := if a0 ≥ 3 then (some ((Int.tmod a0 3) == 0)) else (some false)
set_option maxHeartbeats 8000000 in
set_option maxRecDepth 100000 in
theorem vertex_Third.calls (a0 : Int) (r : Bool) (w : World) (h : vertex_Third.f a0 = some r) :
    Calls Try.prog 24 #[.int .i64 a0] w fun e w' => e = .returned (.bool r) ∧ Drawn0 w w' := by
  have H : (if a0 ≥ 3 then (some ((Int.tmod a0 3) == 0)) else (some false)) = some r := h
  clear h
  by_cases c2 : a0 ≥ 3
  · rw [if_pos c2] at H
    have c2b0 : decide (3 ≤ a0) = true := decide_eq_true c2
    clear c2
    obtain rfl := Option.some.inj H
    go_enter Try.func24, Try.ntmps24
    go_wp2
    go_ret
    exact ⟨by first | rfl | (simp; done) | (simp [*]; done), by repeat (first | exact Drawn0.refl _ | apply Drawn0.step)⟩
  · rw [if_neg c2] at H
    have c2b0 : decide (3 ≤ a0) = false := decide_eq_false c2
    clear c2
    obtain rfl := Option.some.inj H
    go_enter Try.func24, Try.ntmps24
    go_wp2
    go_ret
    exact ⟨by first | rfl | (simp; done) | (simp [*]; done), by repeat (first | exact Drawn0.refl _ | apply Drawn0.step)⟩
end Go.Proofs.Ytfhjimeigelibaa.Px

namespace Go.Proofs.Ytfhjimeigelibaa.Px
open Go.RowKit Go.Proofs.YtfhjimeigelibaaW.PrintWords Go.Proofs.YtfhjimeigelibaaW.PrintLast Go.Proofs.YtfhjimeigelibaaW.PrintMore
attribute [local go_sem] max2_int min2_int max_two min_two max_three min_three max_four min_four
set_option linter.unusedVariables false
set_option linter.unusedSimpArgs false
mutual
def selvedgeref01_Less.l0 : Nat → ByteArray → ByteArray → Int → Option (Bool)
  | 0, _, _, _ => none
  | k + 1, x0, x1, x5 => if x5 < (x0.size : Int) then (selvedgeref01_Less.j1 k x0 x1 x5 (decide (x5 < (x1.size : Int)))) else (selvedgeref01_Less.j1 k x0 x1 x5 false)
def selvedgeref01_Less.j1 : Nat → ByteArray → ByteArray → Int → Bool → Option (Bool)
  | 0, _, _, _, _ => none
  | k + 1, x0, x1, x5, x15 => if x15 = true then (if 0 ≤ x5 then (if x5 < (x0.size : Int) then (if x5 < (x1.size : Int) then (if (bt x0 x5) = (bt x1 x5) then (selvedgeref01_Less.l0 k x0 x1 (wrap64 (x5 + 1))) else (some (decide ((bt x0 x5) < (bt x1 x5))))) else (none)) else (none)) else (none)) else (some (decide ((x0.size : Int) < (x1.size : Int))))
end
def selvedgeref01_Less.f (k : Nat) (a0 : ByteArray) (a1 : ByteArray) : Option (Bool) := selvedgeref01_Less.l0 k a0 a1 0
set_option maxHeartbeats 8000000 in
set_option maxRecDepth 100000 in
theorem selvedgeref01_Less.calls (k : Nat) (a0 : ByteArray) (a1 : ByteArray) (r : Bool) (w : World) (h : selvedgeref01_Less.f k a0 a1 = some r) :
    Calls Try.prog 52 #[.string a0, .string a1] w fun e w' => e = .returned (.bool r) ∧ Drawn0 w w' := by
  have H : (selvedgeref01_Less.l0 k a0 a1 0) = some r := h
  clear h
  have H' := Aside0.mk H
  clear H
  go_enter Try.func52, Try.ntmps52
  go_wp2
  repeat (go_quiet (fail); try go_wp2)
  go_loopg [5] k (fun kq v5 w' => ∃ (x5_1 : Int), v5 = .int .i64 x5_1 ∧ Aside0 (selvedgeref01_Less.l0 kq a0 a1 x5_1 = some r) ∧ Aside0 (kq ≤ k) ∧ Drawn0 w w')
  case atStart => exact ⟨(0), (by first | rfl | (simp; done) | (simp [*]; done)), H', ⟨Nat.le_refl _⟩, by repeat (first | exact Drawn0.refl _ | apply Drawn0.step)⟩
  case round =>
    clear H'
    try clear p2
    obtain ⟨x5_1, rfl, HA, HK1, ⟨m1, rfl⟩⟩ := hrel
    cases gk with
    | zero => exact absurd HA.out (by simp [selvedgeref01_Less.l0])
    | succ k1 =>
      have H := HA.out
      clear HA
      simp only [selvedgeref01_Less.l0] at H
      have HC3 := Aside0.mk H
      clear H
      go_upto_region 2 with (fail)
      repeat (go_quiet (fail); go_upto_region 2 with (fail))
      go_cut [15] (fun v15 wc => ∃ (kq : Nat) (x15_2 : Bool), v15 = .bool x15_2 ∧ Aside0 (selvedgeref01_Less.j1 kq a0 a1 x5_1 x15_2 = some r) ∧ Aside0 (kq ≤ k1) ∧ Drawn0 w wc)
      case first =>
        have H := HC3.out
        clear HC3
        by_cases c4 : x5_1 < (a0.size : Int)
        · rw [if_pos c4] at H
          have c4b0 : decide (x5_1 < (a0.size : Int)) = true := decide_eq_true c4
          clear c4
          (first | rw [c4b0] | (simp only [i64_w, i32_w]; rw [c4b0]) | skip)
          have H' := Aside0.mk H
          clear H
          go_wp2
          repeat (go_quiet (fail); try go_wp2)
          go_meet
          case rel => exact ⟨_, (decide (x5_1 < (a1.size : Int))), (by first | rfl | (simp; done) | (simp [*]; done)), H', ⟨by have := HK1.out; first | omega | exact Nat.le_refl _⟩, by repeat (first | exact Drawn0.refl _ | apply Drawn0.step)⟩
        · rw [if_neg c4] at H
          have c4b0 : decide (x5_1 < (a0.size : Int)) = false := decide_eq_false c4
          clear c4
          (first | rw [c4b0] | (simp only [i64_w, i32_w]; rw [c4b0]) | skip)
          have H' := Aside0.mk H
          clear H
          go_wp2
          repeat (go_quiet (fail); try go_wp2)
          go_meet
          case rel => exact ⟨_, (false), (by first | rfl | (simp; done) | (simp [*]; done)), H', ⟨by have := HK1.out; first | omega | exact Nat.le_refl _⟩, by repeat (first | exact Drawn0.refl _ | apply Drawn0.step)⟩
      case rest =>
        clear HC3
        try clear p2
        try clear c4
        try clear c4b0
        try clear p2
        obtain ⟨kq, x15_2, rfl, HA, HJ2, ⟨mc2, rfl⟩⟩ := hcut
        cases kq with
        | zero => exact absurd HA.out (by simp [selvedgeref01_Less.j1])
        | succ kj2 =>
          have H := HA.out
          clear HA
          simp only [selvedgeref01_Less.j1] at H
          by_cases c5 : x15_2 = true
          · subst c5
            have H1 : (if 0 ≤ x5_1 then (if x5_1 < (a0.size : Int) then (if x5_1 < (a1.size : Int) then (if (bt a0 x5_1) = (bt a1 x5_1) then (selvedgeref01_Less.l0 kj2 a0 a1 (wrap64 (x5_1 + 1))) else (some (decide ((bt a0 x5_1) < (bt a1 x5_1))))) else (none)) else (none)) else (none)) = some r := by rw [if_pos rfl] at H; exact H
            clear H
            have H := H1
            clear H1
            by_cases c6 : 0 ≤ x5_1
            · rw [if_pos c6] at H
              have c6b0 : decide (0 ≤ x5_1) = true := decide_eq_true c6
              clear c6
              by_cases c7 : x5_1 < (a0.size : Int)
              · rw [if_pos c7] at H
                have c7b0 : decide (x5_1 < (a0.size : Int)) = true := decide_eq_true c7
                clear c7
                by_cases c9 : x5_1 < (a1.size : Int)
                · rw [if_pos c9] at H
                  have c9b0 : decide (x5_1 < (a1.size : Int)) = true := decide_eq_true c9
                  clear c9
                  by_cases c11 : (bt a0 x5_1) = (bt a1 x5_1)
                  · rw [if_pos c11] at H
                    have c11b0 : ((bt a0 x5_1) == (bt a1 x5_1)) = true := beq_iff_eq.mpr c11
                    have c11b1 : ((bt a0 x5_1) != (bt a1 x5_1)) = false := bne_eq_false_iff_eq.mpr c11
                    clear c11
                    have H' := Aside0.mk H
                    clear H
                    have p8 : 0 ≤ (x5_1 : Int) := of_decide_eq_true (by first | (with_reducible assumption) | assumption)
                    have q8 : x5_1 < (a0.size : Int) := of_decide_eq_true (by first | (with_reducible assumption) | assumption)
                    have hx8 := bt_at a0 x5_1
                    replace p8 := eq_true p8
                    replace q8 := eq_true q8
                    have p10 : 0 ≤ (x5_1 : Int) := of_decide_eq_true (by first | (with_reducible assumption) | assumption)
                    have q10 : x5_1 < (a1.size : Int) := of_decide_eq_true (by first | (with_reducible assumption) | assumption)
                    have hx10 := bt_at a1 x5_1
                    replace p10 := eq_true p10
                    replace q10 := eq_true q10
                    go_wp2
                    repeat (go_quiet (fail); try go_wp2)
                    go_roundg kj2
                    case measure => have := HK1.out; have := HJ2.out; omega
                    case rel => exact ⟨(wrap64 (x5_1 + 1)), (by first | rfl | (simp; done) | (simp [*]; done)), H', ⟨by have := HK1.out; have := HJ2.out; omega⟩, by repeat (first | exact Drawn0.refl _ | apply Drawn0.step)⟩
                  · rw [if_neg c11] at H
                    have c11b0 : ((bt a0 x5_1) == (bt a1 x5_1)) = false := beq_eq_false_iff_ne.mpr c11
                    have c11b1 : ((bt a0 x5_1) != (bt a1 x5_1)) = true := bne_iff_ne.mpr c11
                    obtain rfl := Option.some.inj H
                    have p8 : 0 ≤ (x5_1 : Int) := of_decide_eq_true (by first | (with_reducible assumption) | assumption)
                    have q8 : x5_1 < (a0.size : Int) := of_decide_eq_true (by first | (with_reducible assumption) | assumption)
                    have hx8 := bt_at a0 x5_1
                    replace p8 := eq_true p8
                    replace q8 := eq_true q8
                    have p10 : 0 ≤ (x5_1 : Int) := of_decide_eq_true (by first | (with_reducible assumption) | assumption)
                    have q10 : x5_1 < (a1.size : Int) := of_decide_eq_true (by first | (with_reducible assumption) | assumption)
                    have hx10 := bt_at a1 x5_1
                    replace p10 := eq_true p10
                    replace q10 := eq_true q10
                    have p12 : 0 ≤ (x5_1 : Int) := of_decide_eq_true (by first | (with_reducible assumption) | assumption)
                    have q12 : x5_1 < (a0.size : Int) := of_decide_eq_true (by first | (with_reducible assumption) | assumption)
                    have hx12 := bt_at a0 x5_1
                    replace p12 := eq_true p12
                    replace q12 := eq_true q12
                    have p13 : 0 ≤ (x5_1 : Int) := of_decide_eq_true (by first | (with_reducible assumption) | assumption)
                    have q13 : x5_1 < (a1.size : Int) := of_decide_eq_true (by first | (with_reducible assumption) | assumption)
                    have hx13 := bt_at a1 x5_1
                    replace p13 := eq_true p13
                    replace q13 := eq_true q13
                    go_wp2
                    repeat (go_quiet (fail); try go_wp2)
                    go_ret
                    exact ⟨by first | rfl | (simp; done) | (simp [*]; done), by repeat (first | exact Drawn0.refl _ | apply Drawn0.step)⟩
                · rw [if_neg c9] at H
                  exact absurd H (by simp)
              · rw [if_neg c7] at H
                exact absurd H (by simp)
            · rw [if_neg c6] at H
              exact absurd H (by simp)
          · replace c5 := Bool.eq_false_iff.mpr c5
            subst c5
            have H1 : (some (decide ((a0.size : Int) < (a1.size : Int)))) = some r := by rw [if_neg (show ¬ (false = true) by decide)] at H; exact H
            clear H
            have H := H1
            clear H1
            obtain rfl := Option.some.inj H
            go_wp2
            repeat (go_quiet (fail); try go_wp2)
            go_ret
            exact ⟨by first | rfl | (simp; done) | (simp [*]; done), by repeat (first | exact Drawn0.refl _ | apply Drawn0.step)⟩
end Go.Proofs.Ytfhjimeigelibaa.Px

namespace Go.Proofs.Ytfhjimeigelibaa.Px
open Go.RowKit Go.Proofs.YtfhjimeigelibaaW.PrintWords Go.Proofs.YtfhjimeigelibaaW.PrintLast Go.Proofs.YtfhjimeigelibaaW.PrintMore
attribute [local go_sem] max2_int min2_int max_two min_two max_three min_three max_four min_four
set_option linter.unusedVariables false
set_option linter.unusedSimpArgs false
def lessL : Bs → Bs → Bool
  | [], b => !b.isEmpty
  | _ :: _, [] => false
  | x :: xs, y :: ys => if x = y then lessL xs ys else decide (x.toNat < y.toNat)
theorem bt_toB (l : Bs) (j : Nat) : bt (toB l) (j : Int) = ((l.getD j 0).toNat : Int) := by rw [bt_ofB, ofB_toB]
theorem drop_getD (l : Bs) (j : Nat) (h : j < l.length) : l.drop j = l.getD j 0 :: l.drop (j + 1) := by
  rw [List.drop_eq_getElem_cons h, List.getD_eq_getElem?_getD, List.getElem?_eq_getElem h]; rfl
theorem less_loop (a b : Bs) (ha : a.length < 4611686018427387904) (d : Nat) : ∀ j, j + d = a.length →
    Ev (fun k => selvedgeref01_Less.l0 k (toB a) (toB b) (j : Int)) (lessL (a.drop j) (b.drop j)) := by
  induction d with
  | zero =>
    intro j hj
    have e : a.drop j = [] := List.drop_eq_nil_of_le (by omega)
    refine Ev.step (fun k => by rw [selvedgeref01_Less.l0]) ?_
    refine ev_neg (by rw [toB_size]; omega) (Ev.step (fun k => by rw [selvedgeref01_Less.j1]) ?_)
    refine ev_neg (by simp) (ev_eq (Ev.now _) ?_)
    rw [e, lessL, toB_size, toB_size]
    by_cases h : j < b.length
    · rw [drop_getD b j h]; simp; omega
    · rw [List.drop_eq_nil_of_le (by omega)]; simp; omega
  | succ d ih =>
    intro j hj
    have e := drop_getD a j (by omega)
    refine Ev.step (fun k => by rw [selvedgeref01_Less.l0]) ?_
    refine ev_pos (by rw [toB_size]; omega) (Ev.step (fun k => by rw [selvedgeref01_Less.j1]) ?_)
    by_cases h : j < b.length
    · have f := drop_getD b j h
      refine ev_pos (by rw [toB_size]; simp; omega) (ev_pos (by omega) (ev_pos (by rw [toB_size]; omega) (ev_pos (by rw [toB_size]; omega) ?_)))
      rw [bt_toB, bt_toB, wrap64_of (by omega) (by omega), e, f, lessL]
      by_cases hx : a.getD j 0 = b.getD j 0
      · rw [if_pos hx]
        exact ev_pos (by rw [hx]) (ih (j + 1) (by omega))
      · rw [if_neg hx]
        exact ev_neg (fun h => hx (UInt8.toNat_inj.1 (by omega))) (ev_eq (Ev.now _) (by simp))
    · have f : b.drop j = [] := List.drop_eq_nil_of_le (by omega)
      refine ev_neg (by rw [toB_size]; simp; omega) (ev_eq (Ev.now _) ?_)
      rw [e, f, lessL, toB_size, toB_size]
      simp; omega
theorem less_ev (a b : ByteArray) (ha : a.size < 4611686018427387904) : Ev (fun k => selvedgeref01_Less.f k a b) (lessL (ofB a) (ofB b)) := by
  have h := less_loop (ofB a) (ofB b) (by rw [ofB_length]; exact ha) (ofB a).length 0 (by omega)
  rw [toB_ofB, toB_ofB] at h
  exact h
end Go.Proofs.Ytfhjimeigelibaa.Px

namespace Go.Proofs.Ytfhjimeigelibaa.Px
open Go.RowKit Go.Proofs.YtfhjimeigelibaaW.PrintWords Go.Proofs.YtfhjimeigelibaaW.PrintLast Go.Proofs.YtfhjimeigelibaaW.PrintMore
attribute [local go_sem] max2_int min2_int max_two min_two max_three min_three max_four min_four
set_option linter.unusedVariables false
set_option linter.unusedSimpArgs false
theorem bytesLess_lessL : ∀ a b : Bs, Op.bytesLess a b = lessL a b
  | [], [] => rfl
  | [], _ :: _ => rfl
  | _ :: _, [] => rfl
  | x :: xs, y :: ys => by
    rw [Op.bytesLess, lessL, bytesLess_lessL xs ys]
    by_cases h : x = y
    · subst h; simp
    · rw [if_neg h]
      have hn : x.toNat ≠ y.toNat := fun e => h (UInt8.toNat_inj.1 e)
      by_cases h1 : x < y
      · have := UInt8.lt_iff_toNat_lt.1 h1
        simp [h1, this]
      · have h2 : ¬ x.toNat < y.toNat := fun e => h1 (UInt8.lt_iff_toNat_lt.2 e)
        have h3 : y < x := UInt8.lt_iff_toNat_lt.2 (by omega)
        simp [h1, h2]
        exact fun e => absurd e h
def mayN (n : Int) : Bool := decide (4 ≤ n) && decide (n ≤ 64) && decide (n % 3 = 1)
theorem seats_May_of (n : Int) : seats_May.f n = some (mayN n) := by
  unfold seats_May.f mayN
  by_cases h : n ≥ 4
  · rw [if_pos h]
    by_cases h1 : n ≤ 64
    · rw [if_pos h1, Int.tmod_eq_emod_of_nonneg (by omega)]
      by_cases h2 : n % 3 = 1
      · simp [h1, h2]; omega
      · simp [h2]
    · rw [if_neg h1]; simp [h1]
  · rw [if_neg h]
    have : ¬ 4 ≤ n := by omega
    simp [this]
theorem mayN_iff (n : Int) : mayN n = true ↔ 4 ≤ n ∧ n ≤ 64 ∧ n % 3 = 1 := by
  unfold mayN; simp [and_assoc]
def quorumN (n : Int) : Int := if mayN n = true then n - (n - 1) / 3 else 0
theorem seats_Quorum_of (n : Int) : seats_Quorum.f n = some (quorumN n) := by
  unfold seats_Quorum.f seats_Faults.f quorumN
  rw [seats_May_of]
  simp only [Option.bind_some]
  by_cases h : mayN n = true
  · rw [if_pos h, if_pos h, if_pos h]
    obtain ⟨h1, h2, h3⟩ := (mayN_iff n).1 h
    simp only [Option.bind_some]
    rw [wrap64_of (x := n - 1) (by omega) (by omega), Int.tdiv_eq_ediv_of_nonneg (by omega), wrap64_of (x := (n - 1) / 3) (by omega) (by omega), wrap64_of (by omega) (by omega)]
  · rw [if_neg h, if_neg h]
def mayE (a b : Int) : Bool := decide (0 ≤ a) && decide (a < 10007) && decide (0 ≤ b) && decide (b < 10007)
theorem mayE_iff (a b : Int) : mayE a b = true ↔ 0 ≤ a ∧ a < 10007 ∧ 0 ≤ b ∧ b < 10007 := by
  unfold mayE; simp [and_assoc]
theorem gauss_May_of (a b : Int) : gauss_May.f a b = some (mayE a b) := by
  unfold gauss_May.f mayE
  by_cases h1 : 0 ≤ a <;> by_cases h2 : a < 10007 <;> by_cases h3 : 0 ≤ b <;> simp [h1, h2, h3]
def thirdR (r : Int) : Bool := decide (3 ≤ r) && decide (r % 3 = 0)
theorem vertex_Third_of (r : Int) : vertex_Third.f r = some (thirdR r) := by
  unfold vertex_Third.f thirdR
  by_cases h : r ≥ 3
  · rw [if_pos h, Int.tmod_eq_emod_of_nonneg (by omega)]
    have : 3 ≤ r := h
    by_cases h2 : r % 3 = 0 <;> simp [this, h2]
  · rw [if_neg h]
    have : ¬ 3 ≤ r := by omega
    simp [this]
def upAt (l : List ByteArray) (j : Nat) : Bool := decide ((l.getD j ByteArray.empty).size = 32) && (decide (j = 0) || lessL (ofB (l.getD (j - 1) ByteArray.empty)) (ofB (l.getD j ByteArray.empty)))
def upFrom (l : List ByteArray) : Nat → Nat → Bool
  | 0, _ => true
  | d + 1, j => upAt l j && upFrom l d (j + 1)
def parentsB (l : List ByteArray) (r n : Int) : Bool :=
  if r = 1 then decide (l.length = 0) else upFrom l l.length 0 && decide (quorumN n ≤ l.length) && decide ((l.length : Int) ≤ n)
theorem parents_loop (l : List ByteArray) (n : Int) (hl : l.length ≤ 9223372036854775807) (d : Nat) : ∀ j, j + d = l.length →
    Ev (fun k => vertex_parents.l0 k l n l (l.length : Int) (j : Int)) (upFrom l d j && decide (quorumN n ≤ l.length) && decide ((l.length : Int) ≤ n)) := by
  induction d with
  | zero =>
    intro j hj
    refine Ev.step (fun k => by rw [vertex_parents.l0]) ?_
    refine ev_neg (by omega) (ev_bind_const (seats_Quorum_of n) ?_)
    by_cases h : quorumN n ≤ l.length
    · exact ev_pos h (ev_eq (Ev.now _) (by simp [upFrom, h]))
    · exact ev_neg h (ev_eq (Ev.now _) (by simp [upFrom, h]))
  | succ d ih =>
    intro j hj
    refine Ev.step (fun k => by rw [vertex_parents.l0]) ?_
    refine ev_pos (by omega) (ev_pos (by omega) (ev_pos (by omega) ?_))
    have e1 : rdOf ByteArray.empty l (j : Int) = l.getD j ByteArray.empty := by rw [rdOf, Int.toNat_natCast]
    rw [e1]
    by_cases h : (l.getD j ByteArray.empty).size = 32
    · refine ev_pos (by omega) ?_
      rw [wrap64_of (x := (j : Int) + 1) (by omega) (by omega)]
      by_cases h0 : j = 0
      · subst h0
        refine ev_neg (by omega) (ev_eq (ih 1 (by omega)) ?_)
        simp only [upFrom, upAt, h]; simp
      · refine ev_pos (by omega) ?_
        have e2 : wrap64 ((j : Int) - 1) = ((j - 1 : Nat) : Int) := by rw [wrap64_of (by omega) (by omega)]; omega
        rw [e2]
        refine ev_pos (by omega) (ev_pos (by omega) ?_)
        have e3 : rdOf ByteArray.empty l ((j - 1 : Nat) : Int) = l.getD (j - 1) ByteArray.empty := by rw [rdOf, Int.toNat_natCast]
        rw [e3, toList_ofB, toList_ofB, bytesLess_lessL]
        by_cases h2 : lessL (ofB (l.getD (j - 1) ByteArray.empty)) (ofB (l.getD j ByteArray.empty)) = true
        · refine ev_pos h2 (ev_eq (ih (j + 1) (by omega)) ?_)
          simp only [upFrom, upAt, h, h2]; simp
        · refine ev_neg h2 (ev_eq (Ev.now _) ?_)
          rw [Bool.not_eq_true] at h2
          simp only [upFrom, upAt, h, h0, h2]; simp
    · refine ev_neg (by omega) (ev_eq (Ev.now _) ?_)
      simp only [upFrom, upAt, h]; simp
theorem parents_ev (l : List ByteArray) (r n : Int) (hl : l.length ≤ 9223372036854775807) : Ev (fun k => vertex_parents.f k l r n) (parentsB l r n) := by
  unfold parentsB
  by_cases h : r = 1
  · rw [if_pos h]
    refine ev_pos h (ev_eq (Ev.now _) ?_)
    by_cases h0 : l.length = 0 <;> simp [h0]
  · rw [if_neg h]
    exact ev_neg h (parents_loop l n hl l.length 0 (by omega))
end Go.Proofs.Ytfhjimeigelibaa.Px

namespace Go.Proofs.Ytfhjimeigelibaa.Px
open Go.RowKit Go.Proofs.YtfhjimeigelibaaW.PrintWords Go.Proofs.YtfhjimeigelibaaW.PrintLast Go.Proofs.YtfhjimeigelibaaW.PrintMore
attribute [local go_sem] max2_int min2_int max_two min_two max_three min_three max_four min_four
set_option linter.unusedVariables false
set_option linter.unusedSimpArgs false
def oddB (n : Int) (b : S24) : Bool := !mayB b.f0 b.f1 b.f2 || decide (n < b.f0)
theorem vertex_May.odd (n : Int) (g : Nat) (a0 a1 : Int) (A : Option Addr) (c : Nat) (l : List ByteArray) (w : World) (hr : Kd.C Kd.string w A l.length l) (hc : l.length ≤ c)
    (hn : w.heap[g]? = some (.cells #[.int .i64 n] 3 (0, 0))) :
    Calls Try.prog 35 #[.agg #[.int .i64 a0, .int .i64 a1, .slice A l.length c], .pointer (some ⟨g, 0, none⟩)] w fun e w' => e = .returned (.bool (oddB n ⟨a0, a1, l⟩)) ∧ Below w.heap.size w w' := by
  have HR := Aside0.mk hr
  have HC := Aside0.mk hc
  have HN := Aside0.mk hn
  clear hr hc hn
  rcases hm : mayB a0 a1 l with _ | _
  · have HO : Aside0 (oddB n ⟨a0, a1, l⟩ = true) := ⟨by simp [oddB, hm]⟩
    have HM := Aside0.mk hm
    clear hm
    go_enter Try.func35, Try.ntmps35
    go_wp2_with (first
      | ((with_reducible refine gate_dst (N := 2) rfl ?_); refine box_event ?hg (N := 2) ?hd (cs := #[.int .i64 a0, .int .i64 a1, .slice A l.length c]) (t := 24) ?hr ?_; (case hd => rfl); (case hg => rfl); (case hr => first | (go_simp; done) | (go_simp; rfl)); intro gb hg w2 hbox hb; have BK := Aside0.mk hbox; have HB := Aside0.mk hb; clear hb hbox hg; have hz0 := (blk_cell BK.out 0).trans rfl; have hz1 := (blk_cell BK.out 1).trans rfl; have hz2 := (blk_cell BK.out 2).trans rfl; have hf0 := blk_frozen BK.out 0; have hf1 := blk_frozen BK.out 1; have hf2 := blk_frozen BK.out 2)
      | (go_at_call 17; (with_reducible refine (batch_May.calls a0 a1 _ _ l _ _ (Kd.C_below HR.out HB.out) HC.out rfl).mono ?_); rintro e w3 ⟨rfl, hb⟩; rw [HM.out]; have HB3 := Aside0.mk (below_step HB.out hb); clear hb))
    go_ret
    exact ⟨by rw [HO.out]; rfl, HB3.out⟩
  · have HO : Aside0 (oddB n ⟨a0, a1, l⟩ = decide (n < a0)) := ⟨by simp [oddB, hm]⟩
    have HM := Aside0.mk hm
    clear hm
    go_enter Try.func35, Try.ntmps35
    go_wp2_with (first
      | ((with_reducible refine gate_dst (N := 2) rfl ?_); refine box_event ?hg (N := 2) ?hd (cs := #[.int .i64 a0, .int .i64 a1, .slice A l.length c]) (t := 24) ?hr ?_; (case hd => rfl); (case hg => rfl); (case hr => first | (go_simp; done) | (go_simp; rfl)); intro gb hg w2 hbox hb; have BK := Aside0.mk hbox; have HB := Aside0.mk hb; clear hb hbox hg; have hz0 := (blk_cell BK.out 0).trans rfl; have hz1 := (blk_cell BK.out 1).trans rfl; have hz2 := (blk_cell BK.out 2).trans rfl; have hf0 := blk_frozen BK.out 0; have hf1 := blk_frozen BK.out 1; have hf2 := blk_frozen BK.out 2)
      | (go_at_call 17; (with_reducible refine (batch_May.calls a0 a1 _ _ l _ _ (Kd.C_below HR.out HB.out) HC.out rfl).mono ?_); rintro e w3 ⟨rfl, hb⟩; rw [HM.out]; have HB3 := Aside0.mk (below_step HB.out hb); have BK3 := Aside0.mk (blk_below BK.out hb); have BN3 := Aside0.mk (blk_below HN.out HB3.out); clear hb; have hy0 := (blk_cell BK3.out 0).trans rfl; have hyf := blk_frozen BK3.out 0; have hn0 := (blk_cell BN3.out 0).trans rfl; have hnf := blk_frozen BN3.out 0))
    go_ret
    exact ⟨by rw [HO.out]; rfl, HB3.out⟩
theorem vertex_May.idx (n : Int) (g : Nat) (A : Option Addr) (c : Nat) (l : List S24) (w : World) (hr : Kd.C k24 w A l.length l) (hc : l.length ≤ c)
    (hn : w.heap[g]? = some (.cells #[.int .i64 n] 3 (0, 0))) :
    Calls Try.prog 55 #[.slice A l.length c, .func (.func 35) #[] #[.pointer (some ⟨g, 0, none⟩)]] w fun e w' => e = .returned (.int .i64 (idxF (oddB n) l)) ∧ Below w.heap.size w w' := by
  have hm := hr.2.1
  have HR := Aside0.mk hr
  have HN := Aside0.mk hn
  clear hr hn
  go_enter Try.func55, Try.ntmps55
  go_wp2_with fail
  have HB0 := Aside0.mk (Below.refl w.heap.size w)
  go_loopw [5, 8] (fun v5 v8 wr => ∃ k : Nat, v8 = .int .i64 k ∧ k ≤ l.length ∧ Aside0 (∀ (j : Nat) (y : S24), j < k → l[j]? = some y → oddB n y = false) ∧ Aside0 (Below w.heap.size w wr)) (fun _ v8 _ => l.length - (match v8 with | .int _ q => q | _ => 0).toNat)
  case atStart => exact ⟨0, rfl, Nat.zero_le _, ⟨fun j y hj => absurd hj (Nat.not_lt_zero _)⟩, ⟨by repeat (first | (with_reducible first | exact HB0.out | apply below_alloc | apply pw_below_drewN | apply below_drew1) | exact HB0.out)⟩⟩
  case round =>
    obtain ⟨k, rfl, hk, HF, HB⟩ := hrel
    by_cases hlt : k < l.length
    · obtain ⟨ad, A2, c2, rfl, hx0, hx1, hx2, hl2, hi2⟩ := at_T24 HR.out (k : Int) (by omega) (by omega)
      replace hx0 := (HB.out.cell (World.block_lt_of_cell? w _ hx0)).trans hx0
      replace hx1 := (HB.out.cell (World.block_lt_of_cell? w _ hx1)).trans hx1
      replace hx2 := (HB.out.cell (World.block_lt_of_cell? w _ hx2)).trans hx2
      rw [Int.toNat_natCast] at hx0 hx1 hx2
      have hb : decide (k < l.length) = true := decide_eq_true hlt
      have hx : l[k]? = some (rd_T24 l (k : Int)) := by
        rw [rd_T24, Int.toNat_natCast, List.getD_eq_getElem?_getD, List.getElem?_eq_getElem hlt]; rfl
      have HX := Aside0.mk hx
      have HL2 := Aside0.mk hl2
      have HI2 := Aside0.mk (Kd.C_below hi2 HB.out)
      have HNW := Aside0.mk (blk_below HN.out HB.out)
      clear hx hl2 hi2
      generalize rd_T24 l (k : Int) = s at *
      obtain ⟨s0, s1, s2⟩ := s
      rcases ho : oddB n ⟨s0, s1, s2⟩ with _ | _
      · have HO := Aside0.mk ho
        clear ho
        go_wp2_with (go_at_call 35; (with_reducible refine (vertex_May.odd n g s0 s1 _ _ s2 _ HI2.out HL2.out HNW.out).mono ?_); rintro e w1 ⟨rfl, hb1⟩; rw [HO.out]; have HB1 := Aside0.mk (below_step HB.out hb1); clear hb1)
        go_roundw
        case rel =>
          refine ⟨k + 1, by go_num, by omega, ⟨fun j y hj hy => ?_⟩, HB1⟩
          rcases Nat.lt_succ_iff_lt_or_eq.1 hj with h | h
          · exact HF.out j y h hy
          · subst h
            rw [HX.out] at hy
            injection hy with hy
            subst hy
            exact HO.out
        case measure => simp; omega
      · have HO := Aside0.mk ho
        clear ho
        go_wp2_with (go_at_call 35; (with_reducible refine (vertex_May.odd n g s0 s1 _ _ s2 _ HI2.out HL2.out HNW.out).mono ?_); rintro e w1 ⟨rfl, hb1⟩; rw [HO.out]; have HB1 := Aside0.mk (below_step HB.out hb1); clear hb1)
        go_ret
        exact ⟨by rw [idxF_hit HX.out HO.out HF.out]; rfl, HB1.out⟩
    · obtain rfl : k = l.length := by omega
      go_wp2_with fail
      go_ret
      exact ⟨by rw [idxF_none (fun j y hy => HF.out j y (List.getElem?_eq_some_iff.1 hy).1 hy)]; rfl, HB.out⟩
theorem vertex_May.contains (n : Int) (g : Nat) (A : Option Addr) (c : Nat) (l : List S24) (w : World) (hr : Kd.C k24 w A l.length l) (hc : l.length ≤ c)
    (hn : w.heap[g]? = some (.cells #[.int .i64 n] 3 (0, 0))) :
    Calls Try.prog 37 #[.slice A l.length c, .func (.func 35) #[] #[.pointer (some ⟨g, 0, none⟩)]] w fun e w' => e = .returned (.bool (l.any (oddB n))) ∧ Below w.heap.size w w' := by
  have HR := Aside0.mk hr
  have HC := Aside0.mk hc
  have HN := Aside0.mk hn
  clear hr hc hn
  have HA := Aside0.mk (idxF_any (oddB n) l)
  go_enter Try.func37, Try.ntmps37
  go_wp2_with (go_at_call 55; (with_reducible refine (vertex_May.idx n g _ _ l _ HR.out HC.out HN.out).mono ?_); rintro e w1 ⟨rfl, hb1⟩; have HB1 := Aside0.mk hb1; clear hb1)
  go_ret
  exact ⟨by rw [← HA.out]; rfl, HB1.out⟩
def mayV (a r : Int) (bs : List S24) (ps : List ByteArray) (x y n : Int) : Bool :=
  mayN n && decide (1 ≤ a) && decide (a ≤ n) && decide (1 ≤ r) && decide (r ≤ 1048576) && decide (bs.length ≤ 4) && !bs.any (oddB n) && mayE x y && (thirdR r || (decide (x = 0) && decide (y = 0))) && parentsB ps r n
def vertex_May.f (a0_0 : Int) (a0_1 : Int) (l0_2 : List S24) (l0_3 : List ByteArray) (a0_4 : Int) (a0_5 : Int) (a1 : Int) : Option (Bool) := some (mayV a0_0 a0_1 l0_2 l0_3 a0_4 a0_5 a1)
set_option maxHeartbeats 4000000 in
set_option maxRecDepth 100000 in
theorem vertex_May.walk (a r : Int) (A2 : Option Addr) (c2 : Nat) (bs : List S24) (A3 : Option Addr) (c3 : Nat) (ps : List ByteArray) (x y n : Int) (w : World) (hr2 : Kd.C k24 w A2 bs.length bs) (hc2 : bs.length ≤ c2) (hr3 : Kd.C Kd.string w A3 ps.length ps) (hc3 : ps.length ≤ c3) :
    Calls Try.prog 16 #[.agg #[.int .i64 a, .int .i64 r, .slice A2 bs.length c2, .slice A3 ps.length c3, .int .i64 x, .int .i64 y], .int .i64 n] w fun e w' => e = .returned (.bool (mayV a r bs ps x y n)) ∧ Below w.heap.size w w' := by
  obtain ⟨N, hN⟩ := parents_ev ps r n hr3.2.1
  have HP := Aside0.mk (hN N (Nat.le_refl _))
  have HR2 := Aside0.mk hr2
  have HC2 := Aside0.mk hc2
  have HR3 := Aside0.mk hr3
  have HC3 := Aside0.mk hc3
  clear hr2 hc2 hr3 hc3 hN
  rcases hm : mayN n with _ | _
  · have HM := Aside0.mk hm
    have HE : Aside0 (mayV a r bs ps x y n = false) := ⟨by simp only [mayV, hm]; simp⟩
    clear hm
    go_enter Try.func16, Try.ntmps16
    go_wp2_with (first
      | ((with_reducible refine gate_dst (N := 2) rfl ?_); refine box_event ?hg (N := 2) ?hd (cs := #[.int .i64 a, .int .i64 r, .slice A2 bs.length c2, .slice A3 ps.length c3, .int .i64 x, .int .i64 y]) (t := 38) ?hr ?_; (case hd => rfl); (case hg => rfl); (case hr => first | (go_simp; done) | (go_simp; rfl)); intro gv hg w2 hbox hb; have BV := Aside0.mk hbox; have HB2 := Aside0.mk hb; clear hb hbox hg; have hv0 := (blk_cell BV.out 0).trans rfl; have fv0 := blk_frozen BV.out 0; have hv1 := (blk_cell BV.out 1).trans rfl; have fv1 := blk_frozen BV.out 1; have hv2 := (blk_cell BV.out 2).trans rfl; have fv2 := blk_frozen BV.out 2; have hv3 := (blk_cell BV.out 3).trans rfl; have fv3 := blk_frozen BV.out 3; have hv4 := (blk_cell BV.out 4).trans rfl; have fv4 := blk_frozen BV.out 4; have hv5 := (blk_cell BV.out 5).trans rfl; have fv5 := blk_frozen BV.out 5)
      | ((with_reducible refine gate_dst (N := 3) rfl ?_); refine box_event ?hg (N := 3) ?hd (cs := #[.int .i64 n]) (t := 3) ?hr ?_; (case hd => rfl); (case hg => rfl); (case hr => first | (go_simp; done) | (go_simp; rfl)); intro gn hg w3 hbox hb; have BN := Aside0.mk hbox; have BV3 := Aside0.mk (blk_below BV.out hb); have HB3 := Aside0.mk (below_step HB2.out hb); clear hb hbox hg; have hn0 := (blk_cell BN.out 0).trans rfl; have fn0 := blk_frozen BN.out 0; have hu0 := (blk_cell BV3.out 0).trans rfl; have fu0 := blk_frozen BV3.out 0; have hu1 := (blk_cell BV3.out 1).trans rfl; have fu1 := blk_frozen BV3.out 1; have hu2 := (blk_cell BV3.out 2).trans rfl; have fu2 := blk_frozen BV3.out 2; have hu3 := (blk_cell BV3.out 3).trans rfl; have fu3 := blk_frozen BV3.out 3; have hu4 := (blk_cell BV3.out 4).trans rfl; have fu4 := blk_frozen BV3.out 4; have hu5 := (blk_cell BV3.out 5).trans rfl; have fu5 := blk_frozen BV3.out 5)
      | (go_at_call 36; (with_reducible refine (seats_May.calls n _ _ (seats_May_of n)).mono ?_); rintro e w1 ⟨rfl, ⟨nd, rfl⟩⟩; rw [HM.out]))
    go_ret
    exact ⟨by rw [HE.out]; rfl, by repeat (first | exact HB3.out | apply pw_below_drewN)⟩
  have HM := Aside0.mk hm
  by_cases h1 : a < 1
  · have h1d : decide (a < 1) = true := decide_eq_true h1
    have h1e : decide (1 ≤ a) = false := decide_eq_false (by omega)
    have HE : Aside0 (mayV a r bs ps x y n = false) := ⟨by simp only [mayV, h1e]; simp⟩
    clear hm h1 h1e
    go_enter Try.func16, Try.ntmps16
    go_wp2_with (first
      | ((with_reducible refine gate_dst (N := 2) rfl ?_); refine box_event ?hg (N := 2) ?hd (cs := #[.int .i64 a, .int .i64 r, .slice A2 bs.length c2, .slice A3 ps.length c3, .int .i64 x, .int .i64 y]) (t := 38) ?hr ?_; (case hd => rfl); (case hg => rfl); (case hr => first | (go_simp; done) | (go_simp; rfl)); intro gv hg w2 hbox hb; have BV := Aside0.mk hbox; have HB2 := Aside0.mk hb; clear hb hbox hg; have hv0 := (blk_cell BV.out 0).trans rfl; have fv0 := blk_frozen BV.out 0; have hv1 := (blk_cell BV.out 1).trans rfl; have fv1 := blk_frozen BV.out 1; have hv2 := (blk_cell BV.out 2).trans rfl; have fv2 := blk_frozen BV.out 2; have hv3 := (blk_cell BV.out 3).trans rfl; have fv3 := blk_frozen BV.out 3; have hv4 := (blk_cell BV.out 4).trans rfl; have fv4 := blk_frozen BV.out 4; have hv5 := (blk_cell BV.out 5).trans rfl; have fv5 := blk_frozen BV.out 5)
      | ((with_reducible refine gate_dst (N := 3) rfl ?_); refine box_event ?hg (N := 3) ?hd (cs := #[.int .i64 n]) (t := 3) ?hr ?_; (case hd => rfl); (case hg => rfl); (case hr => first | (go_simp; done) | (go_simp; rfl)); intro gn hg w3 hbox hb; have BN := Aside0.mk hbox; have BV3 := Aside0.mk (blk_below BV.out hb); have HB3 := Aside0.mk (below_step HB2.out hb); clear hb hbox hg; have hn0 := (blk_cell BN.out 0).trans rfl; have fn0 := blk_frozen BN.out 0; have hu0 := (blk_cell BV3.out 0).trans rfl; have fu0 := blk_frozen BV3.out 0; have hu1 := (blk_cell BV3.out 1).trans rfl; have fu1 := blk_frozen BV3.out 1; have hu2 := (blk_cell BV3.out 2).trans rfl; have fu2 := blk_frozen BV3.out 2; have hu3 := (blk_cell BV3.out 3).trans rfl; have fu3 := blk_frozen BV3.out 3; have hu4 := (blk_cell BV3.out 4).trans rfl; have fu4 := blk_frozen BV3.out 4; have hu5 := (blk_cell BV3.out 5).trans rfl; have fu5 := blk_frozen BV3.out 5)
      | (go_at_call 36; (with_reducible refine (seats_May.calls n _ _ (seats_May_of n)).mono ?_); rintro e w1 ⟨rfl, ⟨nd, rfl⟩⟩; rw [HM.out]))
    go_ret
    exact ⟨by rw [HE.out]; rfl, by repeat (first | exact HB3.out | apply pw_below_drewN)⟩
  have h1d : decide (a < 1) = false := decide_eq_false h1
  have h1e : decide (1 ≤ a) = true := decide_eq_true (by omega)
  clear h1
  by_cases h2 : n < a
  · have h2d : decide (n < a) = true := decide_eq_true h2
    have h2e : decide (a ≤ n) = false := decide_eq_false (by omega)
    have HE : Aside0 (mayV a r bs ps x y n = false) := ⟨by simp only [mayV, h2e]; simp⟩
    clear hm h2 h2e
    go_enter Try.func16, Try.ntmps16
    go_wp2_with (first
      | ((with_reducible refine gate_dst (N := 2) rfl ?_); refine box_event ?hg (N := 2) ?hd (cs := #[.int .i64 a, .int .i64 r, .slice A2 bs.length c2, .slice A3 ps.length c3, .int .i64 x, .int .i64 y]) (t := 38) ?hr ?_; (case hd => rfl); (case hg => rfl); (case hr => first | (go_simp; done) | (go_simp; rfl)); intro gv hg w2 hbox hb; have BV := Aside0.mk hbox; have HB2 := Aside0.mk hb; clear hb hbox hg; have hv0 := (blk_cell BV.out 0).trans rfl; have fv0 := blk_frozen BV.out 0; have hv1 := (blk_cell BV.out 1).trans rfl; have fv1 := blk_frozen BV.out 1; have hv2 := (blk_cell BV.out 2).trans rfl; have fv2 := blk_frozen BV.out 2; have hv3 := (blk_cell BV.out 3).trans rfl; have fv3 := blk_frozen BV.out 3; have hv4 := (blk_cell BV.out 4).trans rfl; have fv4 := blk_frozen BV.out 4; have hv5 := (blk_cell BV.out 5).trans rfl; have fv5 := blk_frozen BV.out 5)
      | ((with_reducible refine gate_dst (N := 3) rfl ?_); refine box_event ?hg (N := 3) ?hd (cs := #[.int .i64 n]) (t := 3) ?hr ?_; (case hd => rfl); (case hg => rfl); (case hr => first | (go_simp; done) | (go_simp; rfl)); intro gn hg w3 hbox hb; have BN := Aside0.mk hbox; have BV3 := Aside0.mk (blk_below BV.out hb); have HB3 := Aside0.mk (below_step HB2.out hb); clear hb hbox hg; have hn0 := (blk_cell BN.out 0).trans rfl; have fn0 := blk_frozen BN.out 0; have hu0 := (blk_cell BV3.out 0).trans rfl; have fu0 := blk_frozen BV3.out 0; have hu1 := (blk_cell BV3.out 1).trans rfl; have fu1 := blk_frozen BV3.out 1; have hu2 := (blk_cell BV3.out 2).trans rfl; have fu2 := blk_frozen BV3.out 2; have hu3 := (blk_cell BV3.out 3).trans rfl; have fu3 := blk_frozen BV3.out 3; have hu4 := (blk_cell BV3.out 4).trans rfl; have fu4 := blk_frozen BV3.out 4; have hu5 := (blk_cell BV3.out 5).trans rfl; have fu5 := blk_frozen BV3.out 5)
      | (go_at_call 36; (with_reducible refine (seats_May.calls n _ _ (seats_May_of n)).mono ?_); rintro e w1 ⟨rfl, ⟨nd, rfl⟩⟩; rw [HM.out]))
    go_ret
    exact ⟨by rw [HE.out]; rfl, by repeat (first | exact HB3.out | apply pw_below_drewN)⟩
  have h2d : decide (n < a) = false := decide_eq_false h2
  have h2e : decide (a ≤ n) = true := decide_eq_true (by omega)
  clear h2
  by_cases h3 : r < 1
  · have h3d : decide (r < 1) = true := decide_eq_true h3
    have h3e : decide (1 ≤ r) = false := decide_eq_false (by omega)
    have HE : Aside0 (mayV a r bs ps x y n = false) := ⟨by simp only [mayV, h3e]; simp⟩
    clear hm h3 h3e
    go_enter Try.func16, Try.ntmps16
    go_wp2_with (first
      | ((with_reducible refine gate_dst (N := 2) rfl ?_); refine box_event ?hg (N := 2) ?hd (cs := #[.int .i64 a, .int .i64 r, .slice A2 bs.length c2, .slice A3 ps.length c3, .int .i64 x, .int .i64 y]) (t := 38) ?hr ?_; (case hd => rfl); (case hg => rfl); (case hr => first | (go_simp; done) | (go_simp; rfl)); intro gv hg w2 hbox hb; have BV := Aside0.mk hbox; have HB2 := Aside0.mk hb; clear hb hbox hg; have hv0 := (blk_cell BV.out 0).trans rfl; have fv0 := blk_frozen BV.out 0; have hv1 := (blk_cell BV.out 1).trans rfl; have fv1 := blk_frozen BV.out 1; have hv2 := (blk_cell BV.out 2).trans rfl; have fv2 := blk_frozen BV.out 2; have hv3 := (blk_cell BV.out 3).trans rfl; have fv3 := blk_frozen BV.out 3; have hv4 := (blk_cell BV.out 4).trans rfl; have fv4 := blk_frozen BV.out 4; have hv5 := (blk_cell BV.out 5).trans rfl; have fv5 := blk_frozen BV.out 5)
      | ((with_reducible refine gate_dst (N := 3) rfl ?_); refine box_event ?hg (N := 3) ?hd (cs := #[.int .i64 n]) (t := 3) ?hr ?_; (case hd => rfl); (case hg => rfl); (case hr => first | (go_simp; done) | (go_simp; rfl)); intro gn hg w3 hbox hb; have BN := Aside0.mk hbox; have BV3 := Aside0.mk (blk_below BV.out hb); have HB3 := Aside0.mk (below_step HB2.out hb); clear hb hbox hg; have hn0 := (blk_cell BN.out 0).trans rfl; have fn0 := blk_frozen BN.out 0; have hu0 := (blk_cell BV3.out 0).trans rfl; have fu0 := blk_frozen BV3.out 0; have hu1 := (blk_cell BV3.out 1).trans rfl; have fu1 := blk_frozen BV3.out 1; have hu2 := (blk_cell BV3.out 2).trans rfl; have fu2 := blk_frozen BV3.out 2; have hu3 := (blk_cell BV3.out 3).trans rfl; have fu3 := blk_frozen BV3.out 3; have hu4 := (blk_cell BV3.out 4).trans rfl; have fu4 := blk_frozen BV3.out 4; have hu5 := (blk_cell BV3.out 5).trans rfl; have fu5 := blk_frozen BV3.out 5)
      | (go_at_call 36; (with_reducible refine (seats_May.calls n _ _ (seats_May_of n)).mono ?_); rintro e w1 ⟨rfl, ⟨nd, rfl⟩⟩; rw [HM.out]))
    go_ret
    exact ⟨by rw [HE.out]; rfl, by repeat (first | exact HB3.out | apply pw_below_drewN)⟩
  have h3d : decide (r < 1) = false := decide_eq_false h3
  have h3e : decide (1 ≤ r) = true := decide_eq_true (by omega)
  clear h3
  by_cases h4 : 1048576 < r
  · have h4d : decide (1048576 < r) = true := decide_eq_true h4
    have h4e : decide (r ≤ 1048576) = false := decide_eq_false (by omega)
    have HE : Aside0 (mayV a r bs ps x y n = false) := ⟨by simp only [mayV, h4e]; simp⟩
    clear hm h4 h4e
    go_enter Try.func16, Try.ntmps16
    go_wp2_with (first
      | ((with_reducible refine gate_dst (N := 2) rfl ?_); refine box_event ?hg (N := 2) ?hd (cs := #[.int .i64 a, .int .i64 r, .slice A2 bs.length c2, .slice A3 ps.length c3, .int .i64 x, .int .i64 y]) (t := 38) ?hr ?_; (case hd => rfl); (case hg => rfl); (case hr => first | (go_simp; done) | (go_simp; rfl)); intro gv hg w2 hbox hb; have BV := Aside0.mk hbox; have HB2 := Aside0.mk hb; clear hb hbox hg; have hv0 := (blk_cell BV.out 0).trans rfl; have fv0 := blk_frozen BV.out 0; have hv1 := (blk_cell BV.out 1).trans rfl; have fv1 := blk_frozen BV.out 1; have hv2 := (blk_cell BV.out 2).trans rfl; have fv2 := blk_frozen BV.out 2; have hv3 := (blk_cell BV.out 3).trans rfl; have fv3 := blk_frozen BV.out 3; have hv4 := (blk_cell BV.out 4).trans rfl; have fv4 := blk_frozen BV.out 4; have hv5 := (blk_cell BV.out 5).trans rfl; have fv5 := blk_frozen BV.out 5)
      | ((with_reducible refine gate_dst (N := 3) rfl ?_); refine box_event ?hg (N := 3) ?hd (cs := #[.int .i64 n]) (t := 3) ?hr ?_; (case hd => rfl); (case hg => rfl); (case hr => first | (go_simp; done) | (go_simp; rfl)); intro gn hg w3 hbox hb; have BN := Aside0.mk hbox; have BV3 := Aside0.mk (blk_below BV.out hb); have HB3 := Aside0.mk (below_step HB2.out hb); clear hb hbox hg; have hn0 := (blk_cell BN.out 0).trans rfl; have fn0 := blk_frozen BN.out 0; have hu0 := (blk_cell BV3.out 0).trans rfl; have fu0 := blk_frozen BV3.out 0; have hu1 := (blk_cell BV3.out 1).trans rfl; have fu1 := blk_frozen BV3.out 1; have hu2 := (blk_cell BV3.out 2).trans rfl; have fu2 := blk_frozen BV3.out 2; have hu3 := (blk_cell BV3.out 3).trans rfl; have fu3 := blk_frozen BV3.out 3; have hu4 := (blk_cell BV3.out 4).trans rfl; have fu4 := blk_frozen BV3.out 4; have hu5 := (blk_cell BV3.out 5).trans rfl; have fu5 := blk_frozen BV3.out 5)
      | (go_at_call 36; (with_reducible refine (seats_May.calls n _ _ (seats_May_of n)).mono ?_); rintro e w1 ⟨rfl, ⟨nd, rfl⟩⟩; rw [HM.out]))
    go_ret
    exact ⟨by rw [HE.out]; rfl, by repeat (first | exact HB3.out | apply pw_below_drewN)⟩
  have h4d : decide (1048576 < r) = false := decide_eq_false h4
  have h4e : decide (r ≤ 1048576) = true := decide_eq_true (by omega)
  clear h4
  by_cases h5 : 4 < (bs.length : Int)
  · have h5d : decide (4 < (bs.length : Int)) = true := decide_eq_true h5
    have h5e : decide (bs.length ≤ 4) = false := decide_eq_false (by omega)
    have HE : Aside0 (mayV a r bs ps x y n = false) := ⟨by simp only [mayV, h5e]; simp⟩
    clear hm h5 h5e
    go_enter Try.func16, Try.ntmps16
    go_wp2_with (first
      | ((with_reducible refine gate_dst (N := 2) rfl ?_); refine box_event ?hg (N := 2) ?hd (cs := #[.int .i64 a, .int .i64 r, .slice A2 bs.length c2, .slice A3 ps.length c3, .int .i64 x, .int .i64 y]) (t := 38) ?hr ?_; (case hd => rfl); (case hg => rfl); (case hr => first | (go_simp; done) | (go_simp; rfl)); intro gv hg w2 hbox hb; have BV := Aside0.mk hbox; have HB2 := Aside0.mk hb; clear hb hbox hg; have hv0 := (blk_cell BV.out 0).trans rfl; have fv0 := blk_frozen BV.out 0; have hv1 := (blk_cell BV.out 1).trans rfl; have fv1 := blk_frozen BV.out 1; have hv2 := (blk_cell BV.out 2).trans rfl; have fv2 := blk_frozen BV.out 2; have hv3 := (blk_cell BV.out 3).trans rfl; have fv3 := blk_frozen BV.out 3; have hv4 := (blk_cell BV.out 4).trans rfl; have fv4 := blk_frozen BV.out 4; have hv5 := (blk_cell BV.out 5).trans rfl; have fv5 := blk_frozen BV.out 5)
      | ((with_reducible refine gate_dst (N := 3) rfl ?_); refine box_event ?hg (N := 3) ?hd (cs := #[.int .i64 n]) (t := 3) ?hr ?_; (case hd => rfl); (case hg => rfl); (case hr => first | (go_simp; done) | (go_simp; rfl)); intro gn hg w3 hbox hb; have BN := Aside0.mk hbox; have BV3 := Aside0.mk (blk_below BV.out hb); have HB3 := Aside0.mk (below_step HB2.out hb); clear hb hbox hg; have hn0 := (blk_cell BN.out 0).trans rfl; have fn0 := blk_frozen BN.out 0; have hu0 := (blk_cell BV3.out 0).trans rfl; have fu0 := blk_frozen BV3.out 0; have hu1 := (blk_cell BV3.out 1).trans rfl; have fu1 := blk_frozen BV3.out 1; have hu2 := (blk_cell BV3.out 2).trans rfl; have fu2 := blk_frozen BV3.out 2; have hu3 := (blk_cell BV3.out 3).trans rfl; have fu3 := blk_frozen BV3.out 3; have hu4 := (blk_cell BV3.out 4).trans rfl; have fu4 := blk_frozen BV3.out 4; have hu5 := (blk_cell BV3.out 5).trans rfl; have fu5 := blk_frozen BV3.out 5)
      | (go_at_call 36; (with_reducible refine (seats_May.calls n _ _ (seats_May_of n)).mono ?_); rintro e w1 ⟨rfl, ⟨nd, rfl⟩⟩; rw [HM.out]))
    go_ret
    exact ⟨by rw [HE.out]; rfl, by repeat (first | exact HB3.out | apply pw_below_drewN)⟩
  have h5d : decide (4 < (bs.length : Int)) = false := decide_eq_false h5
  have h5e : decide (bs.length ≤ 4) = true := decide_eq_true (by omega)
  clear h5
  rcases ha : bs.any (oddB n) with _ | _
  rotate_left
  · have HA := Aside0.mk ha
    have HE : Aside0 (mayV a r bs ps x y n = false) := ⟨by simp only [mayV, ha]; simp⟩
    clear hm ha h1e h2e h3e h4e h5e
    go_enter Try.func16, Try.ntmps16
    go_wp2_with (first
      | ((with_reducible refine gate_dst (N := 2) rfl ?_); refine box_event ?hg (N := 2) ?hd (cs := #[.int .i64 a, .int .i64 r, .slice A2 bs.length c2, .slice A3 ps.length c3, .int .i64 x, .int .i64 y]) (t := 38) ?hr ?_; (case hd => rfl); (case hg => rfl); (case hr => first | (go_simp; done) | (go_simp; rfl)); intro gv hg w2 hbox hb; have BV := Aside0.mk hbox; have HB2 := Aside0.mk hb; clear hb hbox hg; have hv0 := (blk_cell BV.out 0).trans rfl; have fv0 := blk_frozen BV.out 0; have hv1 := (blk_cell BV.out 1).trans rfl; have fv1 := blk_frozen BV.out 1; have hv2 := (blk_cell BV.out 2).trans rfl; have fv2 := blk_frozen BV.out 2; have hv3 := (blk_cell BV.out 3).trans rfl; have fv3 := blk_frozen BV.out 3; have hv4 := (blk_cell BV.out 4).trans rfl; have fv4 := blk_frozen BV.out 4; have hv5 := (blk_cell BV.out 5).trans rfl; have fv5 := blk_frozen BV.out 5)
      | ((with_reducible refine gate_dst (N := 3) rfl ?_); refine box_event ?hg (N := 3) ?hd (cs := #[.int .i64 n]) (t := 3) ?hr ?_; (case hd => rfl); (case hg => rfl); (case hr => first | (go_simp; done) | (go_simp; rfl)); intro gn hg w3 hbox hb; have BN := Aside0.mk hbox; have BV3 := Aside0.mk (blk_below BV.out hb); have HB3 := Aside0.mk (below_step HB2.out hb); clear hb hbox hg; have hn0 := (blk_cell BN.out 0).trans rfl; have fn0 := blk_frozen BN.out 0; have hu0 := (blk_cell BV3.out 0).trans rfl; have fu0 := blk_frozen BV3.out 0; have hu1 := (blk_cell BV3.out 1).trans rfl; have fu1 := blk_frozen BV3.out 1; have hu2 := (blk_cell BV3.out 2).trans rfl; have fu2 := blk_frozen BV3.out 2; have hu3 := (blk_cell BV3.out 3).trans rfl; have fu3 := blk_frozen BV3.out 3; have hu4 := (blk_cell BV3.out 4).trans rfl; have fu4 := blk_frozen BV3.out 4; have hu5 := (blk_cell BV3.out 5).trans rfl; have fu5 := blk_frozen BV3.out 5)
      | (go_at_call 36; (with_reducible refine (seats_May.calls n _ _ (seats_May_of n)).mono ?_); rintro e w1 ⟨rfl, ⟨nd, rfl⟩⟩; rw [HM.out])
      | (go_at_call 37; (with_reducible refine (vertex_May.contains n gn _ _ bs _ (Kd.C_below HR2.out (pw_below_drewN HB3.out _)) HC2.out (blk_drewN BN.out _)).mono ?_); rintro e w4 ⟨rfl, hb⟩; rw [HA.out]; have BV4 := Aside0.mk (blk_below (blk_drewN BV3.out _) hb); have BN4 := Aside0.mk (blk_below (blk_drewN BN.out _) hb); have HB4 := Aside0.mk (below_step (pw_below_drewN HB3.out _) hb); clear hb; have hm0 := (blk_cell BN4.out 0).trans rfl; have fm0 := blk_frozen BN4.out 0; have hs0 := (blk_cell BV4.out 0).trans rfl; have fs0 := blk_frozen BV4.out 0; have hs1 := (blk_cell BV4.out 1).trans rfl; have fs1 := blk_frozen BV4.out 1; have hs2 := (blk_cell BV4.out 2).trans rfl; have fs2 := blk_frozen BV4.out 2; have hs3 := (blk_cell BV4.out 3).trans rfl; have fs3 := blk_frozen BV4.out 3; have hs4 := (blk_cell BV4.out 4).trans rfl; have fs4 := blk_frozen BV4.out 4; have hs5 := (blk_cell BV4.out 5).trans rfl; have fs5 := blk_frozen BV4.out 5))
    go_ret
    exact ⟨by rw [HE.out]; rfl, by repeat (first | exact HB4.out | apply pw_below_drewN)⟩
  have HA := Aside0.mk ha
  rcases hg : mayE x y with _ | _
  · have HG := Aside0.mk hg
    have HE : Aside0 (mayV a r bs ps x y n = false) := ⟨by simp only [mayV, hg]; simp⟩
    clear hm ha hg h1e h2e h3e h4e h5e
    go_enter Try.func16, Try.ntmps16
    go_wp2_with (first
      | ((with_reducible refine gate_dst (N := 2) rfl ?_); refine box_event ?hg (N := 2) ?hd (cs := #[.int .i64 a, .int .i64 r, .slice A2 bs.length c2, .slice A3 ps.length c3, .int .i64 x, .int .i64 y]) (t := 38) ?hr ?_; (case hd => rfl); (case hg => rfl); (case hr => first | (go_simp; done) | (go_simp; rfl)); intro gv hg w2 hbox hb; have BV := Aside0.mk hbox; have HB2 := Aside0.mk hb; clear hb hbox hg; have hv0 := (blk_cell BV.out 0).trans rfl; have fv0 := blk_frozen BV.out 0; have hv1 := (blk_cell BV.out 1).trans rfl; have fv1 := blk_frozen BV.out 1; have hv2 := (blk_cell BV.out 2).trans rfl; have fv2 := blk_frozen BV.out 2; have hv3 := (blk_cell BV.out 3).trans rfl; have fv3 := blk_frozen BV.out 3; have hv4 := (blk_cell BV.out 4).trans rfl; have fv4 := blk_frozen BV.out 4; have hv5 := (blk_cell BV.out 5).trans rfl; have fv5 := blk_frozen BV.out 5)
      | ((with_reducible refine gate_dst (N := 3) rfl ?_); refine box_event ?hg (N := 3) ?hd (cs := #[.int .i64 n]) (t := 3) ?hr ?_; (case hd => rfl); (case hg => rfl); (case hr => first | (go_simp; done) | (go_simp; rfl)); intro gn hg w3 hbox hb; have BN := Aside0.mk hbox; have BV3 := Aside0.mk (blk_below BV.out hb); have HB3 := Aside0.mk (below_step HB2.out hb); clear hb hbox hg; have hn0 := (blk_cell BN.out 0).trans rfl; have fn0 := blk_frozen BN.out 0; have hu0 := (blk_cell BV3.out 0).trans rfl; have fu0 := blk_frozen BV3.out 0; have hu1 := (blk_cell BV3.out 1).trans rfl; have fu1 := blk_frozen BV3.out 1; have hu2 := (blk_cell BV3.out 2).trans rfl; have fu2 := blk_frozen BV3.out 2; have hu3 := (blk_cell BV3.out 3).trans rfl; have fu3 := blk_frozen BV3.out 3; have hu4 := (blk_cell BV3.out 4).trans rfl; have fu4 := blk_frozen BV3.out 4; have hu5 := (blk_cell BV3.out 5).trans rfl; have fu5 := blk_frozen BV3.out 5)
      | (go_at_call 36; (with_reducible refine (seats_May.calls n _ _ (seats_May_of n)).mono ?_); rintro e w1 ⟨rfl, ⟨nd, rfl⟩⟩; rw [HM.out])
      | (go_at_call 37; (with_reducible refine (vertex_May.contains n gn _ _ bs _ (Kd.C_below HR2.out (pw_below_drewN HB3.out _)) HC2.out (blk_drewN BN.out _)).mono ?_); rintro e w4 ⟨rfl, hb⟩; rw [HA.out]; have BV4 := Aside0.mk (blk_below (blk_drewN BV3.out _) hb); have BN4 := Aside0.mk (blk_below (blk_drewN BN.out _) hb); have HB4 := Aside0.mk (below_step (pw_below_drewN HB3.out _) hb); clear hb; have hm0 := (blk_cell BN4.out 0).trans rfl; have fm0 := blk_frozen BN4.out 0; have hs0 := (blk_cell BV4.out 0).trans rfl; have fs0 := blk_frozen BV4.out 0; have hs1 := (blk_cell BV4.out 1).trans rfl; have fs1 := blk_frozen BV4.out 1; have hs2 := (blk_cell BV4.out 2).trans rfl; have fs2 := blk_frozen BV4.out 2; have hs3 := (blk_cell BV4.out 3).trans rfl; have fs3 := blk_frozen BV4.out 3; have hs4 := (blk_cell BV4.out 4).trans rfl; have fs4 := blk_frozen BV4.out 4; have hs5 := (blk_cell BV4.out 5).trans rfl; have fs5 := blk_frozen BV4.out 5)
      | (go_at_call 38; (with_reducible refine (gauss_May.calls x y _ _ (gauss_May_of x y)).mono ?_); rintro e w5 ⟨rfl, hb⟩; rw [HG.out]; have BV5 := Aside0.mk (blk_below BV4.out hb); have BN5 := Aside0.mk (blk_below BN4.out hb); have HB5 := Aside0.mk (below_step HB4.out hb); clear hb; have hk0 := (blk_cell BN5.out 0).trans rfl; have fk0 := blk_frozen BN5.out 0; have hq0 := (blk_cell BV5.out 0).trans rfl; have fq0 := blk_frozen BV5.out 0; have hq1 := (blk_cell BV5.out 1).trans rfl; have fq1 := blk_frozen BV5.out 1; have hq2 := (blk_cell BV5.out 2).trans rfl; have fq2 := blk_frozen BV5.out 2; have hq3 := (blk_cell BV5.out 3).trans rfl; have fq3 := blk_frozen BV5.out 3; have hq4 := (blk_cell BV5.out 4).trans rfl; have fq4 := blk_frozen BV5.out 4; have hq5 := (blk_cell BV5.out 5).trans rfl; have fq5 := blk_frozen BV5.out 5))
    go_ret
    exact ⟨by rw [HE.out]; rfl, by repeat (first | exact HB5.out | apply pw_below_drewN)⟩
  have HG := Aside0.mk hg
  rcases ht : thirdR r with _ | _
  · have HT := Aside0.mk ht
    by_cases h6 : x = 0
    · have h6b : (x == 0) = true := beq_iff_eq.mpr h6
      have h6e : decide (x = 0) = true := decide_eq_true h6
      by_cases h7 : y = 0
      · have h7b : (y == 0) = true := beq_iff_eq.mpr h7
        have h7e : decide (y = 0) = true := decide_eq_true h7
        have HE : Aside0 (mayV a r bs ps x y n = parentsB ps r n) := ⟨by simp only [mayV, hm, h1e, h2e, h3e, h4e, h5e, ha, hg, ht, h6e, h7e]; simp⟩
        clear hm ha hg ht h1e h2e h3e h4e h5e h6 h6e h7 h7e
        go_enter Try.func16, Try.ntmps16
        go_wp2_with (first
          | ((with_reducible refine gate_dst (N := 2) rfl ?_); refine box_event ?hg (N := 2) ?hd (cs := #[.int .i64 a, .int .i64 r, .slice A2 bs.length c2, .slice A3 ps.length c3, .int .i64 x, .int .i64 y]) (t := 38) ?hr ?_; (case hd => rfl); (case hg => rfl); (case hr => first | (go_simp; done) | (go_simp; rfl)); intro gv hg w2 hbox hb; have BV := Aside0.mk hbox; have HB2 := Aside0.mk hb; clear hb hbox hg; have hv0 := (blk_cell BV.out 0).trans rfl; have fv0 := blk_frozen BV.out 0; have hv1 := (blk_cell BV.out 1).trans rfl; have fv1 := blk_frozen BV.out 1; have hv2 := (blk_cell BV.out 2).trans rfl; have fv2 := blk_frozen BV.out 2; have hv3 := (blk_cell BV.out 3).trans rfl; have fv3 := blk_frozen BV.out 3; have hv4 := (blk_cell BV.out 4).trans rfl; have fv4 := blk_frozen BV.out 4; have hv5 := (blk_cell BV.out 5).trans rfl; have fv5 := blk_frozen BV.out 5)
          | ((with_reducible refine gate_dst (N := 3) rfl ?_); refine box_event ?hg (N := 3) ?hd (cs := #[.int .i64 n]) (t := 3) ?hr ?_; (case hd => rfl); (case hg => rfl); (case hr => first | (go_simp; done) | (go_simp; rfl)); intro gn hg w3 hbox hb; have BN := Aside0.mk hbox; have BV3 := Aside0.mk (blk_below BV.out hb); have HB3 := Aside0.mk (below_step HB2.out hb); clear hb hbox hg; have hn0 := (blk_cell BN.out 0).trans rfl; have fn0 := blk_frozen BN.out 0; have hu0 := (blk_cell BV3.out 0).trans rfl; have fu0 := blk_frozen BV3.out 0; have hu1 := (blk_cell BV3.out 1).trans rfl; have fu1 := blk_frozen BV3.out 1; have hu2 := (blk_cell BV3.out 2).trans rfl; have fu2 := blk_frozen BV3.out 2; have hu3 := (blk_cell BV3.out 3).trans rfl; have fu3 := blk_frozen BV3.out 3; have hu4 := (blk_cell BV3.out 4).trans rfl; have fu4 := blk_frozen BV3.out 4; have hu5 := (blk_cell BV3.out 5).trans rfl; have fu5 := blk_frozen BV3.out 5)
          | (go_at_call 36; (with_reducible refine (seats_May.calls n _ _ (seats_May_of n)).mono ?_); rintro e w1 ⟨rfl, ⟨nd, rfl⟩⟩; rw [HM.out])
          | (go_at_call 37; (with_reducible refine (vertex_May.contains n gn _ _ bs _ (Kd.C_below HR2.out (pw_below_drewN HB3.out _)) HC2.out (blk_drewN BN.out _)).mono ?_); rintro e w4 ⟨rfl, hb⟩; rw [HA.out]; have BV4 := Aside0.mk (blk_below (blk_drewN BV3.out _) hb); have BN4 := Aside0.mk (blk_below (blk_drewN BN.out _) hb); have HB4 := Aside0.mk (below_step (pw_below_drewN HB3.out _) hb); clear hb; have hm0 := (blk_cell BN4.out 0).trans rfl; have fm0 := blk_frozen BN4.out 0; have hs0 := (blk_cell BV4.out 0).trans rfl; have fs0 := blk_frozen BV4.out 0; have hs1 := (blk_cell BV4.out 1).trans rfl; have fs1 := blk_frozen BV4.out 1; have hs2 := (blk_cell BV4.out 2).trans rfl; have fs2 := blk_frozen BV4.out 2; have hs3 := (blk_cell BV4.out 3).trans rfl; have fs3 := blk_frozen BV4.out 3; have hs4 := (blk_cell BV4.out 4).trans rfl; have fs4 := blk_frozen BV4.out 4; have hs5 := (blk_cell BV4.out 5).trans rfl; have fs5 := blk_frozen BV4.out 5)
          | (go_at_call 38; (with_reducible refine (gauss_May.calls x y _ _ (gauss_May_of x y)).mono ?_); rintro e w5 ⟨rfl, hb⟩; rw [HG.out]; have BV5 := Aside0.mk (blk_below BV4.out hb); have BN5 := Aside0.mk (blk_below BN4.out hb); have HB5 := Aside0.mk (below_step HB4.out hb); clear hb; have hk0 := (blk_cell BN5.out 0).trans rfl; have fk0 := blk_frozen BN5.out 0; have hq0 := (blk_cell BV5.out 0).trans rfl; have fq0 := blk_frozen BV5.out 0; have hq1 := (blk_cell BV5.out 1).trans rfl; have fq1 := blk_frozen BV5.out 1; have hq2 := (blk_cell BV5.out 2).trans rfl; have fq2 := blk_frozen BV5.out 2; have hq3 := (blk_cell BV5.out 3).trans rfl; have fq3 := blk_frozen BV5.out 3; have hq4 := (blk_cell BV5.out 4).trans rfl; have fq4 := blk_frozen BV5.out 4; have hq5 := (blk_cell BV5.out 5).trans rfl; have fq5 := blk_frozen BV5.out 5)
          | (go_at_call 24; (with_reducible refine (vertex_Third.calls r _ _ (vertex_Third_of r)).mono ?_); rintro e w6 ⟨rfl, ⟨nt, rfl⟩⟩; rw [HT.out])
          | (go_at_call 39; (with_reducible refine (vertex_parents.calls N _ _ ps r n _ _ (Kd.C_below HR3.out (by repeat (first | exact HB5.out | apply pw_below_drewN))) HC3.out HP.out).mono ?_); rintro e w7 ⟨rfl, ⟨np, rfl⟩⟩))
        go_ret
        exact ⟨by rw [HE.out]; rfl, by repeat (first | exact HB5.out | apply pw_below_drewN)⟩
      · have h7b : (y == 0) = false := beq_eq_false_iff_ne.mpr h7
        have h7e : decide (y = 0) = false := decide_eq_false h7
        have HE : Aside0 (mayV a r bs ps x y n = false) := ⟨by simp only [mayV, ht, h7e]; simp⟩
        clear hm ha hg ht h1e h2e h3e h4e h5e h6 h6e h7 h7e
        go_enter Try.func16, Try.ntmps16
        go_wp2_with (first
          | ((with_reducible refine gate_dst (N := 2) rfl ?_); refine box_event ?hg (N := 2) ?hd (cs := #[.int .i64 a, .int .i64 r, .slice A2 bs.length c2, .slice A3 ps.length c3, .int .i64 x, .int .i64 y]) (t := 38) ?hr ?_; (case hd => rfl); (case hg => rfl); (case hr => first | (go_simp; done) | (go_simp; rfl)); intro gv hg w2 hbox hb; have BV := Aside0.mk hbox; have HB2 := Aside0.mk hb; clear hb hbox hg; have hv0 := (blk_cell BV.out 0).trans rfl; have fv0 := blk_frozen BV.out 0; have hv1 := (blk_cell BV.out 1).trans rfl; have fv1 := blk_frozen BV.out 1; have hv2 := (blk_cell BV.out 2).trans rfl; have fv2 := blk_frozen BV.out 2; have hv3 := (blk_cell BV.out 3).trans rfl; have fv3 := blk_frozen BV.out 3; have hv4 := (blk_cell BV.out 4).trans rfl; have fv4 := blk_frozen BV.out 4; have hv5 := (blk_cell BV.out 5).trans rfl; have fv5 := blk_frozen BV.out 5)
          | ((with_reducible refine gate_dst (N := 3) rfl ?_); refine box_event ?hg (N := 3) ?hd (cs := #[.int .i64 n]) (t := 3) ?hr ?_; (case hd => rfl); (case hg => rfl); (case hr => first | (go_simp; done) | (go_simp; rfl)); intro gn hg w3 hbox hb; have BN := Aside0.mk hbox; have BV3 := Aside0.mk (blk_below BV.out hb); have HB3 := Aside0.mk (below_step HB2.out hb); clear hb hbox hg; have hn0 := (blk_cell BN.out 0).trans rfl; have fn0 := blk_frozen BN.out 0; have hu0 := (blk_cell BV3.out 0).trans rfl; have fu0 := blk_frozen BV3.out 0; have hu1 := (blk_cell BV3.out 1).trans rfl; have fu1 := blk_frozen BV3.out 1; have hu2 := (blk_cell BV3.out 2).trans rfl; have fu2 := blk_frozen BV3.out 2; have hu3 := (blk_cell BV3.out 3).trans rfl; have fu3 := blk_frozen BV3.out 3; have hu4 := (blk_cell BV3.out 4).trans rfl; have fu4 := blk_frozen BV3.out 4; have hu5 := (blk_cell BV3.out 5).trans rfl; have fu5 := blk_frozen BV3.out 5)
          | (go_at_call 36; (with_reducible refine (seats_May.calls n _ _ (seats_May_of n)).mono ?_); rintro e w1 ⟨rfl, ⟨nd, rfl⟩⟩; rw [HM.out])
          | (go_at_call 37; (with_reducible refine (vertex_May.contains n gn _ _ bs _ (Kd.C_below HR2.out (pw_below_drewN HB3.out _)) HC2.out (blk_drewN BN.out _)).mono ?_); rintro e w4 ⟨rfl, hb⟩; rw [HA.out]; have BV4 := Aside0.mk (blk_below (blk_drewN BV3.out _) hb); have BN4 := Aside0.mk (blk_below (blk_drewN BN.out _) hb); have HB4 := Aside0.mk (below_step (pw_below_drewN HB3.out _) hb); clear hb; have hm0 := (blk_cell BN4.out 0).trans rfl; have fm0 := blk_frozen BN4.out 0; have hs0 := (blk_cell BV4.out 0).trans rfl; have fs0 := blk_frozen BV4.out 0; have hs1 := (blk_cell BV4.out 1).trans rfl; have fs1 := blk_frozen BV4.out 1; have hs2 := (blk_cell BV4.out 2).trans rfl; have fs2 := blk_frozen BV4.out 2; have hs3 := (blk_cell BV4.out 3).trans rfl; have fs3 := blk_frozen BV4.out 3; have hs4 := (blk_cell BV4.out 4).trans rfl; have fs4 := blk_frozen BV4.out 4; have hs5 := (blk_cell BV4.out 5).trans rfl; have fs5 := blk_frozen BV4.out 5)
          | (go_at_call 38; (with_reducible refine (gauss_May.calls x y _ _ (gauss_May_of x y)).mono ?_); rintro e w5 ⟨rfl, hb⟩; rw [HG.out]; have BV5 := Aside0.mk (blk_below BV4.out hb); have BN5 := Aside0.mk (blk_below BN4.out hb); have HB5 := Aside0.mk (below_step HB4.out hb); clear hb; have hk0 := (blk_cell BN5.out 0).trans rfl; have fk0 := blk_frozen BN5.out 0; have hq0 := (blk_cell BV5.out 0).trans rfl; have fq0 := blk_frozen BV5.out 0; have hq1 := (blk_cell BV5.out 1).trans rfl; have fq1 := blk_frozen BV5.out 1; have hq2 := (blk_cell BV5.out 2).trans rfl; have fq2 := blk_frozen BV5.out 2; have hq3 := (blk_cell BV5.out 3).trans rfl; have fq3 := blk_frozen BV5.out 3; have hq4 := (blk_cell BV5.out 4).trans rfl; have fq4 := blk_frozen BV5.out 4; have hq5 := (blk_cell BV5.out 5).trans rfl; have fq5 := blk_frozen BV5.out 5)
          | (go_at_call 24; (with_reducible refine (vertex_Third.calls r _ _ (vertex_Third_of r)).mono ?_); rintro e w6 ⟨rfl, ⟨nt, rfl⟩⟩; rw [HT.out]))
        go_ret
        exact ⟨by rw [HE.out]; rfl, by repeat (first | exact HB5.out | apply pw_below_drewN)⟩
    · have h6b : (x == 0) = false := beq_eq_false_iff_ne.mpr h6
      have h6e : decide (x = 0) = false := decide_eq_false h6
      have HE : Aside0 (mayV a r bs ps x y n = false) := ⟨by simp only [mayV, ht, h6e]; simp⟩
      clear hm ha hg ht h1e h2e h3e h4e h5e h6 h6e
      go_enter Try.func16, Try.ntmps16
      go_wp2_with (first
        | ((with_reducible refine gate_dst (N := 2) rfl ?_); refine box_event ?hg (N := 2) ?hd (cs := #[.int .i64 a, .int .i64 r, .slice A2 bs.length c2, .slice A3 ps.length c3, .int .i64 x, .int .i64 y]) (t := 38) ?hr ?_; (case hd => rfl); (case hg => rfl); (case hr => first | (go_simp; done) | (go_simp; rfl)); intro gv hg w2 hbox hb; have BV := Aside0.mk hbox; have HB2 := Aside0.mk hb; clear hb hbox hg; have hv0 := (blk_cell BV.out 0).trans rfl; have fv0 := blk_frozen BV.out 0; have hv1 := (blk_cell BV.out 1).trans rfl; have fv1 := blk_frozen BV.out 1; have hv2 := (blk_cell BV.out 2).trans rfl; have fv2 := blk_frozen BV.out 2; have hv3 := (blk_cell BV.out 3).trans rfl; have fv3 := blk_frozen BV.out 3; have hv4 := (blk_cell BV.out 4).trans rfl; have fv4 := blk_frozen BV.out 4; have hv5 := (blk_cell BV.out 5).trans rfl; have fv5 := blk_frozen BV.out 5)
        | ((with_reducible refine gate_dst (N := 3) rfl ?_); refine box_event ?hg (N := 3) ?hd (cs := #[.int .i64 n]) (t := 3) ?hr ?_; (case hd => rfl); (case hg => rfl); (case hr => first | (go_simp; done) | (go_simp; rfl)); intro gn hg w3 hbox hb; have BN := Aside0.mk hbox; have BV3 := Aside0.mk (blk_below BV.out hb); have HB3 := Aside0.mk (below_step HB2.out hb); clear hb hbox hg; have hn0 := (blk_cell BN.out 0).trans rfl; have fn0 := blk_frozen BN.out 0; have hu0 := (blk_cell BV3.out 0).trans rfl; have fu0 := blk_frozen BV3.out 0; have hu1 := (blk_cell BV3.out 1).trans rfl; have fu1 := blk_frozen BV3.out 1; have hu2 := (blk_cell BV3.out 2).trans rfl; have fu2 := blk_frozen BV3.out 2; have hu3 := (blk_cell BV3.out 3).trans rfl; have fu3 := blk_frozen BV3.out 3; have hu4 := (blk_cell BV3.out 4).trans rfl; have fu4 := blk_frozen BV3.out 4; have hu5 := (blk_cell BV3.out 5).trans rfl; have fu5 := blk_frozen BV3.out 5)
        | (go_at_call 36; (with_reducible refine (seats_May.calls n _ _ (seats_May_of n)).mono ?_); rintro e w1 ⟨rfl, ⟨nd, rfl⟩⟩; rw [HM.out])
        | (go_at_call 37; (with_reducible refine (vertex_May.contains n gn _ _ bs _ (Kd.C_below HR2.out (pw_below_drewN HB3.out _)) HC2.out (blk_drewN BN.out _)).mono ?_); rintro e w4 ⟨rfl, hb⟩; rw [HA.out]; have BV4 := Aside0.mk (blk_below (blk_drewN BV3.out _) hb); have BN4 := Aside0.mk (blk_below (blk_drewN BN.out _) hb); have HB4 := Aside0.mk (below_step (pw_below_drewN HB3.out _) hb); clear hb; have hm0 := (blk_cell BN4.out 0).trans rfl; have fm0 := blk_frozen BN4.out 0; have hs0 := (blk_cell BV4.out 0).trans rfl; have fs0 := blk_frozen BV4.out 0; have hs1 := (blk_cell BV4.out 1).trans rfl; have fs1 := blk_frozen BV4.out 1; have hs2 := (blk_cell BV4.out 2).trans rfl; have fs2 := blk_frozen BV4.out 2; have hs3 := (blk_cell BV4.out 3).trans rfl; have fs3 := blk_frozen BV4.out 3; have hs4 := (blk_cell BV4.out 4).trans rfl; have fs4 := blk_frozen BV4.out 4; have hs5 := (blk_cell BV4.out 5).trans rfl; have fs5 := blk_frozen BV4.out 5)
        | (go_at_call 38; (with_reducible refine (gauss_May.calls x y _ _ (gauss_May_of x y)).mono ?_); rintro e w5 ⟨rfl, hb⟩; rw [HG.out]; have BV5 := Aside0.mk (blk_below BV4.out hb); have BN5 := Aside0.mk (blk_below BN4.out hb); have HB5 := Aside0.mk (below_step HB4.out hb); clear hb; have hk0 := (blk_cell BN5.out 0).trans rfl; have fk0 := blk_frozen BN5.out 0; have hq0 := (blk_cell BV5.out 0).trans rfl; have fq0 := blk_frozen BV5.out 0; have hq1 := (blk_cell BV5.out 1).trans rfl; have fq1 := blk_frozen BV5.out 1; have hq2 := (blk_cell BV5.out 2).trans rfl; have fq2 := blk_frozen BV5.out 2; have hq3 := (blk_cell BV5.out 3).trans rfl; have fq3 := blk_frozen BV5.out 3; have hq4 := (blk_cell BV5.out 4).trans rfl; have fq4 := blk_frozen BV5.out 4; have hq5 := (blk_cell BV5.out 5).trans rfl; have fq5 := blk_frozen BV5.out 5)
        | (go_at_call 24; (with_reducible refine (vertex_Third.calls r _ _ (vertex_Third_of r)).mono ?_); rintro e w6 ⟨rfl, ⟨nt, rfl⟩⟩; rw [HT.out]))
      go_ret
      exact ⟨by rw [HE.out]; rfl, by repeat (first | exact HB5.out | apply pw_below_drewN)⟩
  · have HT := Aside0.mk ht
    have HE : Aside0 (mayV a r bs ps x y n = parentsB ps r n) := ⟨by simp only [mayV, hm, h1e, h2e, h3e, h4e, h5e, ha, hg, ht]; simp⟩
    clear hm ha hg ht h1e h2e h3e h4e h5e
    go_enter Try.func16, Try.ntmps16
    go_wp2_with (first
      | ((with_reducible refine gate_dst (N := 2) rfl ?_); refine box_event ?hg (N := 2) ?hd (cs := #[.int .i64 a, .int .i64 r, .slice A2 bs.length c2, .slice A3 ps.length c3, .int .i64 x, .int .i64 y]) (t := 38) ?hr ?_; (case hd => rfl); (case hg => rfl); (case hr => first | (go_simp; done) | (go_simp; rfl)); intro gv hg w2 hbox hb; have BV := Aside0.mk hbox; have HB2 := Aside0.mk hb; clear hb hbox hg; have hv0 := (blk_cell BV.out 0).trans rfl; have fv0 := blk_frozen BV.out 0; have hv1 := (blk_cell BV.out 1).trans rfl; have fv1 := blk_frozen BV.out 1; have hv2 := (blk_cell BV.out 2).trans rfl; have fv2 := blk_frozen BV.out 2; have hv3 := (blk_cell BV.out 3).trans rfl; have fv3 := blk_frozen BV.out 3; have hv4 := (blk_cell BV.out 4).trans rfl; have fv4 := blk_frozen BV.out 4; have hv5 := (blk_cell BV.out 5).trans rfl; have fv5 := blk_frozen BV.out 5)
      | ((with_reducible refine gate_dst (N := 3) rfl ?_); refine box_event ?hg (N := 3) ?hd (cs := #[.int .i64 n]) (t := 3) ?hr ?_; (case hd => rfl); (case hg => rfl); (case hr => first | (go_simp; done) | (go_simp; rfl)); intro gn hg w3 hbox hb; have BN := Aside0.mk hbox; have BV3 := Aside0.mk (blk_below BV.out hb); have HB3 := Aside0.mk (below_step HB2.out hb); clear hb hbox hg; have hn0 := (blk_cell BN.out 0).trans rfl; have fn0 := blk_frozen BN.out 0; have hu0 := (blk_cell BV3.out 0).trans rfl; have fu0 := blk_frozen BV3.out 0; have hu1 := (blk_cell BV3.out 1).trans rfl; have fu1 := blk_frozen BV3.out 1; have hu2 := (blk_cell BV3.out 2).trans rfl; have fu2 := blk_frozen BV3.out 2; have hu3 := (blk_cell BV3.out 3).trans rfl; have fu3 := blk_frozen BV3.out 3; have hu4 := (blk_cell BV3.out 4).trans rfl; have fu4 := blk_frozen BV3.out 4; have hu5 := (blk_cell BV3.out 5).trans rfl; have fu5 := blk_frozen BV3.out 5)
      | (go_at_call 36; (with_reducible refine (seats_May.calls n _ _ (seats_May_of n)).mono ?_); rintro e w1 ⟨rfl, ⟨nd, rfl⟩⟩; rw [HM.out])
      | (go_at_call 37; (with_reducible refine (vertex_May.contains n gn _ _ bs _ (Kd.C_below HR2.out (pw_below_drewN HB3.out _)) HC2.out (blk_drewN BN.out _)).mono ?_); rintro e w4 ⟨rfl, hb⟩; rw [HA.out]; have BV4 := Aside0.mk (blk_below (blk_drewN BV3.out _) hb); have BN4 := Aside0.mk (blk_below (blk_drewN BN.out _) hb); have HB4 := Aside0.mk (below_step (pw_below_drewN HB3.out _) hb); clear hb; have hm0 := (blk_cell BN4.out 0).trans rfl; have fm0 := blk_frozen BN4.out 0; have hs0 := (blk_cell BV4.out 0).trans rfl; have fs0 := blk_frozen BV4.out 0; have hs1 := (blk_cell BV4.out 1).trans rfl; have fs1 := blk_frozen BV4.out 1; have hs2 := (blk_cell BV4.out 2).trans rfl; have fs2 := blk_frozen BV4.out 2; have hs3 := (blk_cell BV4.out 3).trans rfl; have fs3 := blk_frozen BV4.out 3; have hs4 := (blk_cell BV4.out 4).trans rfl; have fs4 := blk_frozen BV4.out 4; have hs5 := (blk_cell BV4.out 5).trans rfl; have fs5 := blk_frozen BV4.out 5)
      | (go_at_call 38; (with_reducible refine (gauss_May.calls x y _ _ (gauss_May_of x y)).mono ?_); rintro e w5 ⟨rfl, hb⟩; rw [HG.out]; have BV5 := Aside0.mk (blk_below BV4.out hb); have BN5 := Aside0.mk (blk_below BN4.out hb); have HB5 := Aside0.mk (below_step HB4.out hb); clear hb; have hk0 := (blk_cell BN5.out 0).trans rfl; have fk0 := blk_frozen BN5.out 0; have hq0 := (blk_cell BV5.out 0).trans rfl; have fq0 := blk_frozen BV5.out 0; have hq1 := (blk_cell BV5.out 1).trans rfl; have fq1 := blk_frozen BV5.out 1; have hq2 := (blk_cell BV5.out 2).trans rfl; have fq2 := blk_frozen BV5.out 2; have hq3 := (blk_cell BV5.out 3).trans rfl; have fq3 := blk_frozen BV5.out 3; have hq4 := (blk_cell BV5.out 4).trans rfl; have fq4 := blk_frozen BV5.out 4; have hq5 := (blk_cell BV5.out 5).trans rfl; have fq5 := blk_frozen BV5.out 5)
      | (go_at_call 24; (with_reducible refine (vertex_Third.calls r _ _ (vertex_Third_of r)).mono ?_); rintro e w6 ⟨rfl, ⟨nt, rfl⟩⟩; rw [HT.out])
      | (go_at_call 39; (with_reducible refine (vertex_parents.calls N _ _ ps r n _ _ (Kd.C_below HR3.out (by repeat (first | exact HB5.out | apply pw_below_drewN))) HC3.out HP.out).mono ?_); rintro e w7 ⟨rfl, ⟨np, rfl⟩⟩))
    go_ret
    exact ⟨by rw [HE.out]; rfl, by repeat (first | exact HB5.out | apply pw_below_drewN)⟩
theorem vertex_May.calls (a0_0 : Int) (a0_1 : Int) (A0_2 : Option Addr) (c0_2 : Nat) (l0_2 : List S24) (A0_3 : Option Addr) (c0_3 : Nat) (l0_3 : List ByteArray) (a0_4 : Int) (a0_5 : Int) (a1 : Int) (r : Bool) (w : World) (hr0_2 : Kd.C k24 w A0_2 l0_2.length l0_2) (hc0_2 : l0_2.length ≤ c0_2) (hr0_3 : Kd.C Kd.string w A0_3 l0_3.length l0_3) (hc0_3 : l0_3.length ≤ c0_3) (h : vertex_May.f a0_0 a0_1 l0_2 l0_3 a0_4 a0_5 a1 = some r) :
    Calls Try.prog 16 #[.agg #[.int .i64 a0_0, .int .i64 a0_1, .slice A0_2 l0_2.length c0_2, .slice A0_3 l0_3.length c0_3, .int .i64 a0_4, .int .i64 a0_5], .int .i64 a1] w fun e w' => e = .returned (.bool r) ∧ Below w.heap.size w w' := by
  obtain rfl := Option.some.inj h
  exact vertex_May.walk a0_0 a0_1 A0_2 c0_2 l0_2 A0_3 c0_3 l0_3 a0_4 a0_5 a1 w hr0_2 hc0_2 hr0_3 hc0_3
end Go.Proofs.Ytfhjimeigelibaa.Px
