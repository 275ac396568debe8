/- Part 12 of 33 of the proof of the law PostBack: what is proved is the statement at the end of the last part; its conditions are those of the given row. -/
import Derived.Test.YtenbifjbeeobjaaZPostBackK
namespace Go.Proofs.Ytenbifjbeeobjaa.Px
open Go.RowKit Go.Proofs.YtenbifjbeeobjaaW.PrintWords Go.Proofs.YtenbifjbeeobjaaW.PrintLast Go.Proofs.YtenbifjbeeobjaaW.PrintMore
attribute [local go_sem] zC zE zJ zK zv zw zB zD
set_option linter.unusedVariables false
set_option linter.unusedSimpArgs false
def zai.f (a0_0 : Int) (a0_1 : Int) (l0_2 : List (zR)) (l0_3 : List ByteArray) (a0_4 : Int) (a0_5 : Int) (a1 : Int) : Option (ByteArray × Int) := (zaa.f a0_0 a0_1 l0_2 l0_3 a0_4 a0_5 a1).bind fun t448 => (if t448 = true then ((zaD.f l0_2).bind fun t449 => ((zar.f (([a0_0, a0_1, a0_4, a0_5] : List Int))).bind fun t455 => (if 0 < (t455.length : Int) then (if 1 < (t455.length : Int) then (if (zL ByteArray.empty t455 0).size + (zL ByteArray.empty t455 1).size ≤ 9223372036854775807 then ((zZ.f t449).bind fun t460 => (if ((zL ByteArray.empty t455 0) ++ (zL ByteArray.empty t455 1)).size + t460.size ≤ 9223372036854775807 then ((zZ.f l0_3).bind fun t461 => (if (((zL ByteArray.empty t455 0) ++ (zL ByteArray.empty t455 1)) ++ t460).size + t461.size ≤ 9223372036854775807 then (if 2 < (t455.length : Int) then (if ((((zL ByteArray.empty t455 0) ++ (zL ByteArray.empty t455 1)) ++ t460) ++ t461).size + (zL ByteArray.empty t455 2).size ≤ 9223372036854775807 then (if 3 < (t455.length : Int) then (if (((((zL ByteArray.empty t455 0) ++ (zL ByteArray.empty t455 1)) ++ t460) ++ t461) ++ (zL ByteArray.empty t455 2)).size + (zL ByteArray.empty t455 3).size ≤ 9223372036854775807 then (some ((((((zL ByteArray.empty t455 0) ++ (zL ByteArray.empty t455 1)) ++ t460) ++ t461) ++ (zL ByteArray.empty t455 2)) ++ (zL ByteArray.empty t455 3), 0)) else (none)) else (none)) else (none)) else (none)) else (none))) else (none))) else (none)) else (none)) else (none)))) else (some ((⟨#[]⟩ : ByteArray), 1)))
def zai.T5 : Bool × List (List Nat × List Nat) := (true, [([], []), ([0], [0]), ([1], [1]), ([], []), ([3], [3]), ([4], [4]), ([2, 5], [2, 5]), ([], []), ([7], [7]), ([6, 8], [6, 8]), ([], []), ([10], [10]), ([11, 8], [11]), ([9, 12], [9, 12]), ([], []), ([14], [14]), ([15], [15]), ([13, 16], [13, 16]), ([], []), ([18], [18]), ([19], [19]), ([17, 20], [17, 20]), ([21, 12, 0, 1, 2, 3, 4, 5, 6, 7, 8, 9, 10, 11, 12, 13, 14, 15, 16, 17, 18, 19, 20, 21], [21]), ([22, 0, 1, 2, 3, 4, 5, 6, 7, 8, 9, 10, 11, 12, 13, 14, 15, 16, 17, 18, 19, 20, 21, 22], [])])
def zai.B5 : List Nat := [0, 1, 3, 0, 8, 24, 63, 0, 128, 511, 0, 1024, 3456, 8191, 0, 16384, 49152, 131071, 0, 262144, 786432, 2097151, 4194303, 8388607]
theorem zai.tab5 : zb3 .any (ze7 Try.f48 5) = zai.T5 := by kernel_rfl
theorem zai.bits5 : zbZ zai.T5.2 zai.B5 = true := by kernel_rfl
set_option maxHeartbeats 8000000 in
set_option maxRecDepth 100000 in
theorem zai.calls (a0_0 : Int) (a0_1 : Int) (A0_2 : Option Addr) (c0_2 : Nat) (l0_2 : List (zR)) (A0_3 : Option Addr) (c0_3 : Nat) (l0_3 : List ByteArray) (a0_4 : Int) (a0_5 : Int) (a1 : Int) (r1 : ByteArray) (r2 : Int) (w : World) (hr0_2 : Kd.C zbB w A0_2 l0_2.length l0_2) (hc0_2 : l0_2.length ≤ c0_2) (hr0_3 : Kd.C Kd.string w A0_3 l0_3.length l0_3) (hc0_3 : l0_3.length ≤ c0_3) (h : zai.f a0_0 a0_1 l0_2 l0_3 a0_4 a0_5 a1 = some (r1, r2)) :
    Calls Try.prog 48 #[.agg #[.int .i64 a0_0, .int .i64 a0_1, .slice A0_2 l0_2.length c0_2, .slice A0_3 l0_3.length c0_3, .int .i64 a0_4, .int .i64 a0_5], .int .i64 a1] w fun e w' => e = .returned (.tuple #[.string r1, .int .i64 r2]) ∧ Below w.heap.size w w' := by
  have hu28 := Try.underlying28
  have HR0_2 := zb.mk hr0_2
  have HC0_2 := zb.mk hc0_2
  clear hr0_2 hc0_2
  have HR0_3 := zb.mk hr0_3
  have HC0_3 := zb.mk hc0_3
  clear hr0_3 hc0_3
  have HB := zb.mk (Below.refl w.heap.size w)
  have H : ((zaa.f a0_0 a0_1 l0_2 l0_3 a0_4 a0_5 a1).bind fun t448 => (if t448 = true then ((zaD.f l0_2).bind fun t449 => ((zar.f (([a0_0, a0_1, a0_4, a0_5] : List Int))).bind fun t455 => (if 0 < (t455.length : Int) then (if 1 < (t455.length : Int) then (if (zL ByteArray.empty t455 0).size + (zL ByteArray.empty t455 1).size ≤ 9223372036854775807 then ((zZ.f t449).bind fun t460 => (if ((zL ByteArray.empty t455 0) ++ (zL ByteArray.empty t455 1)).size + t460.size ≤ 9223372036854775807 then ((zZ.f l0_3).bind fun t461 => (if (((zL ByteArray.empty t455 0) ++ (zL ByteArray.empty t455 1)) ++ t460).size + t461.size ≤ 9223372036854775807 then (if 2 < (t455.length : Int) then (if ((((zL ByteArray.empty t455 0) ++ (zL ByteArray.empty t455 1)) ++ t460) ++ t461).size + (zL ByteArray.empty t455 2).size ≤ 9223372036854775807 then (if 3 < (t455.length : Int) then (if (((((zL ByteArray.empty t455 0) ++ (zL ByteArray.empty t455 1)) ++ t460) ++ t461) ++ (zL ByteArray.empty t455 2)).size + (zL ByteArray.empty t455 3).size ≤ 9223372036854775807 then (some ((((((zL ByteArray.empty t455 0) ++ (zL ByteArray.empty t455 1)) ++ t460) ++ t461) ++ (zL ByteArray.empty t455 2)) ++ (zL ByteArray.empty t455 3), 0)) else (none)) else (none)) else (none)) else (none)) else (none))) else (none))) else (none)) else (none)) else (none)))) else (some ((⟨#[]⟩ : ByteArray), 1)))) = some (r1, r2) := h
  clear h
  replace H := Option.bind_eq_some_iff.mp H
  obtain ⟨t448, A30, H⟩ := H
  replace H : (if t448 = true then ((zaD.f l0_2).bind fun t449 => ((zar.f (([a0_0, a0_1, a0_4, a0_5] : List Int))).bind fun t455 => (if 0 < (t455.length : Int) then (if 1 < (t455.length : Int) then (if (zL ByteArray.empty t455 0).size + (zL ByteArray.empty t455 1).size ≤ 9223372036854775807 then ((zZ.f t449).bind fun t460 => (if ((zL ByteArray.empty t455 0) ++ (zL ByteArray.empty t455 1)).size + t460.size ≤ 9223372036854775807 then ((zZ.f l0_3).bind fun t461 => (if (((zL ByteArray.empty t455 0) ++ (zL ByteArray.empty t455 1)) ++ t460).size + t461.size ≤ 9223372036854775807 then (if 2 < (t455.length : Int) then (if ((((zL ByteArray.empty t455 0) ++ (zL ByteArray.empty t455 1)) ++ t460) ++ t461).size + (zL ByteArray.empty t455 2).size ≤ 9223372036854775807 then (if 3 < (t455.length : Int) then (if (((((zL ByteArray.empty t455 0) ++ (zL ByteArray.empty t455 1)) ++ t460) ++ t461) ++ (zL ByteArray.empty t455 2)).size + (zL ByteArray.empty t455 3).size ≤ 9223372036854775807 then (some ((((((zL ByteArray.empty t455 0) ++ (zL ByteArray.empty t455 1)) ++ t460) ++ t461) ++ (zL ByteArray.empty t455 2)) ++ (zL ByteArray.empty t455 3), 0)) else (none)) else (none)) else (none)) else (none)) else (none))) else (none))) else (none)) else (none)) else (none)))) else (some ((⟨#[]⟩ : ByteArray), 1))) = some (r1, r2) := H
  have A3 := zb.mk A30
  clear A30
  by_cases c4 : t448 = true
  · subst c4
    have H1 : ((zaD.f l0_2).bind fun t449 => ((zar.f (([a0_0, a0_1, a0_4, a0_5] : List Int))).bind fun t455 => (if 0 < (t455.length : Int) then (if 1 < (t455.length : Int) then (if (zL ByteArray.empty t455 0).size + (zL ByteArray.empty t455 1).size ≤ 9223372036854775807 then ((zZ.f t449).bind fun t460 => (if ((zL ByteArray.empty t455 0) ++ (zL ByteArray.empty t455 1)).size + t460.size ≤ 9223372036854775807 then ((zZ.f l0_3).bind fun t461 => (if (((zL ByteArray.empty t455 0) ++ (zL ByteArray.empty t455 1)) ++ t460).size + t461.size ≤ 9223372036854775807 then (if 2 < (t455.length : Int) then (if ((((zL ByteArray.empty t455 0) ++ (zL ByteArray.empty t455 1)) ++ t460) ++ t461).size + (zL ByteArray.empty t455 2).size ≤ 9223372036854775807 then (if 3 < (t455.length : Int) then (if (((((zL ByteArray.empty t455 0) ++ (zL ByteArray.empty t455 1)) ++ t460) ++ t461) ++ (zL ByteArray.empty t455 2)).size + (zL ByteArray.empty t455 3).size ≤ 9223372036854775807 then (some ((((((zL ByteArray.empty t455 0) ++ (zL ByteArray.empty t455 1)) ++ t460) ++ t461) ++ (zL ByteArray.empty t455 2)) ++ (zL ByteArray.empty t455 3), 0)) else (none)) else (none)) else (none)) else (none)) else (none))) else (none))) else (none)) else (none)) else (none)))) = some (r1, r2) := by rw [if_pos rfl] at H; exact H
    clear H
    have H := H1
    clear H1
    replace H := Option.bind_eq_some_iff.mp H
    obtain ⟨t449, A50, H⟩ := H
    replace H : ((zar.f (([a0_0, a0_1, a0_4, a0_5] : List Int))).bind fun t455 => (if 0 < (t455.length : Int) then (if 1 < (t455.length : Int) then (if (zL ByteArray.empty t455 0).size + (zL ByteArray.empty t455 1).size ≤ 9223372036854775807 then ((zZ.f t449).bind fun t460 => (if ((zL ByteArray.empty t455 0) ++ (zL ByteArray.empty t455 1)).size + t460.size ≤ 9223372036854775807 then ((zZ.f l0_3).bind fun t461 => (if (((zL ByteArray.empty t455 0) ++ (zL ByteArray.empty t455 1)) ++ t460).size + t461.size ≤ 9223372036854775807 then (if 2 < (t455.length : Int) then (if ((((zL ByteArray.empty t455 0) ++ (zL ByteArray.empty t455 1)) ++ t460) ++ t461).size + (zL ByteArray.empty t455 2).size ≤ 9223372036854775807 then (if 3 < (t455.length : Int) then (if (((((zL ByteArray.empty t455 0) ++ (zL ByteArray.empty t455 1)) ++ t460) ++ t461) ++ (zL ByteArray.empty t455 2)).size + (zL ByteArray.empty t455 3).size ≤ 9223372036854775807 then (some ((((((zL ByteArray.empty t455 0) ++ (zL ByteArray.empty t455 1)) ++ t460) ++ t461) ++ (zL ByteArray.empty t455 2)) ++ (zL ByteArray.empty t455 3), 0)) else (none)) else (none)) else (none)) else (none)) else (none))) else (none))) else (none)) else (none)) else (none))) = some (r1, r2) := H
    have A5 := zb.mk A50
    clear A50
    obtain ⟨y452, hy452⟩ : ∃ y_ : List Int, y_ = (([a0_0, a0_1, a0_4, a0_5] : List Int)) := ⟨_, rfl⟩
    replace H : ((zar.f y452).bind fun t455 => (if 0 < (t455.length : Int) then (if 1 < (t455.length : Int) then (if (zL ByteArray.empty t455 0).size + (zL ByteArray.empty t455 1).size ≤ 9223372036854775807 then ((zZ.f t449).bind fun t460 => (if ((zL ByteArray.empty t455 0) ++ (zL ByteArray.empty t455 1)).size + t460.size ≤ 9223372036854775807 then ((zZ.f l0_3).bind fun t461 => (if (((zL ByteArray.empty t455 0) ++ (zL ByteArray.empty t455 1)) ++ t460).size + t461.size ≤ 9223372036854775807 then (if 2 < (t455.length : Int) then (if ((((zL ByteArray.empty t455 0) ++ (zL ByteArray.empty t455 1)) ++ t460) ++ t461).size + (zL ByteArray.empty t455 2).size ≤ 9223372036854775807 then (if 3 < (t455.length : Int) then (if (((((zL ByteArray.empty t455 0) ++ (zL ByteArray.empty t455 1)) ++ t460) ++ t461) ++ (zL ByteArray.empty t455 2)).size + (zL ByteArray.empty t455 3).size ≤ 9223372036854775807 then (some ((((((zL ByteArray.empty t455 0) ++ (zL ByteArray.empty t455 1)) ++ t460) ++ t461) ++ (zL ByteArray.empty t455 2)) ++ (zL ByteArray.empty t455 3), 0)) else (none)) else (none)) else (none)) else (none)) else (none))) else (none))) else (none)) else (none)) else (none))) = some (r1, r2) := by first | (rw [hy452]; with_reducible exact H) | (have H2_ := (Option.bind_some _ _).symm.trans H; rw [hy452]; with_reducible exact H2_) | (have H2_ := (Option.bind_some _ _).symm.trans H; with_reducible exact H2_) | with_reducible exact H | (rw [hy452]; exact H) | exact H
    have Ny452 := zb.mk hy452
    clear hy452
    replace H := Option.bind_eq_some_iff.mp H
    obtain ⟨t455, A60, H⟩ := H
    replace H : (if 0 < (t455.length : Int) then (if 1 < (t455.length : Int) then (if (zL ByteArray.empty t455 0).size + (zL ByteArray.empty t455 1).size ≤ 9223372036854775807 then ((zZ.f t449).bind fun t460 => (if ((zL ByteArray.empty t455 0) ++ (zL ByteArray.empty t455 1)).size + t460.size ≤ 9223372036854775807 then ((zZ.f l0_3).bind fun t461 => (if (((zL ByteArray.empty t455 0) ++ (zL ByteArray.empty t455 1)) ++ t460).size + t461.size ≤ 9223372036854775807 then (if 2 < (t455.length : Int) then (if ((((zL ByteArray.empty t455 0) ++ (zL ByteArray.empty t455 1)) ++ t460) ++ t461).size + (zL ByteArray.empty t455 2).size ≤ 9223372036854775807 then (if 3 < (t455.length : Int) then (if (((((zL ByteArray.empty t455 0) ++ (zL ByteArray.empty t455 1)) ++ t460) ++ t461) ++ (zL ByteArray.empty t455 2)).size + (zL ByteArray.empty t455 3).size ≤ 9223372036854775807 then (some ((((((zL ByteArray.empty t455 0) ++ (zL ByteArray.empty t455 1)) ++ t460) ++ t461) ++ (zL ByteArray.empty t455 2)) ++ (zL ByteArray.empty t455 3), 0)) else (none)) else (none)) else (none)) else (none)) else (none))) else (none))) else (none)) else (none)) else (none)) = some (r1, r2) := H
    have A6 := zb.mk A60
    clear A60
    by_cases c7 : 0 < (t455.length : Int)
    · rw [if_pos c7] at H
      have c7b0 : decide (0 < (t455.length : Int)) = true := decide_eq_true c7
      have c7b1 : decide (0 < t455.length) = true := decide_eq_true (by omega)
      clear c7
      by_cases c8 : 1 < (t455.length : Int)
      · rw [if_pos c8] at H
        have c8b0 : decide (1 < (t455.length : Int)) = true := decide_eq_true c8
        have c8b1 : decide (1 < t455.length) = true := decide_eq_true (by omega)
        clear c8
        by_cases c9 : (zL ByteArray.empty t455 0).size + (zL ByteArray.empty t455 1).size ≤ 9223372036854775807
        · rw [if_pos c9] at H
          have c9b0 := eq_true c9
          have c9b1 : decide ((zL ByteArray.empty t455 0).size + (zL ByteArray.empty t455 1).size ≤ 9223372036854775807) = true := decide_eq_true c9
          try have c9b2 : (9223372036854775807 < (zL ByteArray.empty t455 0).size + (zL ByteArray.empty t455 1).size) = False := eq_false (Nat.not_lt.2 c9)
          replace H := Option.bind_eq_some_iff.mp H
          obtain ⟨t460, A100, H⟩ := H
          replace H : (if ((zL ByteArray.empty t455 0) ++ (zL ByteArray.empty t455 1)).size + t460.size ≤ 9223372036854775807 then ((zZ.f l0_3).bind fun t461 => (if (((zL ByteArray.empty t455 0) ++ (zL ByteArray.empty t455 1)) ++ t460).size + t461.size ≤ 9223372036854775807 then (if 2 < (t455.length : Int) then (if ((((zL ByteArray.empty t455 0) ++ (zL ByteArray.empty t455 1)) ++ t460) ++ t461).size + (zL ByteArray.empty t455 2).size ≤ 9223372036854775807 then (if 3 < (t455.length : Int) then (if (((((zL ByteArray.empty t455 0) ++ (zL ByteArray.empty t455 1)) ++ t460) ++ t461) ++ (zL ByteArray.empty t455 2)).size + (zL ByteArray.empty t455 3).size ≤ 9223372036854775807 then (some ((((((zL ByteArray.empty t455 0) ++ (zL ByteArray.empty t455 1)) ++ t460) ++ t461) ++ (zL ByteArray.empty t455 2)) ++ (zL ByteArray.empty t455 3), 0)) else (none)) else (none)) else (none)) else (none)) else (none))) else (none)) = some (r1, r2) := H
          have A10 := zb.mk A100
          clear A100
          by_cases c11 : ((zL ByteArray.empty t455 0) ++ (zL ByteArray.empty t455 1)).size + t460.size ≤ 9223372036854775807
          · rw [if_pos c11] at H
            have c11b0 := eq_true c11
            have c11b1 : decide (((zL ByteArray.empty t455 0) ++ (zL ByteArray.empty t455 1)).size + t460.size ≤ 9223372036854775807) = true := decide_eq_true c11
            try have c11b2 : (9223372036854775807 < ((zL ByteArray.empty t455 0) ++ (zL ByteArray.empty t455 1)).size + t460.size) = False := eq_false (Nat.not_lt.2 c11)
            try (have c11b3 := c11; simp [ByteArray.size_append] at c11b3; have c11b4 := eq_false (Nat.not_lt.2 c11b3); clear c11b3)
            replace H := Option.bind_eq_some_iff.mp H
            obtain ⟨t461, A120, H⟩ := H
            replace H : (if (((zL ByteArray.empty t455 0) ++ (zL ByteArray.empty t455 1)) ++ t460).size + t461.size ≤ 9223372036854775807 then (if 2 < (t455.length : Int) then (if ((((zL ByteArray.empty t455 0) ++ (zL ByteArray.empty t455 1)) ++ t460) ++ t461).size + (zL ByteArray.empty t455 2).size ≤ 9223372036854775807 then (if 3 < (t455.length : Int) then (if (((((zL ByteArray.empty t455 0) ++ (zL ByteArray.empty t455 1)) ++ t460) ++ t461) ++ (zL ByteArray.empty t455 2)).size + (zL ByteArray.empty t455 3).size ≤ 9223372036854775807 then (some ((((((zL ByteArray.empty t455 0) ++ (zL ByteArray.empty t455 1)) ++ t460) ++ t461) ++ (zL ByteArray.empty t455 2)) ++ (zL ByteArray.empty t455 3), 0)) else (none)) else (none)) else (none)) else (none)) else (none)) = some (r1, r2) := H
            have A12 := zb.mk A120
            clear A120
            by_cases c13 : (((zL ByteArray.empty t455 0) ++ (zL ByteArray.empty t455 1)) ++ t460).size + t461.size ≤ 9223372036854775807
            · rw [if_pos c13] at H
              have c13b0 := eq_true c13
              have c13b1 : decide ((((zL ByteArray.empty t455 0) ++ (zL ByteArray.empty t455 1)) ++ t460).size + t461.size ≤ 9223372036854775807) = true := decide_eq_true c13
              try have c13b2 : (9223372036854775807 < (((zL ByteArray.empty t455 0) ++ (zL ByteArray.empty t455 1)) ++ t460).size + t461.size) = False := eq_false (Nat.not_lt.2 c13)
              try (have c13b3 := c13; simp [ByteArray.size_append] at c13b3; have c13b4 := eq_false (Nat.not_lt.2 c13b3); clear c13b3)
              by_cases c14 : 2 < (t455.length : Int)
              · rw [if_pos c14] at H
                have c14b0 : decide (2 < (t455.length : Int)) = true := decide_eq_true c14
                have c14b1 : decide (2 < t455.length) = true := decide_eq_true (by omega)
                clear c14
                by_cases c15 : ((((zL ByteArray.empty t455 0) ++ (zL ByteArray.empty t455 1)) ++ t460) ++ t461).size + (zL ByteArray.empty t455 2).size ≤ 9223372036854775807
                · rw [if_pos c15] at H
                  have c15b0 := eq_true c15
                  have c15b1 : decide (((((zL ByteArray.empty t455 0) ++ (zL ByteArray.empty t455 1)) ++ t460) ++ t461).size + (zL ByteArray.empty t455 2).size ≤ 9223372036854775807) = true := decide_eq_true c15
                  try have c15b2 : (9223372036854775807 < ((((zL ByteArray.empty t455 0) ++ (zL ByteArray.empty t455 1)) ++ t460) ++ t461).size + (zL ByteArray.empty t455 2).size) = False := eq_false (Nat.not_lt.2 c15)
                  try (have c15b3 := c15; simp [ByteArray.size_append] at c15b3; have c15b4 := eq_false (Nat.not_lt.2 c15b3); clear c15b3)
                  by_cases c16 : 3 < (t455.length : Int)
                  · rw [if_pos c16] at H
                    have c16b0 : decide (3 < (t455.length : Int)) = true := decide_eq_true c16
                    have c16b1 : decide (3 < t455.length) = true := decide_eq_true (by omega)
                    clear c16
                    by_cases c17 : (((((zL ByteArray.empty t455 0) ++ (zL ByteArray.empty t455 1)) ++ t460) ++ t461) ++ (zL ByteArray.empty t455 2)).size + (zL ByteArray.empty t455 3).size ≤ 9223372036854775807
                    · rw [if_pos c17] at H
                      have c17b0 := eq_true c17
                      have c17b1 : decide ((((((zL ByteArray.empty t455 0) ++ (zL ByteArray.empty t455 1)) ++ t460) ++ t461) ++ (zL ByteArray.empty t455 2)).size + (zL ByteArray.empty t455 3).size ≤ 9223372036854775807) = true := decide_eq_true c17
                      try have c17b2 : (9223372036854775807 < (((((zL ByteArray.empty t455 0) ++ (zL ByteArray.empty t455 1)) ++ t460) ++ t461) ++ (zL ByteArray.empty t455 2)).size + (zL ByteArray.empty t455 3).size) = False := eq_false (Nat.not_lt.2 c17)
                      try (have c17b3 := c17; simp [ByteArray.size_append] at c17b3; have c17b4 := eq_false (Nat.not_lt.2 c17b3); clear c17b3)
                      simp only [Option.some.injEq, Prod.mk.injEq] at H
                      obtain ⟨rfl, rfl⟩ := H
                      go_enter Try.func48, Try.ntmps48
                      try go_wp2_with (first | ((with_reducible refine zq (N := 2) rfl ?_); refine zp ?hg (N := 2) ?hd (cs := #[.int .i64 a0_0, .int .i64 a0_1, .slice A0_2 l0_2.length c0_2, .slice A0_3 l0_3.length c0_3, .int .i64 a0_4, .int .i64 a0_5]) (t := 28) ?hr ?_; (case hd => rfl); (case hg => rfl); (case hr => first | (go_simp; done) | (go_simp; rfl)); intro gb447 hg w18 hbox hb; have n0_ := zb.mk (zl (by repeat (first | (with_reducible first | exact HB.out | apply zi | apply zd | apply zj) | exact HB.out)) hb); have n1_ := zb.mk (hbox); have n2_ := zb.mk ((by rw [hg]; exact (zo (by repeat (first | (with_reducible first | exact HB.out | apply zi | apply zd | apply zj) | exact HB.out))) : w.heap.size ≤ gb447)); have n3_ := zb.mk ((by rw [hg]; exact (zo (by repeat (first | (with_reducible first | exact HB.out | apply zi | apply zd | apply zj) | exact HB.out))) : w.heap.size ≤ gb447)); clear HB; have HB := n0_; have BK447 := n1_; have GW447 := n2_; have GE447 := n3_; clear n0_ n1_ n2_ n3_; clear hb hbox hg; have hcz19_0 : w18.cell? ⟨gb447, 0, none⟩ = some (.int .i64 a0_0) := (zc BK447.out 0).trans rfl; have hcz19_1 : w18.cell? ⟨gb447, 1, none⟩ = some (.int .i64 a0_1) := (zc BK447.out 1).trans rfl; have hcz19_2 : w18.cell? ⟨gb447, 2, none⟩ = some (.slice A0_2 l0_2.length c0_2) := (zc BK447.out 2).trans rfl; have hcz19_3 : w18.cell? ⟨gb447, 3, none⟩ = some (.slice A0_3 l0_3.length c0_3) := (zc BK447.out 3).trans rfl; have hcz19_4 : w18.cell? ⟨gb447, 4, none⟩ = some (.int .i64 a0_4) := (zc BK447.out 4).trans rfl; have hcz19_5 : w18.cell? ⟨gb447, 5, none⟩ = some (.int .i64 a0_5) := (zc BK447.out 5).trans rfl; have hfz19_0 := za BK447.out 0; have hfz19_1 := za BK447.out 1; have hfz19_2 := za BK447.out 2; have hfz19_3 := za BK447.out 3; have hfz19_4 := za BK447.out 4; have hfz19_5 := za BK447.out 5) | ((with_reducible refine zu (f := 56) rfl ?_); refine zQ (some 10) rfl rfl Try.func56 (by kernel_rfl) rfl #[.agg #[.int .i64 a0_0, .int .i64 a0_1, .slice A0_2 l0_2.length c0_2, .slice A0_3 l0_3.length c0_3, .int .i64 a0_4, .int .i64 a0_5], .int .i64 a1] rfl (by (try simp only [List.map_toArray, List.map_cons, List.map_nil]); first | done | rfl | (simp only [List.length_drop, List.length_take]; rfl)) ?_; (with_reducible refine (zaa.calls a0_0 a0_1 _ _ l0_2 _ _ l0_3 a0_4 a0_5 a1 true _ ?side1 ?side2 ?side3 ?side4 A3.out).mono ?_); (case side1 => repeat (first | exact (Kd.C_below HR0_2.out HB.out) | (with_reducible refine Kd.C_alloc ?_ _) | (with_reducible refine Kd.C_drewN ?_ _) | (with_reducible refine Kd.C_drew ?_))); (case side2 => exact HC0_2.out); (case side3 => repeat (first | exact (Kd.C_below HR0_3.out HB.out) | (with_reducible refine Kd.C_alloc ?_ _) | (with_reducible refine Kd.C_drewN ?_ _) | (with_reducible refine Kd.C_drew ?_))); (case side4 => exact HC0_3.out); rintro e w20 ⟨rfl, hb⟩; refine ⟨_, rfl, ?_⟩; have n0_ := zb.mk (zk (g := gb447) (o := .cells #[.int .i64 a0_0, .int .i64 a0_1, .slice A0_2 l0_2.length c0_2, .slice A0_3 l0_3.length c0_3, .int .i64 a0_4, .int .i64 a0_5] 28 (0, 0)) (by (with_reducible repeat (first | refine ze ?_ _ | refine zh ?_ | refine zf ?_ _)); exact BK447.out) hb); have n1_ := zb.mk (zl (by repeat (first | (with_reducible first | exact HB.out | apply zi | apply zd | apply zj | refine zg ?_ GE447.out) | exact HB.out)) hb); clear BK447; clear HB; have BK447 := n0_; have HB := n1_; clear n0_ n1_; (try clear hb); (try clear hb2); (try clear hk); (try clear hi); have hcz21_0 : w20.cell? ⟨gb447, 0, none⟩ = some (.int .i64 a0_0) := (zc BK447.out 0).trans rfl; have hcz21_1 : w20.cell? ⟨gb447, 1, none⟩ = some (.int .i64 a0_1) := (zc BK447.out 1).trans rfl; have hcz21_2 : w20.cell? ⟨gb447, 2, none⟩ = some (.slice A0_2 l0_2.length c0_2) := (zc BK447.out 2).trans rfl; have hcz21_3 : w20.cell? ⟨gb447, 3, none⟩ = some (.slice A0_3 l0_3.length c0_3) := (zc BK447.out 3).trans rfl; have hcz21_4 : w20.cell? ⟨gb447, 4, none⟩ = some (.int .i64 a0_4) := (zc BK447.out 4).trans rfl; have hcz21_5 : w20.cell? ⟨gb447, 5, none⟩ = some (.int .i64 a0_5) := (zc BK447.out 5).trans rfl; have hfz21_0 := za BK447.out 0; have hfz21_1 := za BK447.out 1; have hfz21_2 := za BK447.out 2; have hfz21_3 := za BK447.out 3; have hfz21_4 := za BK447.out 4; have hfz21_5 := za BK447.out 5) | ((with_reducible refine zu (f := 71) rfl ?_); refine zQ (some 14) rfl rfl Try.func71 (by kernel_rfl) rfl #[.slice A0_2 l0_2.length c0_2, .func (.func 72) #[] #[]] rfl (by (try simp only [List.map_toArray, List.map_cons, List.map_nil]); first | done | rfl | (simp only [List.length_drop, List.length_take]; rfl)) ?_; (with_reducible refine (zaD.calls _ _ l0_2 t449 _ ?side1 ?side2 A5.out).mono ?_); (case side1 => repeat (first | exact (Kd.C_below HR0_2.out HB.out) | (with_reducible refine Kd.C_alloc ?_ _) | (with_reducible refine Kd.C_drewN ?_ _) | (with_reducible refine Kd.C_drew ?_))); (case side2 => exact HC0_2.out); rintro e w22 ⟨v450, rfl, ho0, hb⟩; refine ⟨_, rfl, ?_⟩; have n0_ := zb.mk (Kd.R_lower ho0 (zo (by repeat (first | (with_reducible first | exact HB.out | apply zi | apply zd | apply zj | refine zg ?_ GE447.out) | exact HB.out)))); have n1_ := zb.mk (zk (g := gb447) (o := .cells #[.int .i64 a0_0, .int .i64 a0_1, .slice A0_2 l0_2.length c0_2, .slice A0_3 l0_3.length c0_3, .int .i64 a0_4, .int .i64 a0_5] 28 (0, 0)) (by (with_reducible repeat (first | refine ze ?_ _ | refine zh ?_ | refine zf ?_ _)); exact BK447.out) hb); have n2_ := zb.mk (zl (by repeat (first | (with_reducible first | exact HB.out | apply zi | apply zd | apply zj | refine zg ?_ GE447.out) | exact HB.out)) hb); clear BK447; clear HB; have HO451 := n0_; have BK447 := n1_; have HB := n2_; clear n0_ n1_ n2_; (try clear hb); (try clear hb2); (try clear hk); (try clear hi); (try clear ho0); have hcz23_0 : w22.cell? ⟨gb447, 0, none⟩ = some (.int .i64 a0_0) := (zc BK447.out 0).trans rfl; have hcz23_1 : w22.cell? ⟨gb447, 1, none⟩ = some (.int .i64 a0_1) := (zc BK447.out 1).trans rfl; have hcz23_2 : w22.cell? ⟨gb447, 2, none⟩ = some (.slice A0_2 l0_2.length c0_2) := (zc BK447.out 2).trans rfl; have hcz23_3 : w22.cell? ⟨gb447, 3, none⟩ = some (.slice A0_3 l0_3.length c0_3) := (zc BK447.out 3).trans rfl; have hcz23_4 : w22.cell? ⟨gb447, 4, none⟩ = some (.int .i64 a0_4) := (zc BK447.out 4).trans rfl; have hcz23_5 : w22.cell? ⟨gb447, 5, none⟩ = some (.int .i64 a0_5) := (zc BK447.out 5).trans rfl; have hfz23_0 := za BK447.out 0; have hfz23_1 := za BK447.out 1; have hfz23_2 := za BK447.out 2; have hfz23_3 := za BK447.out 3; have hfz23_4 := za BK447.out 4; have hfz23_5 := za BK447.out 5) | ((with_reducible refine zq (N := 25) rfl ?_); refine Kd.R_lit (Kd.int .i64) _ 3 ?hg (N := 25) ?hd (xs := ([a0_0, a0_1, a0_4, a0_5] : List Int)) (inner := [.int .i64 a0_0, .int .i64 a0_1, .int .i64 a0_4, .int .i64 a0_5]) (ok := fun _ => True) (okp := fun _ => True) ?hr ?hp (fun _ hk => hk) trivial (Below.refl _ _) (Nat.le_refl _) (by simp) ?_; (case hd => rfl); (case hg => rfl); (case hr => first | (go_simp; done) | (go_simp; rfl)); (case hp => exact (zaM.one (show Kd.M (Kd.int .i64) _ _ _ a0_0 [.int .i64 a0_0] from rfl) (zaM.one (show Kd.M (Kd.int .i64) _ _ _ a0_1 [.int .i64 a0_1] from rfl) (zaM.one (show Kd.M (Kd.int .i64) _ _ _ a0_4 [.int .i64 a0_4] from rfl) (zaM.one (show Kd.M (Kd.int .i64) _ _ _ a0_5 [.int .i64 a0_5] from rfl) (zaM.none _ _)))))); intro v453 w24 ho25 hb hg_ hnew_; clear hg_ hnew_; (first | rw [← Ny452.out] at ho25 | (simp only [Int.reduceToNat] at ho25; rw [← Ny452.out] at ho25)); have n0_ := zb.mk (Kd.R_below (by (with_reducible repeat (first | apply Kd.R_alloc | apply Kd.R_drewN | apply Kd.R_drew)); exact HO451.out) hb); have n1_ := zb.mk (Kd.R_lower ho25 (zo (by repeat (first | (with_reducible first | exact HB.out | apply zi | apply zd | apply zj | refine zg ?_ GE447.out) | exact HB.out)))); have n2_ := zb.mk (zk (g := gb447) (o := .cells #[.int .i64 a0_0, .int .i64 a0_1, .slice A0_2 l0_2.length c0_2, .slice A0_3 l0_3.length c0_3, .int .i64 a0_4, .int .i64 a0_5] 28 (0, 0)) (by (with_reducible repeat (first | refine ze ?_ _ | refine zh ?_ | refine zf ?_ _)); exact BK447.out) hb); have n3_ := zb.mk (zl (by repeat (first | (with_reducible first | exact HB.out | apply zi | apply zd | apply zj | refine zg ?_ GE447.out) | exact HB.out)) hb); clear HO451; clear BK447; clear HB; have HO451 := n0_; have HO454 := n1_; have BK447 := n2_; have HB := n3_; clear n0_ n1_ n2_ n3_; clear hb ho25; obtain ⟨Ao26, co26, eo26⟩ := Kd.R_slice HO454.out; subst eo26) | ((with_reducible refine zu (f := 74) rfl ?_); refine zQ (some 26) rfl rfl Try.func74 (by kernel_rfl) rfl #[.slice Ao26 y452.length co26, .func (.func 75) #[] #[]] rfl (by (try simp only [List.map_toArray, List.map_cons, List.map_nil]); first | done | rfl | (simp only [List.length_drop, List.length_take]; rfl)) ?_; (with_reducible refine (zar.calls _ _ y452 t455 _ ?side1 ?side2 A6.out).mono ?_); (case side1 => repeat (first | exact (Kd.R_reads' HO454.out).2.2 | (with_reducible refine Kd.C_alloc ?_ _) | (with_reducible refine Kd.C_drewN ?_ _) | (with_reducible refine Kd.C_drew ?_))); (case side2 => exact (Kd.R_reads' HO454.out).2.1); rintro e w27 ⟨v456, rfl, ho0, hb⟩; refine ⟨_, rfl, ?_⟩; have n0_ := zb.mk (Kd.R_elder' (by (with_reducible repeat (first | apply Kd.R_alloc | apply Kd.R_drewN | apply Kd.R_drew)); exact HO451.out) (Kd.R_base ho0) hb); have n1_ := zb.mk (Kd.R_below (by (with_reducible repeat (first | apply Kd.R_alloc | apply Kd.R_drewN | apply Kd.R_drew)); exact HO454.out) hb); have n2_ := zb.mk (Kd.R_lower (Kd.R_new' ho0 (Kd.R_lt (by (with_reducible repeat (first | apply Kd.R_alloc | apply Kd.R_drewN | apply Kd.R_drew)); exact HO451.out))) (zo (by repeat (first | (with_reducible first | exact HB.out | apply zi | apply zd | apply zj | refine zg ?_ GE447.out) | exact HB.out)))); have n3_ := zb.mk (zk (g := gb447) (o := .cells #[.int .i64 a0_0, .int .i64 a0_1, .slice A0_2 l0_2.length c0_2, .slice A0_3 l0_3.length c0_3, .int .i64 a0_4, .int .i64 a0_5] 28 (0, 0)) (by (with_reducible repeat (first | refine ze ?_ _ | refine zh ?_ | refine zf ?_ _)); exact BK447.out) hb); have n4_ := zb.mk (zl (by repeat (first | (with_reducible first | exact HB.out | apply zi | apply zd | apply zj | refine zg ?_ GE447.out) | exact HB.out)) hb); clear HO451; clear HO454; clear BK447; clear HB; have HO451 := n0_; have HO454 := n1_; have HO457 := n2_; have BK447 := n3_; have HB := n4_; clear n0_ n1_ n2_ n3_ n4_; (try clear hb); (try clear hb2); (try clear hk); (try clear hi); (try clear ho0)))
                      have n0_ := zb.mk (Kd.R_drew HO451.out)
                      have n1_ := zb.mk (Kd.R_drew HO454.out)
                      have n2_ := zb.mk (Kd.R_drew HO457.out)
                      have n3_ := zb.mk (zh BK447.out)
                      have n4_ := zb.mk (zj HB.out)
                      clear HO451
                      clear HO454
                      clear HO457
                      clear BK447
                      clear HB
                      have HO451 := n0_
                      have HO454 := n1_
                      have HO457 := n2_
                      have BK447 := n3_
                      have HB := n4_
                      clear n0_ n1_ n2_ n3_ n4_
                      obtain ⟨Ao29, co29, eo29⟩ := Kd.R_slice HO457.out
                      (first | subst eo29 | (injection eo29 with f1_ f2_ f3_; have f4_ := f1_.symm; have f5_ := f3_.symm; clear f1_ f2_ f3_; subst f4_; subst f5_))
                      have p458 : 0 ≤ (0 : Int) := (by omega)
                      have q458 : 0 < (t455.length : Int) := of_decide_eq_true (by first | (with_reducible assumption) | assumption)
                      obtain ⟨ad458, e458, hx458_0⟩ := Kd.at_string (Kd.R_reads' HO457.out).2.2 0 p458 q458
                      cases e458
                      have qi458 : (0 < t455.length) = True := eq_true (by omega)
                      (try rw [show ((0 : Int)).toNat = 0 from rfl] at hx458_0)
                      (try rw [Addr.add_zero'] at hx458_0)
                      replace p458 := eq_true p458
                      replace q458 := eq_true q458
                      have p459 : 0 ≤ (1 : Int) := (by omega)
                      have q459 : 1 < (t455.length : Int) := of_decide_eq_true (by first | (with_reducible assumption) | assumption)
                      obtain ⟨ad459, e459, hx459_0⟩ := Kd.at_string (Kd.R_reads' HO457.out).2.2 1 p459 q459
                      obtain rfl : ad458 = ad459 := (by injection e459)
                      (try simp only [show (1 : Int).toNat = 1 from rfl, Nat.reduceMul, Nat.reduceEqDiff, Go.Addr.add, ↓reduceIte] at hx459_0)
                      have qi459 : (1 < t455.length) = True := eq_true (by omega)
                      (try rw [show ((1 : Int)).toNat = 1 from rfl] at hx459_0)
                      replace p459 := eq_true p459
                      replace q459 := eq_true q459
                      have p462 : 0 ≤ (2 : Int) := (by omega)
                      have q462 : 2 < (t455.length : Int) := of_decide_eq_true (by first | (with_reducible assumption) | assumption)
                      obtain ⟨ad462, e462, hx462_0⟩ := Kd.at_string (Kd.R_reads' HO457.out).2.2 2 p462 q462
                      obtain rfl : ad458 = ad462 := (by injection e462)
                      (try simp only [show (2 : Int).toNat = 2 from rfl, Nat.reduceMul, Nat.reduceEqDiff, Go.Addr.add, ↓reduceIte] at hx462_0)
                      have qi462 : (2 < t455.length) = True := eq_true (by omega)
                      (try rw [show ((2 : Int)).toNat = 2 from rfl] at hx462_0)
                      replace p462 := eq_true p462
                      replace q462 := eq_true q462
                      have p463 : 0 ≤ (3 : Int) := (by omega)
                      have q463 : 3 < (t455.length : Int) := of_decide_eq_true (by first | (with_reducible assumption) | assumption)
                      obtain ⟨ad463, e463, hx463_0⟩ := Kd.at_string (Kd.R_reads' HO457.out).2.2 3 p463 q463
                      obtain rfl : ad458 = ad463 := (by injection e463)
                      (try simp only [show (3 : Int).toNat = 3 from rfl, Nat.reduceMul, Nat.reduceEqDiff, Go.Addr.add, ↓reduceIte] at hx463_0)
                      have qi463 : (3 < t455.length) = True := eq_true (by omega)
                      (try rw [show ((3 : Int)).toNat = 3 from rfl] at hx463_0)
                      replace p463 := eq_true p463
                      replace q463 := eq_true q463
                      obtain ⟨Ao30, co30, eo30⟩ := Kd.R_slice HO451.out
                      (first | subst eo30 | (injection eo30 with f1_ f2_ f3_; have f4_ := f1_.symm; have f5_ := f3_.symm; clear f1_ f2_ f3_; subst f4_; subst f5_))
                      refine zdq (n := 24) (S := fun w' => w'.cell? ⟨gb447, 0, none⟩ = some (.int .i64 a0_0) ∧ w'.cell? ⟨gb447, 1, none⟩ = some (.int .i64 a0_1) ∧ w'.cell? ⟨gb447, 2, none⟩ = some (.slice A0_2 l0_2.length c0_2) ∧ w'.cell? ⟨gb447, 3, none⟩ = some (.slice A0_3 l0_3.length c0_3) ∧ w'.cell? ⟨gb447, 4, none⟩ = some (.int .i64 a0_4) ∧ w'.cell? ⟨gb447, 5, none⟩ = some (.int .i64 a0_5) ∧ w'.cell? ad458 = some (.string (zL ByteArray.empty t455 0)) ∧ w'.cell? ⟨ad458.block, ad458.off + 1, none⟩ = some (.string (zL ByteArray.empty t455 1)) ∧ w'.cell? ⟨ad458.block, ad458.off + 2, none⟩ = some (.string (zL ByteArray.empty t455 2)) ∧ w'.cell? ⟨ad458.block, ad458.off + 3, none⟩ = some (.string (zL ByteArray.empty t455 3))) (ds := []) #[false, false, false, false, false, false, false, false, false, false, false, false, false, false, false, false, false, false, false, false, false, false, false, false] (by kernel_rfl) rfl rfl ⟨(zc BK447.out 0).trans rfl, (zc BK447.out 1).trans rfl, (zc BK447.out 2).trans rfl, (zc BK447.out 3).trans rfl, (zc BK447.out 4).trans rfl, (zc BK447.out 5).trans rfl, hx458_0, hx459_0, hx462_0, hx463_0⟩ (fun hHeld => ?_); refine zbW zai.tab5 zai.bits5 (fun HT_ HW_ => ?_)
                      generalize w27.drew = w28 at HO451 HO454 HO457 BK447 HB hx458_0 hx459_0 hx462_0 hx463_0 hHeld ⊢
                      refine zal (i := 0) (N := some 27) (v := ?_) (a' := ?_) #[true, false, false, false, false, false, false, false, false, false, false, false, false, false, false, false, false, false, false, false, false, false, false, false] rfl rfl (z8 HT_.out (by kernel_rfl)) (fun _ _ _ h => h) (Or.inl ⟨by rfl, ?_⟩) ?_ ?_
                      rotate_left
                      · intro w'
                        go_simp
                        with_reducible rfl
                      rotate_left
                      · simp only [Act.put, List.setIfInBounds_toArray, List.set_cons_zero, List.set_cons_succ, zU, zW]
                        rfl
                      refine zal (i := 1) (N := some 28) (v := ?_) (a' := ?_) #[true, true, false, false, false, false, false, false, false, false, false, false, false, false, false, false, false, false, false, false, false, false, false, false] rfl rfl (z8 HT_.out (by kernel_rfl)) (fun _ _ _ h => h) (Or.inl ⟨by rfl, ?_⟩) ?_ ?_
                      rotate_left
                      · intro w'
                        go_simp
                        with_reducible rfl
                      rotate_left
                      · simp only [Act.put, List.setIfInBounds_toArray, List.set_cons_zero, List.set_cons_succ, zU, zW]
                        rfl
                      refine zal (i := 3) (N := some 30) (v := ?_) (a' := ?_) #[true, true, false, true, false, false, false, false, false, false, false, false, false, false, false, false, false, false, false, false, false, false, false, false] rfl rfl (z8 HT_.out (by kernel_rfl)) (fun _ _ _ h => h) (Or.inl ⟨by rfl, ?_⟩) ?_ ?_
                      rotate_left
                      · intro w'
                        go_simp
                        with_reducible rfl
                      rotate_left
                      · simp only [Act.put, List.setIfInBounds_toArray, List.set_cons_zero, List.set_cons_succ, zU, zW]
                        rfl
                      refine zal (i := 4) (N := some 31) (v := ?_) (a' := ?_) #[true, true, false, true, true, false, false, false, false, false, false, false, false, false, false, false, false, false, false, false, false, false, false, false] rfl rfl (z8 HT_.out (by kernel_rfl)) (fun _ _ _ h => h) (Or.inl ⟨by rfl, ?_⟩) ?_ ?_
                      rotate_left
                      · intro w'
                        go_simp
                        with_reducible rfl
                      rotate_left
                      · simp only [Act.put, List.setIfInBounds_toArray, List.set_cons_zero, List.set_cons_succ, zU, zW]
                        rfl
                      refine zal (i := 7) (N := some 34) (v := ?_) (a' := ?_) #[true, true, false, true, true, false, false, true, false, false, false, false, false, false, false, false, false, false, false, false, false, false, false, false] rfl rfl (z8 HT_.out (by kernel_rfl)) (fun _ _ _ h => h) (Or.inl ⟨by rfl, ?_⟩) ?_ ?_
                      rotate_left
                      · intro w'
                        go_simp
                        with_reducible rfl
                      rotate_left
                      · simp only [Act.put, List.setIfInBounds_toArray, List.set_cons_zero, List.set_cons_succ, zU, zW]
                        rfl
                      refine zal (i := 10) (N := some 37) (v := ?_) (a' := ?_) #[true, true, false, true, true, false, false, true, false, false, true, false, false, false, false, false, false, false, false, false, false, false, false, false] rfl rfl (z8 HT_.out (by kernel_rfl)) (fun _ _ _ h => h) (Or.inl ⟨by rfl, ?_⟩) ?_ ?_
                      rotate_left
                      · intro w'
                        go_simp
                        with_reducible rfl
                      rotate_left
                      · simp only [Act.put, List.setIfInBounds_toArray, List.set_cons_zero, List.set_cons_succ, zU, zW]
                        rfl
                      refine zal (i := 14) (N := some 41) (v := ?_) (a' := ?_) #[true, true, false, true, true, false, false, true, false, false, true, false, false, false, true, false, false, false, false, false, false, false, false, false] rfl rfl (z8 HT_.out (by kernel_rfl)) (fun _ _ _ h => h) (Or.inl ⟨by rfl, ?_⟩) ?_ ?_
                      rotate_left
                      · intro w'
                        go_simp
                        with_reducible rfl
                      rotate_left
                      · simp only [Act.put, List.setIfInBounds_toArray, List.set_cons_zero, List.set_cons_succ, zU, zW]
                        rfl
                      refine zal (i := 15) (N := some 42) (v := ?_) (a' := ?_) #[true, true, false, true, true, false, false, true, false, false, true, false, false, false, true, true, false, false, false, false, false, false, false, false] rfl rfl (z8 HT_.out (by kernel_rfl)) (fun _ _ _ h => h) (Or.inl ⟨by rfl, ?_⟩) ?_ ?_
                      rotate_left
                      · intro w'
                        go_simp
                        with_reducible rfl
                      rotate_left
                      · simp only [Act.put, List.setIfInBounds_toArray, List.set_cons_zero, List.set_cons_succ, zU, zW]
                        rfl
                      refine zal (i := 18) (N := some 45) (v := ?_) (a' := ?_) #[true, true, false, true, true, false, false, true, false, false, true, false, false, false, true, true, false, false, true, false, false, false, false, false] rfl rfl (z8 HT_.out (by kernel_rfl)) (fun _ _ _ h => h) (Or.inl ⟨by rfl, ?_⟩) ?_ ?_
                      rotate_left
                      · intro w'
                        go_simp
                        with_reducible rfl
                      rotate_left
                      · simp only [Act.put, List.setIfInBounds_toArray, List.set_cons_zero, List.set_cons_succ, zU, zW]
                        rfl
                      refine zal (i := 19) (N := some 46) (v := ?_) (a' := ?_) #[true, true, false, true, true, false, false, true, false, false, true, false, false, false, true, true, false, false, true, true, false, false, false, false] rfl rfl (z8 HT_.out (by kernel_rfl)) (fun _ _ _ h => h) (Or.inl ⟨by rfl, ?_⟩) ?_ ?_
                      rotate_left
                      · intro w'
                        go_simp
                        with_reducible rfl
                      rotate_left
                      · simp only [Act.put, List.setIfInBounds_toArray, List.set_cons_zero, List.set_cons_succ, zU, zW]
                        rfl
                      refine take_ (i := 2) (N := some 29) (v := ?_) (a' := ?_) #[true, true, true, true, true, false, false, true, false, false, true, false, false, false, true, true, false, false, true, true, false, false, false, false] rfl rfl (zaP HT_.out HW_.out (by kernel_rfl)) (fun _ _ _ h => h) (Or.inl ⟨by rfl, ?_⟩) hHeld ?_ ?_
                      rotate_left
                      · rintro w' ⟨s0, s1, s2, s3, s4, s5, s6, s7, s8, s9⟩
                        go_simp
                        with_reducible rfl
                      rotate_left
                      · simp only [Act.put, List.setIfInBounds_toArray, List.set_cons_zero, List.set_cons_succ, zU, zW]
                        rfl
                      refine take_ (i := 5) (N := some 32) (v := ?_) (a' := ?_) #[true, true, true, true, true, true, false, true, false, false, true, false, false, false, true, true, false, false, true, true, false, false, false, false] rfl rfl (zaP HT_.out HW_.out (by kernel_rfl)) (fun _ _ _ h => h) (Or.inl ⟨by rfl, ?_⟩) hHeld ?_ ?_
                      rotate_left
                      · rintro w' ⟨s0, s1, s2, s3, s4, s5, s6, s7, s8, s9⟩
                        go_simp
                        with_reducible rfl
                      rotate_left
                      · simp only [Act.put, List.setIfInBounds_toArray, List.set_cons_zero, List.set_cons_succ, zU, zW]
                        rfl
                      refine zal (i := 6) (N := some 33) (v := ?_) (a' := ?_) #[true, true, true, true, true, true, true, true, false, false, true, false, false, false, true, true, false, false, true, true, false, false, false, false] rfl rfl (z8 HT_.out (by kernel_rfl)) (fun _ _ _ h => h) (Or.inl ⟨by rfl, ?_⟩) ?_ ?_
                      rotate_left
                      · intro w'
                        go_simp
                        with_reducible rfl
                      rotate_left
                      · simp only [Act.put, List.setIfInBounds_toArray, List.set_cons_zero, List.set_cons_succ, zU, zW]
                        rfl
                      refine take_ (i := 11) (N := some 38) (v := ?_) (a' := ?_) #[true, true, true, true, true, true, true, true, false, false, true, true, false, false, true, true, false, false, true, true, false, false, false, false] rfl rfl (zaP HT_.out HW_.out (by kernel_rfl)) (fun _ _ _ h => h) (Or.inl ⟨by rfl, ?_⟩) hHeld ?_ ?_
                      rotate_left
                      · rintro w' ⟨s0, s1, s2, s3, s4, s5, s6, s7, s8, s9⟩
                        go_simp
                        with_reducible rfl
                      rotate_left
                      · simp only [Act.put, List.setIfInBounds_toArray, List.set_cons_zero, List.set_cons_succ, zU, zW]
                        rfl
                      refine take_ (i := 16) (N := some 43) (v := ?_) (a' := ?_) #[true, true, true, true, true, true, true, true, false, false, true, true, false, false, true, true, true, false, true, true, false, false, false, false] rfl rfl (zaP HT_.out HW_.out (by kernel_rfl)) (fun _ _ _ h => h) (Or.inl ⟨by rfl, ?_⟩) hHeld ?_ ?_
                      rotate_left
                      · rintro w' ⟨s0, s1, s2, s3, s4, s5, s6, s7, s8, s9⟩
                        go_simp
                        with_reducible rfl
                      rotate_left
                      · simp only [Act.put, List.setIfInBounds_toArray, List.set_cons_zero, List.set_cons_succ, zU, zW]
                        rfl
                      refine take_ (i := 20) (N := some 47) (v := ?_) (a' := ?_) #[true, true, true, true, true, true, true, true, false, false, true, true, false, false, true, true, true, false, true, true, true, false, false, false] rfl rfl (zaP HT_.out HW_.out (by kernel_rfl)) (fun _ _ _ h => h) (Or.inl ⟨by rfl, ?_⟩) hHeld ?_ ?_
                      rotate_left
                      · rintro w' ⟨s0, s1, s2, s3, s4, s5, s6, s7, s8, s9⟩
                        go_simp
                        with_reducible rfl
                      rotate_left
                      · simp only [Act.put, List.setIfInBounds_toArray, List.set_cons_zero, List.set_cons_succ, zU, zW]
                        rfl
                      refine zdL (i := 8) (N := some 35) #[true, true, true, true, true, true, true, true, true, false, true, true, false, false, true, true, true, false, true, true, true, false, false, false] rfl rfl (zbO HT_.out (by kernel_rfl)) (by decide) (fun K hK => ?_)
                      refine zcp Try.func76 (by kernel_rfl) rfl #[.slice Ao30 t449.length co30] (by rfl) rfl rfl (by (try simp only [List.map_toArray, List.map_cons, List.map_nil]); first | done | rfl | (simp only [List.length_drop, List.length_take]; rfl)) ?_
                      with_reducible refine (zZ.calls _ _ t449 t460 _ ?side1 ?side2 A10.out).mono ?_
                      (case side1 => repeat (first | exact (Kd.R_reads' HO451.out).2.2 | (with_reducible refine Kd.C_alloc ?_ _) | (with_reducible refine Kd.C_drewN ?_ _) | (with_reducible refine Kd.C_drew ?_)))
                      (case side2 => exact (Kd.R_reads' HO451.out).2.1)
                      rintro e w31 ⟨rfl, hb⟩
                      have HS6_ := (hb.cell (World.block_lt_of_cell? _ _ (hHeld.2.2.2.2.2.2.1))).trans (hHeld.2.2.2.2.2.2.1)
                      have HS7_ := (hb.cell (World.block_lt_of_cell? _ _ (hHeld.2.2.2.2.2.2.2.1))).trans (hHeld.2.2.2.2.2.2.2.1)
                      have HS8_ := (hb.cell (World.block_lt_of_cell? _ _ (hHeld.2.2.2.2.2.2.2.2.1))).trans (hHeld.2.2.2.2.2.2.2.2.1)
                      have HS9_ := (hb.cell (World.block_lt_of_cell? _ _ (hHeld.2.2.2.2.2.2.2.2.2))).trans (hHeld.2.2.2.2.2.2.2.2.2)
                      refine ⟨_, rfl, ?_⟩
                      have n0_ := zb.mk (Kd.R_below (by (with_reducible repeat (first | apply Kd.R_alloc | apply Kd.R_drewN | apply Kd.R_drew)); exact HO451.out) hb)
                      have n1_ := zb.mk (Kd.R_below (by (with_reducible repeat (first | apply Kd.R_alloc | apply Kd.R_drewN | apply Kd.R_drew)); exact HO454.out) hb)
                      have n2_ := zb.mk (Kd.R_below (by (with_reducible repeat (first | apply Kd.R_alloc | apply Kd.R_drewN | apply Kd.R_drew)); exact HO457.out) hb)
                      have n3_ := zb.mk (zk (g := gb447) (o := .cells #[.int .i64 a0_0, .int .i64 a0_1, .slice A0_2 l0_2.length c0_2, .slice A0_3 l0_3.length c0_3, .int .i64 a0_4, .int .i64 a0_5] 28 (0, 0)) (by (with_reducible repeat (first | refine ze ?_ _ | refine zh ?_ | refine zf ?_ _)); exact BK447.out) hb)
                      have n4_ := zb.mk (zl (by repeat (first | (with_reducible first | exact HB.out | apply zi | apply zd | apply zj | refine zg ?_ GE447.out) | exact HB.out)) hb)
                      clear HO451
                      clear HO454
                      clear HO457
                      clear BK447
                      clear HB
                      have HO451 := n0_
                      have HO454 := n1_
                      have HO457 := n2_
                      have BK447 := n3_
                      have HB := n4_
                      clear n0_ n1_ n2_ n3_ n4_
                      (try clear hb)
                      (try clear hb2)
                      (try clear hk)
                      (try clear hi)
                      refine hK.out _ _ ⟨(zc BK447.out 0).trans rfl, (zc BK447.out 1).trans rfl, (zc BK447.out 2).trans rfl, (zc BK447.out 3).trans rfl, (zc BK447.out 4).trans rfl, (zc BK447.out 5).trans rfl, HS6_, HS7_, HS8_, HS9_⟩ (fun hHeld => ?_)
                      clear hK K
                      refine zcq (a' := ?_) ?_ ?_
                      rotate_left
                      · show Act.put _ (some 35) _ = _
                        simp only [Act.put, List.setIfInBounds_toArray, List.set_cons_zero, List.set_cons_succ, zU, zW]
                        rfl
                      refine zal (i := 9) (N := some 36) (v := ?_) (a' := ?_) #[true, true, true, true, true, true, true, true, true, true, true, true, false, false, true, true, true, false, true, true, true, false, false, false] rfl rfl (z8 HT_.out (by kernel_rfl)) (fun _ _ _ h => h) (Or.inl ⟨by rfl, ?_⟩) ?_ ?_
                      rotate_left
                      · intro w'
                        go_simp
                        with_reducible rfl
                      rotate_left
                      · simp only [Act.put, List.setIfInBounds_toArray, List.set_cons_zero, List.set_cons_succ, zU, zW]
                        rfl
                      refine zdL (i := 12) (N := some 39) #[true, true, true, true, true, true, true, true, true, true, true, true, true, false, true, true, true, false, true, true, true, false, false, false] rfl rfl (zbO HT_.out (by kernel_rfl)) (by decide) (fun K hK => ?_)
                      refine zcp Try.func76 (by kernel_rfl) rfl #[.slice A0_3 l0_3.length c0_3] (by rfl) rfl rfl (by (try simp only [List.map_toArray, List.map_cons, List.map_nil]); first | done | rfl | (simp only [List.length_drop, List.length_take]; rfl)) ?_
                      with_reducible refine (zZ.calls _ _ l0_3 t461 _ ?side1 ?side2 A12.out).mono ?_
                      (case side1 => repeat (first | exact (Kd.C_below HR0_3.out HB.out) | (with_reducible refine Kd.C_alloc ?_ _) | (with_reducible refine Kd.C_drewN ?_ _) | (with_reducible refine Kd.C_drew ?_)))
                      (case side2 => exact HC0_3.out)
                      rintro e w32 ⟨rfl, hb⟩
                      have HS6_ := (hb.cell (World.block_lt_of_cell? _ _ (hHeld.2.2.2.2.2.2.1))).trans (hHeld.2.2.2.2.2.2.1)
                      have HS7_ := (hb.cell (World.block_lt_of_cell? _ _ (hHeld.2.2.2.2.2.2.2.1))).trans (hHeld.2.2.2.2.2.2.2.1)
                      have HS8_ := (hb.cell (World.block_lt_of_cell? _ _ (hHeld.2.2.2.2.2.2.2.2.1))).trans (hHeld.2.2.2.2.2.2.2.2.1)
                      have HS9_ := (hb.cell (World.block_lt_of_cell? _ _ (hHeld.2.2.2.2.2.2.2.2.2))).trans (hHeld.2.2.2.2.2.2.2.2.2)
                      refine ⟨_, rfl, ?_⟩
                      have n0_ := zb.mk (Kd.R_below (by (with_reducible repeat (first | apply Kd.R_alloc | apply Kd.R_drewN | apply Kd.R_drew)); exact HO451.out) hb)
                      have n1_ := zb.mk (Kd.R_below (by (with_reducible repeat (first | apply Kd.R_alloc | apply Kd.R_drewN | apply Kd.R_drew)); exact HO454.out) hb)
                      have n2_ := zb.mk (Kd.R_below (by (with_reducible repeat (first | apply Kd.R_alloc | apply Kd.R_drewN | apply Kd.R_drew)); exact HO457.out) hb)
                      have n3_ := zb.mk (zk (g := gb447) (o := .cells #[.int .i64 a0_0, .int .i64 a0_1, .slice A0_2 l0_2.length c0_2, .slice A0_3 l0_3.length c0_3, .int .i64 a0_4, .int .i64 a0_5] 28 (0, 0)) (by (with_reducible repeat (first | refine ze ?_ _ | refine zh ?_ | refine zf ?_ _)); exact BK447.out) hb)
                      have n4_ := zb.mk (zl (by repeat (first | (with_reducible first | exact HB.out | apply zi | apply zd | apply zj | refine zg ?_ GE447.out) | exact HB.out)) hb)
                      clear HO451
                      clear HO454
                      clear HO457
                      clear BK447
                      clear HB
                      have HO451 := n0_
                      have HO454 := n1_
                      have HO457 := n2_
                      have BK447 := n3_
                      have HB := n4_
                      clear n0_ n1_ n2_ n3_ n4_
                      (try clear hb)
                      (try clear hb2)
                      (try clear hk)
                      (try clear hi)
                      refine hK.out _ _ ⟨(zc BK447.out 0).trans rfl, (zc BK447.out 1).trans rfl, (zc BK447.out 2).trans rfl, (zc BK447.out 3).trans rfl, (zc BK447.out 4).trans rfl, (zc BK447.out 5).trans rfl, HS6_, HS7_, HS8_, HS9_⟩ (fun hHeld => ?_)
                      clear hK K
                      refine zcq (a' := ?_) ?_ ?_
                      rotate_left
                      · show Act.put _ (some 39) _ = _
                        simp only [Act.put, List.setIfInBounds_toArray, List.set_cons_zero, List.set_cons_succ, zU, zW]
                        rfl
                      refine zal (i := 13) (N := some 40) (v := ?_) (a' := ?_) #[true, true, true, true, true, true, true, true, true, true, true, true, true, true, true, true, true, false, true, true, true, false, false, false] rfl rfl (z8 HT_.out (by kernel_rfl)) (fun _ _ _ h => h) (Or.inl ⟨by rfl, ?_⟩) ?_ ?_
                      rotate_left
                      · intro w'
                        go_simp
                        with_reducible rfl
                      rotate_left
                      · simp only [Act.put, List.setIfInBounds_toArray, List.set_cons_zero, List.set_cons_succ, zU, zW]
                        rfl
                      refine zal (i := 17) (N := some 44) (v := ?_) (a' := ?_) #[true, true, true, true, true, true, true, true, true, true, true, true, true, true, true, true, true, true, true, true, true, false, false, false] rfl rfl (z8 HT_.out (by kernel_rfl)) (fun _ _ _ h => h) (Or.inl ⟨by rfl, ?_⟩) ?_ ?_
                      rotate_left
                      · intro w'
                        go_simp
                        with_reducible rfl
                      rotate_left
                      · simp only [Act.put, List.setIfInBounds_toArray, List.set_cons_zero, List.set_cons_succ, zU, zW]
                        rfl
                      refine zal (i := 21) (N := some 48) (v := ?_) (a' := ?_) #[true, true, true, true, true, true, true, true, true, true, true, true, true, true, true, true, true, true, true, true, true, true, false, false] rfl rfl (z8 HT_.out (by kernel_rfl)) (fun _ _ _ h => h) (Or.inl ⟨by rfl, ?_⟩) ?_ ?_
                      rotate_left
                      · intro w'
                        go_simp
                        with_reducible rfl
                      rotate_left
                      · simp only [Act.put, List.setIfInBounds_toArray, List.set_cons_zero, List.set_cons_succ, zU, zW]
                        rfl
                      refine zal (i := 22) (N := some 4) (v := ?_) (a' := ?_) #[true, true, true, true, true, true, true, true, true, true, true, true, true, true, true, true, true, true, true, true, true, true, true, false] rfl rfl (z8 HT_.out (by kernel_rfl)) (fun _ _ _ h => h) (Or.inl ⟨by rfl, ?_⟩) ?_ ?_
                      rotate_left
                      · intro w'
                        go_simp
                        with_reducible rfl
                      rotate_left
                      · simp only [Act.put, List.setIfInBounds_toArray, List.set_cons_zero, List.set_cons_succ, zU, zW]
                        rfl
                      refine zal (i := 23) (N := some 5) (v := ?_) (a' := ?_) #[true, true, true, true, true, true, true, true, true, true, true, true, true, true, true, true, true, true, true, true, true, true, true, true] rfl rfl (z8 HT_.out (by kernel_rfl)) (fun _ _ _ h => h) (Or.inl ⟨by rfl, ?_⟩) ?_ ?_
                      rotate_left
                      · intro w'
                        go_simp
                        with_reducible rfl
                      rotate_left
                      · simp only [Act.put, List.setIfInBounds_toArray, List.set_cons_zero, List.set_cons_succ, zU, zW]
                        rfl
                      refine zeA (zcI HT_.out (by kernel_rfl)) ?_
                      try go_wp2
                      go_ret2
                      exact ⟨by first | rfl | (simp [zt, zr] <;> rfl) | (simp [*, zt, zr] <;> rfl), by repeat (first | (with_reducible first | exact HB.out | apply zi | apply zd | apply zj | refine zg ?_ GE447.out) | exact HB.out)⟩
                    · rw [if_neg c17] at H
                      exact absurd H (by simp)
                  · rw [if_neg c16] at H
                    exact absurd H (by simp)
                · rw [if_neg c15] at H
                  exact absurd H (by simp)
              · rw [if_neg c14] at H
                exact absurd H (by simp)
            · rw [if_neg c13] at H
              exact absurd H (by simp)
          · rw [if_neg c11] at H
            exact absurd H (by simp)
        · rw [if_neg c9] at H
          exact absurd H (by simp)
      · rw [if_neg c8] at H
        exact absurd H (by simp)
    · rw [if_neg c7] at H
      exact absurd H (by simp)
  · replace c4 := Bool.eq_false_iff.mpr c4
    subst c4
    have H1 : (some ((⟨#[]⟩ : ByteArray), 1)) = some (r1, r2) := by rw [if_neg (show ¬ (false = true) by decide)] at H; exact H
    clear H
    have H := H1
    clear H1
    simp only [Option.some.injEq, Prod.mk.injEq] at H
    obtain ⟨rfl, rfl⟩ := H
    go_enter Try.func48, Try.ntmps48
    go_wp2_with (first | ((with_reducible refine zq (N := 2) rfl ?_); refine zp ?hg (N := 2) ?hd (cs := #[.int .i64 a0_0, .int .i64 a0_1, .slice A0_2 l0_2.length c0_2, .slice A0_3 l0_3.length c0_3, .int .i64 a0_4, .int .i64 a0_5]) (t := 28) ?hr ?_; (case hd => rfl); (case hg => rfl); (case hr => first | (go_simp; done) | (go_simp; rfl)); intro gb447 hg w33 hbox hb; have n0_ := zb.mk (zl (by repeat (first | (with_reducible first | exact HB.out | apply zi | apply zd | apply zj) | exact HB.out)) hb); have n1_ := zb.mk (hbox); have n2_ := zb.mk ((by rw [hg]; exact (zo (by repeat (first | (with_reducible first | exact HB.out | apply zi | apply zd | apply zj) | exact HB.out))) : w.heap.size ≤ gb447)); have n3_ := zb.mk ((by rw [hg]; exact (zo (by repeat (first | (with_reducible first | exact HB.out | apply zi | apply zd | apply zj) | exact HB.out))) : w.heap.size ≤ gb447)); clear HB; have HB := n0_; have BK447 := n1_; have GW447 := n2_; have GE447 := n3_; clear n0_ n1_ n2_ n3_; clear hb hbox hg; have hcz34_0 : w33.cell? ⟨gb447, 0, none⟩ = some (.int .i64 a0_0) := (zc BK447.out 0).trans rfl; have hcz34_1 : w33.cell? ⟨gb447, 1, none⟩ = some (.int .i64 a0_1) := (zc BK447.out 1).trans rfl; have hcz34_2 : w33.cell? ⟨gb447, 2, none⟩ = some (.slice A0_2 l0_2.length c0_2) := (zc BK447.out 2).trans rfl; have hcz34_3 : w33.cell? ⟨gb447, 3, none⟩ = some (.slice A0_3 l0_3.length c0_3) := (zc BK447.out 3).trans rfl; have hcz34_4 : w33.cell? ⟨gb447, 4, none⟩ = some (.int .i64 a0_4) := (zc BK447.out 4).trans rfl; have hcz34_5 : w33.cell? ⟨gb447, 5, none⟩ = some (.int .i64 a0_5) := (zc BK447.out 5).trans rfl; have hfz34_0 := za BK447.out 0; have hfz34_1 := za BK447.out 1; have hfz34_2 := za BK447.out 2; have hfz34_3 := za BK447.out 3; have hfz34_4 := za BK447.out 4; have hfz34_5 := za BK447.out 5) | ((with_reducible refine zu (f := 56) rfl ?_); refine zQ (some 10) rfl rfl Try.func56 (by kernel_rfl) rfl #[.agg #[.int .i64 a0_0, .int .i64 a0_1, .slice A0_2 l0_2.length c0_2, .slice A0_3 l0_3.length c0_3, .int .i64 a0_4, .int .i64 a0_5], .int .i64 a1] rfl (by (try simp only [List.map_toArray, List.map_cons, List.map_nil]); first | done | rfl | (simp only [List.length_drop, List.length_take]; rfl)) ?_; (with_reducible refine (zaa.calls a0_0 a0_1 _ _ l0_2 _ _ l0_3 a0_4 a0_5 a1 false _ ?side1 ?side2 ?side3 ?side4 A3.out).mono ?_); (case side1 => repeat (first | exact (Kd.C_below HR0_2.out HB.out) | (with_reducible refine Kd.C_alloc ?_ _) | (with_reducible refine Kd.C_drewN ?_ _) | (with_reducible refine Kd.C_drew ?_))); (case side2 => exact HC0_2.out); (case side3 => repeat (first | exact (Kd.C_below HR0_3.out HB.out) | (with_reducible refine Kd.C_alloc ?_ _) | (with_reducible refine Kd.C_drewN ?_ _) | (with_reducible refine Kd.C_drew ?_))); (case side4 => exact HC0_3.out); rintro e w35 ⟨rfl, hb⟩; refine ⟨_, rfl, ?_⟩; have n0_ := zb.mk (zk (g := gb447) (o := .cells #[.int .i64 a0_0, .int .i64 a0_1, .slice A0_2 l0_2.length c0_2, .slice A0_3 l0_3.length c0_3, .int .i64 a0_4, .int .i64 a0_5] 28 (0, 0)) (by (with_reducible repeat (first | refine ze ?_ _ | refine zh ?_ | refine zf ?_ _)); exact BK447.out) hb); have n1_ := zb.mk (zl (by repeat (first | (with_reducible first | exact HB.out | apply zi | apply zd | apply zj | refine zg ?_ GE447.out) | exact HB.out)) hb); clear BK447; clear HB; have BK447 := n0_; have HB := n1_; clear n0_ n1_; (try clear hb); (try clear hb2); (try clear hk); (try clear hi)))
    go_ret2
    exact ⟨by first | rfl | (simp [zt, zr] <;> rfl) | (simp [*, zt, zr] <;> rfl), by repeat (first | (with_reducible first | exact HB.out | apply zi | apply zd | apply zj | refine zg ?_ GE447.out) | exact HB.out)⟩
end Go.Proofs.Ytenbifjbeeobjaa.Px
