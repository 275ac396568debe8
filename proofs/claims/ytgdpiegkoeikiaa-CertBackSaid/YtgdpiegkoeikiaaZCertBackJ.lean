/- Part 10 of 30 of the proof of the law CertBack: what is proved is the statement at the end of the last part; its conditions are those of the given row. -/
import Derived.Test.YtgdpiegkoeikiaaZCertBackI
namespace Go.Proofs.Ytgdpiegkoeikiaa.Px
open Go.RowKit Go.Proofs.YtgdpiegkoeikiaaW.PrintWords Go.Proofs.YtgdpiegkoeikiaaW.PrintLast Go.Proofs.YtgdpiegkoeikiaaW.PrintMore
attribute [local go_sem] zx zz zJ zK zn zo zy zA
set_option linter.unusedVariables false
set_option linter.unusedSimpArgs false
def zar.f (a0_0 : Int) (a0_1 : Int) (l0_2 : List (zW)) (l0_3 : List ByteArray) (a0_4 : Int) (a0_5 : Int) (a1 : Int) : Option (ByteArray × Int) := (zaj.f a0_0 a0_1 l0_2 l0_3 a0_4 a0_5 a1).bind fun t434 => (if t434 = true then ((zaL.f l0_2).bind fun t435 => ((zay.f (([a0_0,a0_1,a0_4,a0_5] : List Int))).bind fun t441 => (if 0 < (t441.length : Int) then (if 1 < (t441.length : Int) then (if (zH ByteArray.empty t441 0).size + (zH ByteArray.empty t441 1).size ≤ 9223372036854775807 then ((zaa.f t435).bind fun t446 => (if ((zH ByteArray.empty t441 0) ++ (zH ByteArray.empty t441 1)).size + t446.size ≤ 9223372036854775807 then ((zaa.f l0_3).bind fun t447 => (if (((zH ByteArray.empty t441 0) ++ (zH ByteArray.empty t441 1)) ++ t446).size + t447.size ≤ 9223372036854775807 then (if 2 < (t441.length : Int) then (if ((((zH ByteArray.empty t441 0) ++ (zH ByteArray.empty t441 1)) ++ t446) ++ t447).size + (zH ByteArray.empty t441 2).size ≤ 9223372036854775807 then (if 3 < (t441.length : Int) then (if (((((zH ByteArray.empty t441 0) ++ (zH ByteArray.empty t441 1)) ++ t446) ++ t447) ++ (zH ByteArray.empty t441 2)).size + (zH ByteArray.empty t441 3).size ≤ 9223372036854775807 then (some ((((((zH ByteArray.empty t441 0) ++ (zH ByteArray.empty t441 1)) ++ t446) ++ t447) ++ (zH ByteArray.empty t441 2)) ++ (zH ByteArray.empty t441 3),0)) else (none)) else (none)) else (none)) else (none)) else (none))) else (none))) else (none)) else (none)) else (none)))) else (some ((⟨#[]⟩ : ByteArray),1)))
def zar.T5 : Bool × List (List Nat × List Nat) := (true,[([],[]),([0],[0]),([1],[1]),([],[]),([3],[3]),([4],[4]),([2,5],[2,5]),([],[]),([7],[7]),([6,8],[6,8]),([],[]),([10],[10]),([11,8],[11]),([9,12],[9,12]),([],[]),([14],[14]),([15],[15]),([13,16],[13,16]),([],[]),([18],[18]),([19],[19]),([17,20],[17,20]),([21,12,0,1,2,3,4,5,6,7,8,9,10,11,12,13,14,15,16,17,18,19,20,21],[21]),([22,0,1,2,3,4,5,6,7,8,9,10,11,12,13,14,15,16,17,18,19,20,21,22],[])])
def zar.B5 : List Nat := [0,1,3,0,8,24,63,0,128,511,0,1024,3456,8191,0,16384,49152,131071,0,262144,786432,2097151,4194303,8388607]
theorem zar.tab5 : zcD .any (zfZ Try.f49 5) = zar.T5 := by kernel_rfl
theorem zar.bits5 : zcu zar.T5.2 zar.B5 = true := by kernel_rfl
set_option maxHeartbeats 8000000 in
set_option maxRecDepth 100000 in
theorem zar.calls (a0_0 : Int) (a0_1 : Int) (A0_2 : Option Addr) (c0_2 : Nat) (l0_2 : List (zW)) (A0_3 : Option Addr) (c0_3 : Nat) (l0_3 : List ByteArray) (a0_4 : Int) (a0_5 : Int) (a1 : Int) (r1 : ByteArray) (r2 : Int) (w : World) (hr0_2 : Kd.C zb0 w A0_2 l0_2.length l0_2) (hc0_2 : l0_2.length ≤ c0_2) (hr0_3 : Kd.C Kd.string w A0_3 l0_3.length l0_3) (hc0_3 : l0_3.length ≤ c0_3) (h : zar.f a0_0 a0_1 l0_2 l0_3 a0_4 a0_5 a1 = some (r1,r2)) :
  Calls Try.prog 49 #[.agg #[.int .i64 a0_0,.int .i64 a0_1,.slice A0_2 l0_2.length c0_2,.slice A0_3 l0_3.length c0_3,.int .i64 a0_4,.int .i64 a0_5],.int .i64 a1] w fun e w' => e = .returned (.tuple #[.string r1,.int .i64 r2]) ∧ Below w.heap.size w w' := by
 have hu28 := Try.underlying28
 have HR0_2 := zc.mk hr0_2
 have HC0_2 := zc.mk hc0_2
 clear hr0_2 hc0_2
 have HR0_3 := zc.mk hr0_3
 have HC0_3 := zc.mk hc0_3
 clear hr0_3 hc0_3
 have HB := zc.mk (Below.refl w.heap.size w)
 have H : ((zaj.f a0_0 a0_1 l0_2 l0_3 a0_4 a0_5 a1).bind fun t434 => (if t434 = true then ((zaL.f l0_2).bind fun t435 => ((zay.f (([a0_0,a0_1,a0_4,a0_5] : List Int))).bind fun t441 => (if 0 < (t441.length : Int) then (if 1 < (t441.length : Int) then (if (zH ByteArray.empty t441 0).size + (zH ByteArray.empty t441 1).size ≤ 9223372036854775807 then ((zaa.f t435).bind fun t446 => (if ((zH ByteArray.empty t441 0) ++ (zH ByteArray.empty t441 1)).size + t446.size ≤ 9223372036854775807 then ((zaa.f l0_3).bind fun t447 => (if (((zH ByteArray.empty t441 0) ++ (zH ByteArray.empty t441 1)) ++ t446).size + t447.size ≤ 9223372036854775807 then (if 2 < (t441.length : Int) then (if ((((zH ByteArray.empty t441 0) ++ (zH ByteArray.empty t441 1)) ++ t446) ++ t447).size + (zH ByteArray.empty t441 2).size ≤ 9223372036854775807 then (if 3 < (t441.length : Int) then (if (((((zH ByteArray.empty t441 0) ++ (zH ByteArray.empty t441 1)) ++ t446) ++ t447) ++ (zH ByteArray.empty t441 2)).size + (zH ByteArray.empty t441 3).size ≤ 9223372036854775807 then (some ((((((zH ByteArray.empty t441 0) ++ (zH ByteArray.empty t441 1)) ++ t446) ++ t447) ++ (zH ByteArray.empty t441 2)) ++ (zH ByteArray.empty t441 3),0)) else (none)) else (none)) else (none)) else (none)) else (none))) else (none))) else (none)) else (none)) else (none)))) else (some ((⟨#[]⟩ : ByteArray),1)))) = some (r1,r2) := h
 clear h
 replace H := Option.bind_eq_some_iff.mp H
 obtain ⟨t434,A30,H⟩ := H
 replace H : (if t434 = true then ((zaL.f l0_2).bind fun t435 => ((zay.f (([a0_0,a0_1,a0_4,a0_5] : List Int))).bind fun t441 => (if 0 < (t441.length : Int) then (if 1 < (t441.length : Int) then (if (zH ByteArray.empty t441 0).size + (zH ByteArray.empty t441 1).size ≤ 9223372036854775807 then ((zaa.f t435).bind fun t446 => (if ((zH ByteArray.empty t441 0) ++ (zH ByteArray.empty t441 1)).size + t446.size ≤ 9223372036854775807 then ((zaa.f l0_3).bind fun t447 => (if (((zH ByteArray.empty t441 0) ++ (zH ByteArray.empty t441 1)) ++ t446).size + t447.size ≤ 9223372036854775807 then (if 2 < (t441.length : Int) then (if ((((zH ByteArray.empty t441 0) ++ (zH ByteArray.empty t441 1)) ++ t446) ++ t447).size + (zH ByteArray.empty t441 2).size ≤ 9223372036854775807 then (if 3 < (t441.length : Int) then (if (((((zH ByteArray.empty t441 0) ++ (zH ByteArray.empty t441 1)) ++ t446) ++ t447) ++ (zH ByteArray.empty t441 2)).size + (zH ByteArray.empty t441 3).size ≤ 9223372036854775807 then (some ((((((zH ByteArray.empty t441 0) ++ (zH ByteArray.empty t441 1)) ++ t446) ++ t447) ++ (zH ByteArray.empty t441 2)) ++ (zH ByteArray.empty t441 3),0)) else (none)) else (none)) else (none)) else (none)) else (none))) else (none))) else (none)) else (none)) else (none)))) else (some ((⟨#[]⟩ : ByteArray),1))) = some (r1,r2) := H
 have A3 := zc.mk A30
 clear A30
 by_cases c4 : t434 = true
 ·subst c4
  have H1 : ((zaL.f l0_2).bind fun t435 => ((zay.f (([a0_0,a0_1,a0_4,a0_5] : List Int))).bind fun t441 => (if 0 < (t441.length : Int) then (if 1 < (t441.length : Int) then (if (zH ByteArray.empty t441 0).size + (zH ByteArray.empty t441 1).size ≤ 9223372036854775807 then ((zaa.f t435).bind fun t446 => (if ((zH ByteArray.empty t441 0) ++ (zH ByteArray.empty t441 1)).size + t446.size ≤ 9223372036854775807 then ((zaa.f l0_3).bind fun t447 => (if (((zH ByteArray.empty t441 0) ++ (zH ByteArray.empty t441 1)) ++ t446).size + t447.size ≤ 9223372036854775807 then (if 2 < (t441.length : Int) then (if ((((zH ByteArray.empty t441 0) ++ (zH ByteArray.empty t441 1)) ++ t446) ++ t447).size + (zH ByteArray.empty t441 2).size ≤ 9223372036854775807 then (if 3 < (t441.length : Int) then (if (((((zH ByteArray.empty t441 0) ++ (zH ByteArray.empty t441 1)) ++ t446) ++ t447) ++ (zH ByteArray.empty t441 2)).size + (zH ByteArray.empty t441 3).size ≤ 9223372036854775807 then (some ((((((zH ByteArray.empty t441 0) ++ (zH ByteArray.empty t441 1)) ++ t446) ++ t447) ++ (zH ByteArray.empty t441 2)) ++ (zH ByteArray.empty t441 3),0)) else (none)) else (none)) else (none)) else (none)) else (none))) else (none))) else (none)) else (none)) else (none)))) = some (r1,r2) := by rw [if_pos rfl] at H;exact H
  clear H
  have H := H1
  clear H1
  replace H := Option.bind_eq_some_iff.mp H
  obtain ⟨t435,A50,H⟩ := H
  replace H : ((zay.f (([a0_0,a0_1,a0_4,a0_5] : List Int))).bind fun t441 => (if 0 < (t441.length : Int) then (if 1 < (t441.length : Int) then (if (zH ByteArray.empty t441 0).size + (zH ByteArray.empty t441 1).size ≤ 9223372036854775807 then ((zaa.f t435).bind fun t446 => (if ((zH ByteArray.empty t441 0) ++ (zH ByteArray.empty t441 1)).size + t446.size ≤ 9223372036854775807 then ((zaa.f l0_3).bind fun t447 => (if (((zH ByteArray.empty t441 0) ++ (zH ByteArray.empty t441 1)) ++ t446).size + t447.size ≤ 9223372036854775807 then (if 2 < (t441.length : Int) then (if ((((zH ByteArray.empty t441 0) ++ (zH ByteArray.empty t441 1)) ++ t446) ++ t447).size + (zH ByteArray.empty t441 2).size ≤ 9223372036854775807 then (if 3 < (t441.length : Int) then (if (((((zH ByteArray.empty t441 0) ++ (zH ByteArray.empty t441 1)) ++ t446) ++ t447) ++ (zH ByteArray.empty t441 2)).size + (zH ByteArray.empty t441 3).size ≤ 9223372036854775807 then (some ((((((zH ByteArray.empty t441 0) ++ (zH ByteArray.empty t441 1)) ++ t446) ++ t447) ++ (zH ByteArray.empty t441 2)) ++ (zH ByteArray.empty t441 3),0)) else (none)) else (none)) else (none)) else (none)) else (none))) else (none))) else (none)) else (none)) else (none))) = some (r1,r2) := H
  have A5 := zc.mk A50
  clear A50
  obtain ⟨y438,hy438⟩ : ∃ y_ : List Int,y_ = (([a0_0,a0_1,a0_4,a0_5] : List Int)) := ⟨_,rfl⟩
  replace H : ((zay.f y438).bind fun t441 => (if 0 < (t441.length : Int) then (if 1 < (t441.length : Int) then (if (zH ByteArray.empty t441 0).size + (zH ByteArray.empty t441 1).size ≤ 9223372036854775807 then ((zaa.f t435).bind fun t446 => (if ((zH ByteArray.empty t441 0) ++ (zH ByteArray.empty t441 1)).size + t446.size ≤ 9223372036854775807 then ((zaa.f l0_3).bind fun t447 => (if (((zH ByteArray.empty t441 0) ++ (zH ByteArray.empty t441 1)) ++ t446).size + t447.size ≤ 9223372036854775807 then (if 2 < (t441.length : Int) then (if ((((zH ByteArray.empty t441 0) ++ (zH ByteArray.empty t441 1)) ++ t446) ++ t447).size + (zH ByteArray.empty t441 2).size ≤ 9223372036854775807 then (if 3 < (t441.length : Int) then (if (((((zH ByteArray.empty t441 0) ++ (zH ByteArray.empty t441 1)) ++ t446) ++ t447) ++ (zH ByteArray.empty t441 2)).size + (zH ByteArray.empty t441 3).size ≤ 9223372036854775807 then (some ((((((zH ByteArray.empty t441 0) ++ (zH ByteArray.empty t441 1)) ++ t446) ++ t447) ++ (zH ByteArray.empty t441 2)) ++ (zH ByteArray.empty t441 3),0)) else (none)) else (none)) else (none)) else (none)) else (none))) else (none))) else (none)) else (none)) else (none))) = some (r1,r2) := by first | (rw [hy438];with_reducible exact H) | (have H2_ := (Option.bind_some _ _).symm.trans H;rw [hy438];with_reducible exact H2_) | (have H2_ := (Option.bind_some _ _).symm.trans H;with_reducible exact H2_) | with_reducible exact H | (rw [hy438];exact H) | exact H
  have Ny438 := zc.mk hy438
  clear hy438
  replace H := Option.bind_eq_some_iff.mp H
  obtain ⟨t441,A60,H⟩ := H
  replace H : (if 0 < (t441.length : Int) then (if 1 < (t441.length : Int) then (if (zH ByteArray.empty t441 0).size + (zH ByteArray.empty t441 1).size ≤ 9223372036854775807 then ((zaa.f t435).bind fun t446 => (if ((zH ByteArray.empty t441 0) ++ (zH ByteArray.empty t441 1)).size + t446.size ≤ 9223372036854775807 then ((zaa.f l0_3).bind fun t447 => (if (((zH ByteArray.empty t441 0) ++ (zH ByteArray.empty t441 1)) ++ t446).size + t447.size ≤ 9223372036854775807 then (if 2 < (t441.length : Int) then (if ((((zH ByteArray.empty t441 0) ++ (zH ByteArray.empty t441 1)) ++ t446) ++ t447).size + (zH ByteArray.empty t441 2).size ≤ 9223372036854775807 then (if 3 < (t441.length : Int) then (if (((((zH ByteArray.empty t441 0) ++ (zH ByteArray.empty t441 1)) ++ t446) ++ t447) ++ (zH ByteArray.empty t441 2)).size + (zH ByteArray.empty t441 3).size ≤ 9223372036854775807 then (some ((((((zH ByteArray.empty t441 0) ++ (zH ByteArray.empty t441 1)) ++ t446) ++ t447) ++ (zH ByteArray.empty t441 2)) ++ (zH ByteArray.empty t441 3),0)) else (none)) else (none)) else (none)) else (none)) else (none))) else (none))) else (none)) else (none)) else (none)) = some (r1,r2) := H
  have A6 := zc.mk A60
  clear A60
  by_cases c7 : 0 < (t441.length : Int)
  ·rw [if_pos c7] at H
   have c7b0 : decide (0 < (t441.length : Int)) = true := decide_eq_true c7
   have c7b1 : decide (0 < t441.length) = true := decide_eq_true (by omega)
   clear c7
   by_cases c8 : 1 < (t441.length : Int)
   ·rw [if_pos c8] at H
    have c8b0 : decide (1 < (t441.length : Int)) = true := decide_eq_true c8
    have c8b1 : decide (1 < t441.length) = true := decide_eq_true (by omega)
    clear c8
    by_cases c9 : (zH ByteArray.empty t441 0).size + (zH ByteArray.empty t441 1).size ≤ 9223372036854775807
    ·rw [if_pos c9] at H
     have c9b0 := eq_true c9
     have c9b1 : decide ((zH ByteArray.empty t441 0).size + (zH ByteArray.empty t441 1).size ≤ 9223372036854775807) = true := decide_eq_true c9
     try have c9b2 : (9223372036854775807 < (zH ByteArray.empty t441 0).size + (zH ByteArray.empty t441 1).size) = False := eq_false (Nat.not_lt.2 c9)
     replace H := Option.bind_eq_some_iff.mp H
     obtain ⟨t446,A100,H⟩ := H
     replace H : (if ((zH ByteArray.empty t441 0) ++ (zH ByteArray.empty t441 1)).size + t446.size ≤ 9223372036854775807 then ((zaa.f l0_3).bind fun t447 => (if (((zH ByteArray.empty t441 0) ++ (zH ByteArray.empty t441 1)) ++ t446).size + t447.size ≤ 9223372036854775807 then (if 2 < (t441.length : Int) then (if ((((zH ByteArray.empty t441 0) ++ (zH ByteArray.empty t441 1)) ++ t446) ++ t447).size + (zH ByteArray.empty t441 2).size ≤ 9223372036854775807 then (if 3 < (t441.length : Int) then (if (((((zH ByteArray.empty t441 0) ++ (zH ByteArray.empty t441 1)) ++ t446) ++ t447) ++ (zH ByteArray.empty t441 2)).size + (zH ByteArray.empty t441 3).size ≤ 9223372036854775807 then (some ((((((zH ByteArray.empty t441 0) ++ (zH ByteArray.empty t441 1)) ++ t446) ++ t447) ++ (zH ByteArray.empty t441 2)) ++ (zH ByteArray.empty t441 3),0)) else (none)) else (none)) else (none)) else (none)) else (none))) else (none)) = some (r1,r2) := H
     have A10 := zc.mk A100
     clear A100
     by_cases c11 : ((zH ByteArray.empty t441 0) ++ (zH ByteArray.empty t441 1)).size + t446.size ≤ 9223372036854775807
     ·rw [if_pos c11] at H
      have c11b0 := eq_true c11
      have c11b1 : decide (((zH ByteArray.empty t441 0) ++ (zH ByteArray.empty t441 1)).size + t446.size ≤ 9223372036854775807) = true := decide_eq_true c11
      try have c11b2 : (9223372036854775807 < ((zH ByteArray.empty t441 0) ++ (zH ByteArray.empty t441 1)).size + t446.size) = False := eq_false (Nat.not_lt.2 c11)
      try (have c11b3 := c11;simp [ByteArray.size_append] at c11b3;have c11b4 := eq_false (Nat.not_lt.2 c11b3);clear c11b3)
      replace H := Option.bind_eq_some_iff.mp H
      obtain ⟨t447,A120,H⟩ := H
      replace H : (if (((zH ByteArray.empty t441 0) ++ (zH ByteArray.empty t441 1)) ++ t446).size + t447.size ≤ 9223372036854775807 then (if 2 < (t441.length : Int) then (if ((((zH ByteArray.empty t441 0) ++ (zH ByteArray.empty t441 1)) ++ t446) ++ t447).size + (zH ByteArray.empty t441 2).size ≤ 9223372036854775807 then (if 3 < (t441.length : Int) then (if (((((zH ByteArray.empty t441 0) ++ (zH ByteArray.empty t441 1)) ++ t446) ++ t447) ++ (zH ByteArray.empty t441 2)).size + (zH ByteArray.empty t441 3).size ≤ 9223372036854775807 then (some ((((((zH ByteArray.empty t441 0) ++ (zH ByteArray.empty t441 1)) ++ t446) ++ t447) ++ (zH ByteArray.empty t441 2)) ++ (zH ByteArray.empty t441 3),0)) else (none)) else (none)) else (none)) else (none)) else (none)) = some (r1,r2) := H
      have A12 := zc.mk A120
      clear A120
      by_cases c13 : (((zH ByteArray.empty t441 0) ++ (zH ByteArray.empty t441 1)) ++ t446).size + t447.size ≤ 9223372036854775807
      ·rw [if_pos c13] at H
       have c13b0 := eq_true c13
       have c13b1 : decide ((((zH ByteArray.empty t441 0) ++ (zH ByteArray.empty t441 1)) ++ t446).size + t447.size ≤ 9223372036854775807) = true := decide_eq_true c13
       try have c13b2 : (9223372036854775807 < (((zH ByteArray.empty t441 0) ++ (zH ByteArray.empty t441 1)) ++ t446).size + t447.size) = False := eq_false (Nat.not_lt.2 c13)
       try (have c13b3 := c13;simp [ByteArray.size_append] at c13b3;have c13b4 := eq_false (Nat.not_lt.2 c13b3);clear c13b3)
       by_cases c14 : 2 < (t441.length : Int)
       ·rw [if_pos c14] at H
        have c14b0 : decide (2 < (t441.length : Int)) = true := decide_eq_true c14
        have c14b1 : decide (2 < t441.length) = true := decide_eq_true (by omega)
        clear c14
        by_cases c15 : ((((zH ByteArray.empty t441 0) ++ (zH ByteArray.empty t441 1)) ++ t446) ++ t447).size + (zH ByteArray.empty t441 2).size ≤ 9223372036854775807
        ·rw [if_pos c15] at H
         have c15b0 := eq_true c15
         have c15b1 : decide (((((zH ByteArray.empty t441 0) ++ (zH ByteArray.empty t441 1)) ++ t446) ++ t447).size + (zH ByteArray.empty t441 2).size ≤ 9223372036854775807) = true := decide_eq_true c15
         try have c15b2 : (9223372036854775807 < ((((zH ByteArray.empty t441 0) ++ (zH ByteArray.empty t441 1)) ++ t446) ++ t447).size + (zH ByteArray.empty t441 2).size) = False := eq_false (Nat.not_lt.2 c15)
         try (have c15b3 := c15;simp [ByteArray.size_append] at c15b3;have c15b4 := eq_false (Nat.not_lt.2 c15b3);clear c15b3)
         by_cases c16 : 3 < (t441.length : Int)
         ·rw [if_pos c16] at H
          have c16b0 : decide (3 < (t441.length : Int)) = true := decide_eq_true c16
          have c16b1 : decide (3 < t441.length) = true := decide_eq_true (by omega)
          clear c16
          by_cases c17 : (((((zH ByteArray.empty t441 0) ++ (zH ByteArray.empty t441 1)) ++ t446) ++ t447) ++ (zH ByteArray.empty t441 2)).size + (zH ByteArray.empty t441 3).size ≤ 9223372036854775807
          ·rw [if_pos c17] at H
           have c17b0 := eq_true c17
           have c17b1 : decide ((((((zH ByteArray.empty t441 0) ++ (zH ByteArray.empty t441 1)) ++ t446) ++ t447) ++ (zH ByteArray.empty t441 2)).size + (zH ByteArray.empty t441 3).size ≤ 9223372036854775807) = true := decide_eq_true c17
           try have c17b2 : (9223372036854775807 < (((((zH ByteArray.empty t441 0) ++ (zH ByteArray.empty t441 1)) ++ t446) ++ t447) ++ (zH ByteArray.empty t441 2)).size + (zH ByteArray.empty t441 3).size) = False := eq_false (Nat.not_lt.2 c17)
           try (have c17b3 := c17;simp [ByteArray.size_append] at c17b3;have c17b4 := eq_false (Nat.not_lt.2 c17b3);clear c17b3)
           simp only [Option.some.injEq,Prod.mk.injEq] at H
           obtain ⟨rfl,rfl⟩ := H
           go_enter Try.func49,Try.ntmps49
           try go_wp2_with (first | ((with_reducible refine zD (N := 2) rfl ?_);refine zq ?hg (N := 2) ?hd (cs := #[.int .i64 a0_0,.int .i64 a0_1,.slice A0_2 l0_2.length c0_2,.slice A0_3 l0_3.length c0_3,.int .i64 a0_4,.int .i64 a0_5]) (t := 28) ?hr ?_;(case hd => rfl);(case hg => rfl);(case hr => first | (go_simp;done) | (go_simp;rfl));intro gb433 hg w18 hbox hb;have n0_ := zc.mk (zg hBq hb);have n1_ := zc.mk (hbox);have n2_ := zc.mk ((by rw [hg];exact (zj hBq) : w.heap.size ≤ gb433));have n3_ := zc.mk ((by rw [hg];exact (zj hBq) : w.heap.size ≤ gb433));clear HB;have HB := n0_;have BK433 := n1_;have GW433 := n2_;have GE433 := n3_;clear n0_ n1_ n2_ n3_;clear hb hbox hg;have hcz19_0 : w18.cell? ⟨gb433,0,none⟩ = some (.int .i64 a0_0) := (zb BK433.out 0).trans rfl;have hcz19_1 : w18.cell? ⟨gb433,1,none⟩ = some (.int .i64 a0_1) := (zb BK433.out 1).trans rfl;have hcz19_2 : w18.cell? ⟨gb433,2,none⟩ = some (.slice A0_2 l0_2.length c0_2) := (zb BK433.out 2).trans rfl;have hcz19_3 : w18.cell? ⟨gb433,3,none⟩ = some (.slice A0_3 l0_3.length c0_3) := (zb BK433.out 3).trans rfl;have hcz19_4 : w18.cell? ⟨gb433,4,none⟩ = some (.int .i64 a0_4) := (zb BK433.out 4).trans rfl;have hcz19_5 : w18.cell? ⟨gb433,5,none⟩ = some (.int .i64 a0_5) := (zb BK433.out 5).trans rfl;have hfz19_0 := za BK433.out 0;have hfz19_1 := za BK433.out 1;have hfz19_2 := za BK433.out 2;have hfz19_3 := za BK433.out 3;have hfz19_4 := za BK433.out 4;have hfz19_5 := za BK433.out 5) | ((with_reducible refine zp (f := 59) rfl ?_);refine z6 (some 10) rfl rfl Try.func59 (by kernel_rfl) rfl #[.agg #[.int .i64 a0_0,.int .i64 a0_1,.slice A0_2 l0_2.length c0_2,.slice A0_3 l0_3.length c0_3,.int .i64 a0_4,.int .i64 a0_5],.int .i64 a1] rfl (by (try simp only [List.map_toArray,List.map_cons,List.map_nil]);first | done | rfl | (simp only [List.length_drop,List.length_take];rfl)) ?_;(with_reducible refine (zaj.calls a0_0 a0_1 _ _ l0_2 _ _ l0_3 a0_4 a0_5 a1 true _ ?side1 ?side2 ?side3 ?side4 A3.out).mono ?_);(case side1 => repeat (first | exact (Kd.C_below HR0_2.out HB.out) | (with_reducible refine Kd.C_alloc ?_ _) | (with_reducible refine Kd.C_drewN ?_ _) | (with_reducible refine Kd.C_drew ?_)));(case side2 => exact HC0_2.out);(case side3 => repeat (first | exact (Kd.C_below HR0_3.out HB.out) | (with_reducible refine Kd.C_alloc ?_ _) | (with_reducible refine Kd.C_drewN ?_ _) | (with_reducible refine Kd.C_drew ?_)));(case side4 => exact HC0_3.out);rintro e w20 ⟨rfl,hb⟩;refine ⟨_,rfl,?_⟩;have n0_ := zc.mk (zh (g := gb433) (o := .cells #[.int .i64 a0_0,.int .i64 a0_1,.slice A0_2 l0_2.length c0_2,.slice A0_3 l0_3.length c0_3,.int .i64 a0_4,.int .i64 a0_5] 28 (0,0)) (hGq BK433.out) hb);have n1_ := zc.mk (zg hCq hb);clear BK433;clear HB;have BK433 := n0_;have HB := n1_;clear n0_ n1_;(try clear hb);(try clear hb2);(try clear hk);(try clear hi);have hcz21_0 : w20.cell? ⟨gb433,0,none⟩ = some (.int .i64 a0_0) := (zb BK433.out 0).trans rfl;have hcz21_1 : w20.cell? ⟨gb433,1,none⟩ = some (.int .i64 a0_1) := (zb BK433.out 1).trans rfl;have hcz21_2 : w20.cell? ⟨gb433,2,none⟩ = some (.slice A0_2 l0_2.length c0_2) := (zb BK433.out 2).trans rfl;have hcz21_3 : w20.cell? ⟨gb433,3,none⟩ = some (.slice A0_3 l0_3.length c0_3) := (zb BK433.out 3).trans rfl;have hcz21_4 : w20.cell? ⟨gb433,4,none⟩ = some (.int .i64 a0_4) := (zb BK433.out 4).trans rfl;have hcz21_5 : w20.cell? ⟨gb433,5,none⟩ = some (.int .i64 a0_5) := (zb BK433.out 5).trans rfl;have hfz21_0 := za BK433.out 0;have hfz21_1 := za BK433.out 1;have hfz21_2 := za BK433.out 2;have hfz21_3 := za BK433.out 3;have hfz21_4 := za BK433.out 4;have hfz21_5 := za BK433.out 5) | ((with_reducible refine zp (f := 78) rfl ?_);refine z6 (some 14) rfl rfl Try.func78 (by kernel_rfl) rfl #[.slice A0_2 l0_2.length c0_2,.func (.func 79) #[] #[]] rfl (by (try simp only [List.map_toArray,List.map_cons,List.map_nil]);first | done | rfl | (simp only [List.length_drop,List.length_take];rfl)) ?_;(with_reducible refine (zaL.calls _ _ l0_2 t435 _ ?side1 ?side2 A5.out).mono ?_);(case side1 => repeat (first | exact (Kd.C_below HR0_2.out HB.out) | (with_reducible refine Kd.C_alloc ?_ _) | (with_reducible refine Kd.C_drewN ?_ _) | (with_reducible refine Kd.C_drew ?_)));(case side2 => exact HC0_2.out);rintro e w22 ⟨v436,rfl,ho0,hb⟩;refine ⟨_,rfl,?_⟩;have n0_ := zc.mk (Kd.R_lower ho0 (zj hCq));have n1_ := zc.mk (zh (g := gb433) (o := .cells #[.int .i64 a0_0,.int .i64 a0_1,.slice A0_2 l0_2.length c0_2,.slice A0_3 l0_3.length c0_3,.int .i64 a0_4,.int .i64 a0_5] 28 (0,0)) (hGq BK433.out) hb);have n2_ := zc.mk (zg hCq hb);clear BK433;clear HB;have HO437 := n0_;have BK433 := n1_;have HB := n2_;clear n0_ n1_ n2_;(try clear hb);(try clear hb2);(try clear hk);(try clear hi);(try clear ho0);have hcz23_0 : w22.cell? ⟨gb433,0,none⟩ = some (.int .i64 a0_0) := (zb BK433.out 0).trans rfl;have hcz23_1 : w22.cell? ⟨gb433,1,none⟩ = some (.int .i64 a0_1) := (zb BK433.out 1).trans rfl;have hcz23_2 : w22.cell? ⟨gb433,2,none⟩ = some (.slice A0_2 l0_2.length c0_2) := (zb BK433.out 2).trans rfl;have hcz23_3 : w22.cell? ⟨gb433,3,none⟩ = some (.slice A0_3 l0_3.length c0_3) := (zb BK433.out 3).trans rfl;have hcz23_4 : w22.cell? ⟨gb433,4,none⟩ = some (.int .i64 a0_4) := (zb BK433.out 4).trans rfl;have hcz23_5 : w22.cell? ⟨gb433,5,none⟩ = some (.int .i64 a0_5) := (zb BK433.out 5).trans rfl;have hfz23_0 := za BK433.out 0;have hfz23_1 := za BK433.out 1;have hfz23_2 := za BK433.out 2;have hfz23_3 := za BK433.out 3;have hfz23_4 := za BK433.out 4;have hfz23_5 := za BK433.out 5) | ((with_reducible refine zD (N := 25) rfl ?_);refine Kd.R_lit (Kd.int .i64) _ 3 ?hg (N := 25) ?hd (xs := ([a0_0,a0_1,a0_4,a0_5] : List Int)) (inner := [.int .i64 a0_0,.int .i64 a0_1,.int .i64 a0_4,.int .i64 a0_5]) (ok := fun _ => True) (okp := fun _ => True) ?hr ?hp (fun _ hk => hk) trivial (Below.refl _ _) (Nat.le_refl _) (by simp) ?_;(case hd => rfl);(case hg => rfl);(case hr => first | (go_simp;done) | (go_simp;rfl));(case hp => exact (zaR.one (show Kd.M (Kd.int .i64) _ _ _ a0_0 [.int .i64 a0_0] from rfl) (zaR.one (show Kd.M (Kd.int .i64) _ _ _ a0_1 [.int .i64 a0_1] from rfl) (zaR.one (show Kd.M (Kd.int .i64) _ _ _ a0_4 [.int .i64 a0_4] from rfl) (zaR.one (show Kd.M (Kd.int .i64) _ _ _ a0_5 [.int .i64 a0_5] from rfl) (zaR.none _ _))))));intro v439 w24 ho25 hb hg_ hnew_;clear hg_ hnew_;(first | rw [← Ny438.out] at ho25 | (simp only [Int.reduceToNat] at ho25;rw [← Ny438.out] at ho25));have n0_ := zc.mk (Kd.R_below (by (with_reducible repeat (first | apply Kd.R_alloc | apply Kd.R_drewN | apply Kd.R_drew));exact HO437.out) hb);have n1_ := zc.mk (Kd.R_lower ho25 (zj hCq));have n2_ := zc.mk (zh (g := gb433) (o := .cells #[.int .i64 a0_0,.int .i64 a0_1,.slice A0_2 l0_2.length c0_2,.slice A0_3 l0_3.length c0_3,.int .i64 a0_4,.int .i64 a0_5] 28 (0,0)) (hGq BK433.out) hb);have n3_ := zc.mk (zg hCq hb);clear HO437;clear BK433;clear HB;have HO437 := n0_;have HO440 := n1_;have BK433 := n2_;have HB := n3_;clear n0_ n1_ n2_ n3_;clear hb ho25;obtain ⟨Ao26,co26,eo26⟩ := Kd.R_slice HO440.out;subst eo26) | ((with_reducible refine zp (f := 81) rfl ?_);refine z6 (some 26) rfl rfl Try.func81 (by kernel_rfl) rfl #[.slice Ao26 y438.length co26,.func (.func 82) #[] #[]] rfl (by (try simp only [List.map_toArray,List.map_cons,List.map_nil]);first | done | rfl | (simp only [List.length_drop,List.length_take];rfl)) ?_;(with_reducible refine (zay.calls _ _ y438 t441 _ ?side1 ?side2 A6.out).mono ?_);(case side1 => repeat (first | exact (Kd.R_reads' HO440.out).2.2 | (with_reducible refine Kd.C_alloc ?_ _) | (with_reducible refine Kd.C_drewN ?_ _) | (with_reducible refine Kd.C_drew ?_)));(case side2 => exact (Kd.R_reads' HO440.out).2.1);rintro e w27 ⟨v442,rfl,ho0,hb⟩;refine ⟨_,rfl,?_⟩;have n0_ := zc.mk (Kd.R_elder' (by (with_reducible repeat (first | apply Kd.R_alloc | apply Kd.R_drewN | apply Kd.R_drew));exact HO437.out) (Kd.R_base ho0) hb);have n1_ := zc.mk (Kd.R_below (by (with_reducible repeat (first | apply Kd.R_alloc | apply Kd.R_drewN | apply Kd.R_drew));exact HO440.out) hb);have n2_ := zc.mk (Kd.R_lower (Kd.R_new' ho0 (Kd.R_lt (by (with_reducible repeat (first | apply Kd.R_alloc | apply Kd.R_drewN | apply Kd.R_drew));exact HO437.out))) (zj hCq));have n3_ := zc.mk (zh (g := gb433) (o := .cells #[.int .i64 a0_0,.int .i64 a0_1,.slice A0_2 l0_2.length c0_2,.slice A0_3 l0_3.length c0_3,.int .i64 a0_4,.int .i64 a0_5] 28 (0,0)) (hGq BK433.out) hb);have n4_ := zc.mk (zg hCq hb);clear HO437;clear HO440;clear BK433;clear HB;have HO437 := n0_;have HO440 := n1_;have HO443 := n2_;have BK433 := n3_;have HB := n4_;clear n0_ n1_ n2_ n3_ n4_;(try clear hb);(try clear hb2);(try clear hk);(try clear hi);(try clear ho0)))
           have n0_ := zc.mk (Kd.R_drew HO437.out)
           have n1_ := zc.mk (Kd.R_drew HO440.out)
           have n2_ := zc.mk (Kd.R_drew HO443.out)
           have n3_ := zc.mk (zf BK433.out)
           have n4_ := zc.mk (zB HB.out)
           clear HO437
           clear HO440
           clear HO443
           clear BK433
           clear HB
           have HO437 := n0_
           have HO440 := n1_
           have HO443 := n2_
           have BK433 := n3_
           have HB := n4_
           clear n0_ n1_ n2_ n3_ n4_
           obtain ⟨Ao29,co29,eo29⟩ := Kd.R_slice HO443.out
           (first | subst eo29 | (injection eo29 with f1_ f2_ f3_;have f4_ := f1_.symm;have f5_ := f3_.symm;clear f1_ f2_ f3_;subst f4_;subst f5_))
           have p444 : 0 ≤ (0 : Int) := (by omega)
           have q444 : 0 < (t441.length : Int) := hFq
           obtain ⟨ad444,e444,hx444_0⟩ := Kd.at_string (Kd.R_reads' HO443.out).2.2 0 p444 q444
           cases e444
           have qi444 : (0 < t441.length) = True := eq_true (by omega)
           (try rw [show ((0 : Int)).toNat = 0 from rfl] at hx444_0)
           (try rw [Addr.add_zero'] at hx444_0)
           replace p444 := eq_true p444
           replace q444 := eq_true q444
           have p445 : 0 ≤ (1 : Int) := (by omega)
           have q445 : 1 < (t441.length : Int) := hFq
           obtain ⟨ad445,e445,hx445_0⟩ := Kd.at_string (Kd.R_reads' HO443.out).2.2 1 p445 q445
           obtain rfl : ad444 = ad445 := (by injection e445)
           (try simp only [show (1 : Int).toNat = 1 from rfl,Nat.reduceMul,Nat.reduceEqDiff,Go.Addr.add,↓reduceIte] at hx445_0)
           have qi445 : (1 < t441.length) = True := eq_true (by omega)
           (try rw [show ((1 : Int)).toNat = 1 from rfl] at hx445_0)
           replace p445 := eq_true p445
           replace q445 := eq_true q445
           have p448 : 0 ≤ (2 : Int) := (by omega)
           have q448 : 2 < (t441.length : Int) := hFq
           obtain ⟨ad448,e448,hx448_0⟩ := Kd.at_string (Kd.R_reads' HO443.out).2.2 2 p448 q448
           obtain rfl : ad444 = ad448 := (by injection e448)
           (try simp only [show (2 : Int).toNat = 2 from rfl,Nat.reduceMul,Nat.reduceEqDiff,Go.Addr.add,↓reduceIte] at hx448_0)
           have qi448 : (2 < t441.length) = True := eq_true (by omega)
           (try rw [show ((2 : Int)).toNat = 2 from rfl] at hx448_0)
           replace p448 := eq_true p448
           replace q448 := eq_true q448
           have p449 : 0 ≤ (3 : Int) := (by omega)
           have q449 : 3 < (t441.length : Int) := hFq
           obtain ⟨ad449,e449,hx449_0⟩ := Kd.at_string (Kd.R_reads' HO443.out).2.2 3 p449 q449
           obtain rfl : ad444 = ad449 := (by injection e449)
           (try simp only [show (3 : Int).toNat = 3 from rfl,Nat.reduceMul,Nat.reduceEqDiff,Go.Addr.add,↓reduceIte] at hx449_0)
           have qi449 : (3 < t441.length) = True := eq_true (by omega)
           (try rw [show ((3 : Int)).toNat = 3 from rfl] at hx449_0)
           replace p449 := eq_true p449
           replace q449 := eq_true q449
           obtain ⟨Ao30,co30,eo30⟩ := Kd.R_slice HO437.out
           (first | subst eo30 | (injection eo30 with f1_ f2_ f3_;have f4_ := f1_.symm;have f5_ := f3_.symm;clear f1_ f2_ f3_;subst f4_;subst f5_))
           refine zdg (n := 24) (S := fun w' => w'.cell? ⟨gb433,0,none⟩ = some (.int .i64 a0_0) ∧ w'.cell? ⟨gb433,1,none⟩ = some (.int .i64 a0_1) ∧ w'.cell? ⟨gb433,2,none⟩ = some (.slice A0_2 l0_2.length c0_2) ∧ w'.cell? ⟨gb433,3,none⟩ = some (.slice A0_3 l0_3.length c0_3) ∧ w'.cell? ⟨gb433,4,none⟩ = some (.int .i64 a0_4) ∧ w'.cell? ⟨gb433,5,none⟩ = some (.int .i64 a0_5) ∧ w'.cell? ad444 = some (.string (zH ByteArray.empty t441 0)) ∧ w'.cell? ⟨ad444.block,ad444.off + 1,none⟩ = some (.string (zH ByteArray.empty t441 1)) ∧ w'.cell? ⟨ad444.block,ad444.off + 2,none⟩ = some (.string (zH ByteArray.empty t441 2)) ∧ w'.cell? ⟨ad444.block,ad444.off + 3,none⟩ = some (.string (zH ByteArray.empty t441 3))) (ds := []) #[false,false,false,false,false,false,false,false,false,false,false,false,false,false,false,false,false,false,false,false,false,false,false,false] (by kernel_rfl) rfl rfl ⟨(zb BK433.out 0).trans rfl,(zb BK433.out 1).trans rfl,(zb BK433.out 2).trans rfl,(zb BK433.out 3).trans rfl,(zb BK433.out 4).trans rfl,(zb BK433.out 5).trans rfl,hx444_0,hx445_0,hx448_0,hx449_0⟩ (fun hHeld => ?_);refine zck zar.tab5 zar.bits5 (fun HT_ HW_ => ?_)
           generalize w27.drew = w28 at HO437 HO440 HO443 BK433 HB hx444_0 hx445_0 hx448_0 hx449_0 hHeld ⊢
           refine zai (i := 0) (N := some 27) (v := ?_) (a' := ?_) #[true,false,false,false,false,false,false,false,false,false,false,false,false,false,false,false,false,false,false,false,false,false,false,false] rfl rfl (z9 HT_.out (by kernel_rfl)) (fun _ _ _ h => h) (Or.inl ⟨by rfl,?_⟩) ?_ ?_
           rotate_left
           ·intro w'
            go_simp
            with_reducible rfl
           rotate_left
           ·simp only [Act.put,List.setIfInBounds_toArray,List.set_cons_zero,List.set_cons_succ,zN,zQ]
            rfl
           refine zai (i := 1) (N := some 28) (v := ?_) (a' := ?_) #[true,true,false,false,false,false,false,false,false,false,false,false,false,false,false,false,false,false,false,false,false,false,false,false] rfl rfl (z9 HT_.out (by kernel_rfl)) (fun _ _ _ h => h) (Or.inl ⟨by rfl,?_⟩) ?_ ?_
           rotate_left
           ·intro w'
            go_simp
            with_reducible rfl
           rotate_left
           ·simp only [Act.put,List.setIfInBounds_toArray,List.set_cons_zero,List.set_cons_succ,zN,zQ]
            rfl
           refine zai (i := 3) (N := some 30) (v := ?_) (a' := ?_) #[true,true,false,true,false,false,false,false,false,false,false,false,false,false,false,false,false,false,false,false,false,false,false,false] rfl rfl (z9 HT_.out (by kernel_rfl)) (fun _ _ _ h => h) (Or.inl ⟨by rfl,?_⟩) ?_ ?_
           rotate_left
           ·intro w'
            go_simp
            with_reducible rfl
           rotate_left
           ·simp only [Act.put,List.setIfInBounds_toArray,List.set_cons_zero,List.set_cons_succ,zN,zQ]
            rfl
           refine zai (i := 4) (N := some 31) (v := ?_) (a' := ?_) #[true,true,false,true,true,false,false,false,false,false,false,false,false,false,false,false,false,false,false,false,false,false,false,false] rfl rfl (z9 HT_.out (by kernel_rfl)) (fun _ _ _ h => h) (Or.inl ⟨by rfl,?_⟩) ?_ ?_
           rotate_left
           ·intro w'
            go_simp
            with_reducible rfl
           rotate_left
           ·simp only [Act.put,List.setIfInBounds_toArray,List.set_cons_zero,List.set_cons_succ,zN,zQ]
            rfl
           refine zai (i := 7) (N := some 34) (v := ?_) (a' := ?_) #[true,true,false,true,true,false,false,true,false,false,false,false,false,false,false,false,false,false,false,false,false,false,false,false] rfl rfl (z9 HT_.out (by kernel_rfl)) (fun _ _ _ h => h) (Or.inl ⟨by rfl,?_⟩) ?_ ?_
           rotate_left
           ·intro w'
            go_simp
            with_reducible rfl
           rotate_left
           ·simp only [Act.put,List.setIfInBounds_toArray,List.set_cons_zero,List.set_cons_succ,zN,zQ]
            rfl
           refine zai (i := 10) (N := some 37) (v := ?_) (a' := ?_) #[true,true,false,true,true,false,false,true,false,false,true,false,false,false,false,false,false,false,false,false,false,false,false,false] rfl rfl (z9 HT_.out (by kernel_rfl)) (fun _ _ _ h => h) (Or.inl ⟨by rfl,?_⟩) ?_ ?_
           rotate_left
           ·intro w'
            go_simp
            with_reducible rfl
           rotate_left
           ·simp only [Act.put,List.setIfInBounds_toArray,List.set_cons_zero,List.set_cons_succ,zN,zQ]
            rfl
           refine zai (i := 14) (N := some 41) (v := ?_) (a' := ?_) #[true,true,false,true,true,false,false,true,false,false,true,false,false,false,true,false,false,false,false,false,false,false,false,false] rfl rfl (z9 HT_.out (by kernel_rfl)) (fun _ _ _ h => h) (Or.inl ⟨by rfl,?_⟩) ?_ ?_
           rotate_left
           ·intro w'
            go_simp
            with_reducible rfl
           rotate_left
           ·simp only [Act.put,List.setIfInBounds_toArray,List.set_cons_zero,List.set_cons_succ,zN,zQ]
            rfl
           refine zai (i := 15) (N := some 42) (v := ?_) (a' := ?_) #[true,true,false,true,true,false,false,true,false,false,true,false,false,false,true,true,false,false,false,false,false,false,false,false] rfl rfl (z9 HT_.out (by kernel_rfl)) (fun _ _ _ h => h) (Or.inl ⟨by rfl,?_⟩) ?_ ?_
           rotate_left
           ·intro w'
            go_simp
            with_reducible rfl
           rotate_left
           ·simp only [Act.put,List.setIfInBounds_toArray,List.set_cons_zero,List.set_cons_succ,zN,zQ]
            rfl
           refine zai (i := 18) (N := some 45) (v := ?_) (a' := ?_) #[true,true,false,true,true,false,false,true,false,false,true,false,false,false,true,true,false,false,true,false,false,false,false,false] rfl rfl (z9 HT_.out (by kernel_rfl)) (fun _ _ _ h => h) (Or.inl ⟨by rfl,?_⟩) ?_ ?_
           rotate_left
           ·intro w'
            go_simp
            with_reducible rfl
           rotate_left
           ·simp only [Act.put,List.setIfInBounds_toArray,List.set_cons_zero,List.set_cons_succ,zN,zQ]
            rfl
           refine zai (i := 19) (N := some 46) (v := ?_) (a' := ?_) #[true,true,false,true,true,false,false,true,false,false,true,false,false,false,true,true,false,false,true,true,false,false,false,false] rfl rfl (z9 HT_.out (by kernel_rfl)) (fun _ _ _ h => h) (Or.inl ⟨by rfl,?_⟩) ?_ ?_
           rotate_left
           ·intro w'
            go_simp
            with_reducible rfl
           rotate_left
           ·simp only [Act.put,List.setIfInBounds_toArray,List.set_cons_zero,List.set_cons_succ,zN,zQ]
            rfl
           refine take_ (i := 2) (N := some 29) (v := ?_) (a' := ?_) #[true,true,true,true,true,false,false,true,false,false,true,false,false,false,true,true,false,false,true,true,false,false,false,false] rfl rfl (zaY HT_.out HW_.out (by kernel_rfl)) (fun _ _ _ h => h) (Or.inl ⟨by rfl,?_⟩) hHeld ?_ ?_
           rotate_left
           ·rintro w' ⟨s0,s1,s2,s3,s4,s5,s6,s7,s8,s9⟩
            go_simp
            with_reducible rfl
           rotate_left
           ·simp only [Act.put,List.setIfInBounds_toArray,List.set_cons_zero,List.set_cons_succ,zN,zQ]
            rfl
           refine take_ (i := 5) (N := some 32) (v := ?_) (a' := ?_) #[true,true,true,true,true,true,false,true,false,false,true,false,false,false,true,true,false,false,true,true,false,false,false,false] rfl rfl (zaY HT_.out HW_.out (by kernel_rfl)) (fun _ _ _ h => h) (Or.inl ⟨by rfl,?_⟩) hHeld ?_ ?_
           rotate_left
           ·rintro w' ⟨s0,s1,s2,s3,s4,s5,s6,s7,s8,s9⟩
            go_simp
            with_reducible rfl
           rotate_left
           ·simp only [Act.put,List.setIfInBounds_toArray,List.set_cons_zero,List.set_cons_succ,zN,zQ]
            rfl
           refine zai (i := 6) (N := some 33) (v := ?_) (a' := ?_) #[true,true,true,true,true,true,true,true,false,false,true,false,false,false,true,true,false,false,true,true,false,false,false,false] rfl rfl (z9 HT_.out (by kernel_rfl)) (fun _ _ _ h => h) (Or.inl ⟨by rfl,?_⟩) ?_ ?_
           rotate_left
           ·intro w'
            go_simp
            with_reducible rfl
           rotate_left
           ·simp only [Act.put,List.setIfInBounds_toArray,List.set_cons_zero,List.set_cons_succ,zN,zQ]
            rfl
           refine take_ (i := 11) (N := some 38) (v := ?_) (a' := ?_) #[true,true,true,true,true,true,true,true,false,false,true,true,false,false,true,true,false,false,true,true,false,false,false,false] rfl rfl (zaY HT_.out HW_.out (by kernel_rfl)) (fun _ _ _ h => h) (Or.inl ⟨by rfl,?_⟩) hHeld ?_ ?_
           rotate_left
           ·rintro w' ⟨s0,s1,s2,s3,s4,s5,s6,s7,s8,s9⟩
            go_simp
            with_reducible rfl
           rotate_left
           ·simp only [Act.put,List.setIfInBounds_toArray,List.set_cons_zero,List.set_cons_succ,zN,zQ]
            rfl
           refine take_ (i := 16) (N := some 43) (v := ?_) (a' := ?_) #[true,true,true,true,true,true,true,true,false,false,true,true,false,false,true,true,true,false,true,true,false,false,false,false] rfl rfl (zaY HT_.out HW_.out (by kernel_rfl)) (fun _ _ _ h => h) (Or.inl ⟨by rfl,?_⟩) hHeld ?_ ?_
           rotate_left
           ·rintro w' ⟨s0,s1,s2,s3,s4,s5,s6,s7,s8,s9⟩
            go_simp
            with_reducible rfl
           rotate_left
           ·simp only [Act.put,List.setIfInBounds_toArray,List.set_cons_zero,List.set_cons_succ,zN,zQ]
            rfl
           refine take_ (i := 20) (N := some 47) (v := ?_) (a' := ?_) #[true,true,true,true,true,true,true,true,false,false,true,true,false,false,true,true,true,false,true,true,true,false,false,false] rfl rfl (zaY HT_.out HW_.out (by kernel_rfl)) (fun _ _ _ h => h) (Or.inl ⟨by rfl,?_⟩) hHeld ?_ ?_
           rotate_left
           ·rintro w' ⟨s0,s1,s2,s3,s4,s5,s6,s7,s8,s9⟩
            go_simp
            with_reducible rfl
           rotate_left
           ·simp only [Act.put,List.setIfInBounds_toArray,List.set_cons_zero,List.set_cons_succ,zN,zQ]
            rfl
           refine zc7 (i := 8) (N := some 35) #[true,true,true,true,true,true,true,true,true,false,true,true,false,false,true,true,true,false,true,true,true,false,false,false] rfl rfl (zbT HT_.out (by kernel_rfl)) (by decide) (fun K hK => ?_)
           refine zb4 Try.func83 (by kernel_rfl) rfl #[.slice Ao30 t435.length co30] (by rfl) rfl rfl (by (try simp only [List.map_toArray,List.map_cons,List.map_nil]);first | done | rfl | (simp only [List.length_drop,List.length_take];rfl)) ?_
           with_reducible refine (zaa.calls _ _ t435 t446 _ ?side1 ?side2 A10.out).mono ?_
           (case side1 => repeat (first | exact (Kd.R_reads' HO437.out).2.2 | (with_reducible refine Kd.C_alloc ?_ _) | (with_reducible refine Kd.C_drewN ?_ _) | (with_reducible refine Kd.C_drew ?_)))
           (case side2 => exact (Kd.R_reads' HO437.out).2.1)
           rintro e w31 ⟨rfl,hb⟩
           have HS6_ := (hb.cell (World.block_lt_of_cell? _ _ (hHeld.2.2.2.2.2.2.1))).trans (hHeld.2.2.2.2.2.2.1)
           have HS7_ := (hb.cell (World.block_lt_of_cell? _ _ (hHeld.2.2.2.2.2.2.2.1))).trans (hHeld.2.2.2.2.2.2.2.1)
           have HS8_ := (hb.cell (World.block_lt_of_cell? _ _ (hHeld.2.2.2.2.2.2.2.2.1))).trans (hHeld.2.2.2.2.2.2.2.2.1)
           have HS9_ := (hb.cell (World.block_lt_of_cell? _ _ (hHeld.2.2.2.2.2.2.2.2.2))).trans (hHeld.2.2.2.2.2.2.2.2.2)
           refine ⟨_,rfl,?_⟩
           have n0_ := zc.mk (Kd.R_below (by (with_reducible repeat (first | apply Kd.R_alloc | apply Kd.R_drewN | apply Kd.R_drew));exact HO437.out) hb)
           have n1_ := zc.mk (Kd.R_below (by (with_reducible repeat (first | apply Kd.R_alloc | apply Kd.R_drewN | apply Kd.R_drew));exact HO440.out) hb)
           have n2_ := zc.mk (Kd.R_below (by (with_reducible repeat (first | apply Kd.R_alloc | apply Kd.R_drewN | apply Kd.R_drew));exact HO443.out) hb)
           have n3_ := zc.mk (zh (g := gb433) (o := .cells #[.int .i64 a0_0,.int .i64 a0_1,.slice A0_2 l0_2.length c0_2,.slice A0_3 l0_3.length c0_3,.int .i64 a0_4,.int .i64 a0_5] 28 (0,0)) (hGq BK433.out) hb)
           have n4_ := zc.mk (zg hCq hb)
           clear HO437
           clear HO440
           clear HO443
           clear BK433
           clear HB
           have HO437 := n0_
           have HO440 := n1_
           have HO443 := n2_
           have BK433 := n3_
           have HB := n4_
           clear n0_ n1_ n2_ n3_ n4_
           (try clear hb)
           (try clear hb2)
           (try clear hk)
           (try clear hi)
           refine hK.out _ _ ⟨(zb BK433.out 0).trans rfl,(zb BK433.out 1).trans rfl,(zb BK433.out 2).trans rfl,(zb BK433.out 3).trans rfl,(zb BK433.out 4).trans rfl,(zb BK433.out 5).trans rfl,HS6_,HS7_,HS8_,HS9_⟩ (fun hHeld => ?_)
           clear hK K
           refine zb5 (a' := ?_) ?_ ?_
           rotate_left
           ·show Act.put _ (some 35) _ = _
            simp only [Act.put,List.setIfInBounds_toArray,List.set_cons_zero,List.set_cons_succ,zN,zQ]
            rfl
           refine zai (i := 9) (N := some 36) (v := ?_) (a' := ?_) #[true,true,true,true,true,true,true,true,true,true,true,true,false,false,true,true,true,false,true,true,true,false,false,false] rfl rfl (z9 HT_.out (by kernel_rfl)) (fun _ _ _ h => h) (Or.inl ⟨by rfl,?_⟩) ?_ ?_
           rotate_left
           ·intro w'
            go_simp
            with_reducible rfl
           rotate_left
           ·simp only [Act.put,List.setIfInBounds_toArray,List.set_cons_zero,List.set_cons_succ,zN,zQ]
            rfl
           refine zc7 (i := 12) (N := some 39) #[true,true,true,true,true,true,true,true,true,true,true,true,true,false,true,true,true,false,true,true,true,false,false,false] rfl rfl (zbT HT_.out (by kernel_rfl)) (by decide) (fun K hK => ?_)
           refine zb4 Try.func83 (by kernel_rfl) rfl #[.slice A0_3 l0_3.length c0_3] (by rfl) rfl rfl (by (try simp only [List.map_toArray,List.map_cons,List.map_nil]);first | done | rfl | (simp only [List.length_drop,List.length_take];rfl)) ?_
           with_reducible refine (zaa.calls _ _ l0_3 t447 _ ?side1 ?side2 A12.out).mono ?_
           (case side1 => repeat (first | exact (Kd.C_below HR0_3.out HB.out) | (with_reducible refine Kd.C_alloc ?_ _) | (with_reducible refine Kd.C_drewN ?_ _) | (with_reducible refine Kd.C_drew ?_)))
           (case side2 => exact HC0_3.out)
           rintro e w32 ⟨rfl,hb⟩
           have HS6_ := (hb.cell (World.block_lt_of_cell? _ _ (hHeld.2.2.2.2.2.2.1))).trans (hHeld.2.2.2.2.2.2.1)
           have HS7_ := (hb.cell (World.block_lt_of_cell? _ _ (hHeld.2.2.2.2.2.2.2.1))).trans (hHeld.2.2.2.2.2.2.2.1)
           have HS8_ := (hb.cell (World.block_lt_of_cell? _ _ (hHeld.2.2.2.2.2.2.2.2.1))).trans (hHeld.2.2.2.2.2.2.2.2.1)
           have HS9_ := (hb.cell (World.block_lt_of_cell? _ _ (hHeld.2.2.2.2.2.2.2.2.2))).trans (hHeld.2.2.2.2.2.2.2.2.2)
           refine ⟨_,rfl,?_⟩
           have n0_ := zc.mk (Kd.R_below (by (with_reducible repeat (first | apply Kd.R_alloc | apply Kd.R_drewN | apply Kd.R_drew));exact HO437.out) hb)
           have n1_ := zc.mk (Kd.R_below (by (with_reducible repeat (first | apply Kd.R_alloc | apply Kd.R_drewN | apply Kd.R_drew));exact HO440.out) hb)
           have n2_ := zc.mk (Kd.R_below (by (with_reducible repeat (first | apply Kd.R_alloc | apply Kd.R_drewN | apply Kd.R_drew));exact HO443.out) hb)
           have n3_ := zc.mk (zh (g := gb433) (o := .cells #[.int .i64 a0_0,.int .i64 a0_1,.slice A0_2 l0_2.length c0_2,.slice A0_3 l0_3.length c0_3,.int .i64 a0_4,.int .i64 a0_5] 28 (0,0)) (hGq BK433.out) hb)
           have n4_ := zc.mk (zg hCq hb)
           clear HO437
           clear HO440
           clear HO443
           clear BK433
           clear HB
           have HO437 := n0_
           have HO440 := n1_
           have HO443 := n2_
           have BK433 := n3_
           have HB := n4_
           clear n0_ n1_ n2_ n3_ n4_
           (try clear hb)
           (try clear hb2)
           (try clear hk)
           (try clear hi)
           refine hK.out _ _ ⟨(zb BK433.out 0).trans rfl,(zb BK433.out 1).trans rfl,(zb BK433.out 2).trans rfl,(zb BK433.out 3).trans rfl,(zb BK433.out 4).trans rfl,(zb BK433.out 5).trans rfl,HS6_,HS7_,HS8_,HS9_⟩ (fun hHeld => ?_)
           clear hK K
           refine zb5 (a' := ?_) ?_ ?_
           rotate_left
           ·show Act.put _ (some 39) _ = _
            simp only [Act.put,List.setIfInBounds_toArray,List.set_cons_zero,List.set_cons_succ,zN,zQ]
            rfl
           refine zai (i := 13) (N := some 40) (v := ?_) (a' := ?_) #[true,true,true,true,true,true,true,true,true,true,true,true,true,true,true,true,true,false,true,true,true,false,false,false] rfl rfl (z9 HT_.out (by kernel_rfl)) (fun _ _ _ h => h) (Or.inl ⟨by rfl,?_⟩) ?_ ?_
           rotate_left
           ·intro w'
            go_simp
            with_reducible rfl
           rotate_left
           ·simp only [Act.put,List.setIfInBounds_toArray,List.set_cons_zero,List.set_cons_succ,zN,zQ]
            rfl
           refine zai (i := 17) (N := some 44) (v := ?_) (a' := ?_) #[true,true,true,true,true,true,true,true,true,true,true,true,true,true,true,true,true,true,true,true,true,false,false,false] rfl rfl (z9 HT_.out (by kernel_rfl)) (fun _ _ _ h => h) (Or.inl ⟨by rfl,?_⟩) ?_ ?_
           rotate_left
           ·intro w'
            go_simp
            with_reducible rfl
           rotate_left
           ·simp only [Act.put,List.setIfInBounds_toArray,List.set_cons_zero,List.set_cons_succ,zN,zQ]
            rfl
           refine zai (i := 21) (N := some 48) (v := ?_) (a' := ?_) #[true,true,true,true,true,true,true,true,true,true,true,true,true,true,true,true,true,true,true,true,true,true,false,false] rfl rfl (z9 HT_.out (by kernel_rfl)) (fun _ _ _ h => h) (Or.inl ⟨by rfl,?_⟩) ?_ ?_
           rotate_left
           ·intro w'
            go_simp
            with_reducible rfl
           rotate_left
           ·simp only [Act.put,List.setIfInBounds_toArray,List.set_cons_zero,List.set_cons_succ,zN,zQ]
            rfl
           refine zai (i := 22) (N := some 4) (v := ?_) (a' := ?_) #[true,true,true,true,true,true,true,true,true,true,true,true,true,true,true,true,true,true,true,true,true,true,true,false] rfl rfl (z9 HT_.out (by kernel_rfl)) (fun _ _ _ h => h) (Or.inl ⟨by rfl,?_⟩) ?_ ?_
           rotate_left
           ·intro w'
            go_simp
            with_reducible rfl
           rotate_left
           ·simp only [Act.put,List.setIfInBounds_toArray,List.set_cons_zero,List.set_cons_succ,zN,zQ]
            rfl
           refine zai (i := 23) (N := some 5) (v := ?_) (a' := ?_) #[true,true,true,true,true,true,true,true,true,true,true,true,true,true,true,true,true,true,true,true,true,true,true,true] rfl rfl (z9 HT_.out (by kernel_rfl)) (fun _ _ _ h => h) (Or.inl ⟨by rfl,?_⟩) ?_ ?_
           rotate_left
           ·intro w'
            go_simp
            with_reducible rfl
           rotate_left
           ·simp only [Act.put,List.setIfInBounds_toArray,List.set_cons_zero,List.set_cons_succ,zN,zQ]
            rfl
           refine zeg (zc8 HT_.out (by kernel_rfl)) ?_
           try go_wp2
           go_ret2
           exact ⟨hHq,hCq⟩
          ·rw [if_neg c17] at H
           exact absurd H (by simp)
         ·rw [if_neg c16] at H
          exact absurd H (by simp)
        ·rw [if_neg c15] at H
         exact absurd H (by simp)
       ·rw [if_neg c14] at H
        exact absurd H (by simp)
      ·rw [if_neg c13] at H
       exact absurd H (by simp)
     ·rw [if_neg c11] at H
      exact absurd H (by simp)
    ·rw [if_neg c9] at H
     exact absurd H (by simp)
   ·rw [if_neg c8] at H
    exact absurd H (by simp)
  ·rw [if_neg c7] at H
   exact absurd H (by simp)
 ·replace c4 := Bool.eq_false_iff.mpr c4
  subst c4
  have H1 : (some ((⟨#[]⟩ : ByteArray),1)) = some (r1,r2) := by rw [if_neg (show ¬ (false = true) by decide)] at H;exact H
  clear H
  have H := H1
  clear H1
  simp only [Option.some.injEq,Prod.mk.injEq] at H
  obtain ⟨rfl,rfl⟩ := H
  go_enter Try.func49,Try.ntmps49
  go_wp2_with (first | ((with_reducible refine zD (N := 2) rfl ?_);refine zq ?hg (N := 2) ?hd (cs := #[.int .i64 a0_0,.int .i64 a0_1,.slice A0_2 l0_2.length c0_2,.slice A0_3 l0_3.length c0_3,.int .i64 a0_4,.int .i64 a0_5]) (t := 28) ?hr ?_;(case hd => rfl);(case hg => rfl);(case hr => first | (go_simp;done) | (go_simp;rfl));intro gb433 hg w33 hbox hb;have n0_ := zc.mk (zg hBq hb);have n1_ := zc.mk (hbox);have n2_ := zc.mk ((by rw [hg];exact (zj hBq) : w.heap.size ≤ gb433));have n3_ := zc.mk ((by rw [hg];exact (zj hBq) : w.heap.size ≤ gb433));clear HB;have HB := n0_;have BK433 := n1_;have GW433 := n2_;have GE433 := n3_;clear n0_ n1_ n2_ n3_;clear hb hbox hg;have hcz34_0 : w33.cell? ⟨gb433,0,none⟩ = some (.int .i64 a0_0) := (zb BK433.out 0).trans rfl;have hcz34_1 : w33.cell? ⟨gb433,1,none⟩ = some (.int .i64 a0_1) := (zb BK433.out 1).trans rfl;have hcz34_2 : w33.cell? ⟨gb433,2,none⟩ = some (.slice A0_2 l0_2.length c0_2) := (zb BK433.out 2).trans rfl;have hcz34_3 : w33.cell? ⟨gb433,3,none⟩ = some (.slice A0_3 l0_3.length c0_3) := (zb BK433.out 3).trans rfl;have hcz34_4 : w33.cell? ⟨gb433,4,none⟩ = some (.int .i64 a0_4) := (zb BK433.out 4).trans rfl;have hcz34_5 : w33.cell? ⟨gb433,5,none⟩ = some (.int .i64 a0_5) := (zb BK433.out 5).trans rfl;have hfz34_0 := za BK433.out 0;have hfz34_1 := za BK433.out 1;have hfz34_2 := za BK433.out 2;have hfz34_3 := za BK433.out 3;have hfz34_4 := za BK433.out 4;have hfz34_5 := za BK433.out 5) | ((with_reducible refine zp (f := 59) rfl ?_);refine z6 (some 10) rfl rfl Try.func59 (by kernel_rfl) rfl #[.agg #[.int .i64 a0_0,.int .i64 a0_1,.slice A0_2 l0_2.length c0_2,.slice A0_3 l0_3.length c0_3,.int .i64 a0_4,.int .i64 a0_5],.int .i64 a1] rfl (by (try simp only [List.map_toArray,List.map_cons,List.map_nil]);first | done | rfl | (simp only [List.length_drop,List.length_take];rfl)) ?_;(with_reducible refine (zaj.calls a0_0 a0_1 _ _ l0_2 _ _ l0_3 a0_4 a0_5 a1 false _ ?side1 ?side2 ?side3 ?side4 A3.out).mono ?_);(case side1 => repeat (first | exact (Kd.C_below HR0_2.out HB.out) | (with_reducible refine Kd.C_alloc ?_ _) | (with_reducible refine Kd.C_drewN ?_ _) | (with_reducible refine Kd.C_drew ?_)));(case side2 => exact HC0_2.out);(case side3 => repeat (first | exact (Kd.C_below HR0_3.out HB.out) | (with_reducible refine Kd.C_alloc ?_ _) | (with_reducible refine Kd.C_drewN ?_ _) | (with_reducible refine Kd.C_drew ?_)));(case side4 => exact HC0_3.out);rintro e w35 ⟨rfl,hb⟩;refine ⟨_,rfl,?_⟩;have n0_ := zc.mk (zh (g := gb433) (o := .cells #[.int .i64 a0_0,.int .i64 a0_1,.slice A0_2 l0_2.length c0_2,.slice A0_3 l0_3.length c0_3,.int .i64 a0_4,.int .i64 a0_5] 28 (0,0)) (hGq BK433.out) hb);have n1_ := zc.mk (zg hCq hb);clear BK433;clear HB;have BK433 := n0_;have HB := n1_;clear n0_ n1_;(try clear hb);(try clear hb2);(try clear hk);(try clear hi)))
  go_ret2
  exact ⟨hHq,hCq⟩
end Go.Proofs.Ytgdpiegkoeikiaa.Px