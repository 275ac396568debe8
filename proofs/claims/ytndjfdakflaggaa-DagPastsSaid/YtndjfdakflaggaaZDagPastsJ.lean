/- Part 10 of 30 of the proof of the law DagPasts: what is proved is the statement at the end of the last part; its conditions are those of the given row. -/
import Derived.Test.YtndjfdakflaggaaZDagPastsH
import Derived.Test.YtndjfdakflaggaaZDagPastsI
namespace Go.Proofs.Ytndjfdakflaggaa.Px
open Go.RowKit Go.Proofs.YtndjfdakflaggaaW.PrintWords Go.Proofs.YtndjfdakflaggaaW.PrintLast Go.Proofs.YtndjfdakflaggaaW.PrintMore
attribute [local go_sem] zt zv zA zB zq zr zu zw
set_option linter.unusedVariables false
set_option linter.unusedSimpArgs false
def zag.f (a0_0 : Int) (a0_1 : Int) (l0_2 : List (S78)) (l0_3 : List ByteArray) (a0_4 : Int) (a0_5 : Int) (a1 : Int) : Option (ByteArray × Int) := (zaj.f a0_0 a0_1 l0_2 l0_3 a0_4 a0_5 a1).bind fun t114 => (if t114 = true then ((zap.f l0_2).bind fun t115 => ((zad.f (([a0_0,a0_1,a0_4,a0_5] : List Int))).bind fun t121 => (if 0 < (t121.length : Int) then (if 1 < (t121.length : Int) then (if (zz ByteArray.empty t121 0).size + (zz ByteArray.empty t121 1).size ≤ 9223372036854775807 then ((zK.f t115).bind fun t126 => (if ((zz ByteArray.empty t121 0) ++ (zz ByteArray.empty t121 1)).size + t126.size ≤ 9223372036854775807 then ((zK.f l0_3).bind fun t127 => (if (((zz ByteArray.empty t121 0) ++ (zz ByteArray.empty t121 1)) ++ t126).size + t127.size ≤ 9223372036854775807 then (if 2 < (t121.length : Int) then (if ((((zz ByteArray.empty t121 0) ++ (zz ByteArray.empty t121 1)) ++ t126) ++ t127).size + (zz ByteArray.empty t121 2).size ≤ 9223372036854775807 then (if 3 < (t121.length : Int) then (if (((((zz ByteArray.empty t121 0) ++ (zz ByteArray.empty t121 1)) ++ t126) ++ t127) ++ (zz ByteArray.empty t121 2)).size + (zz ByteArray.empty t121 3).size ≤ 9223372036854775807 then (some ((((((zz ByteArray.empty t121 0) ++ (zz ByteArray.empty t121 1)) ++ t126) ++ t127) ++ (zz ByteArray.empty t121 2)) ++ (zz ByteArray.empty t121 3),0)) else (none)) else (none)) else (none)) else (none)) else (none))) else (none))) else (none)) else (none)) else (none)))) else (some ((⟨#[]⟩ : ByteArray),1)))
def zag.T5 : Bool × List (List Nat × List Nat) := (true,[([],[]),([0],[0]),([1],[1]),([],[]),([3],[3]),([4],[4]),([2,5],[2,5]),([],[]),([7],[7]),([6,8],[6,8]),([],[]),([10],[10]),([11,8],[11]),([9,12],[9,12]),([],[]),([14],[14]),([15],[15]),([13,16],[13,16]),([],[]),([18],[18]),([19],[19]),([17,20],[17,20]),([21,12,0,1,2,3,4,5,6,7,8,9,10,11,12,13,14,15,16,17,18,19,20,21],[21]),([22,0,1,2,3,4,5,6,7,8,9,10,11,12,13,14,15,16,17,18,19,20,21,22],[])])
def zag.B5 : List Nat := [0,1,3,0,8,24,63,0,128,511,0,1024,3456,8191,0,16384,49152,131071,0,262144,786432,2097151,4194303,8388607]
theorem zag.tab5 : zbI .any (zd6 Try.f49 5) = zag.T5 := by kernel_rfl
theorem zag.bits5 : zbw zag.T5.2 zag.B5 = true := by kernel_rfl
set_option maxHeartbeats 8000000 in
set_option maxRecDepth 100000 in
theorem zag.calls (a0_0 : Int) (a0_1 : Int) (A0_2 : Option Addr) (c0_2 : Nat) (l0_2 : List (S78)) (A0_3 : Option Addr) (c0_3 : Nat) (l0_3 : List ByteArray) (a0_4 : Int) (a0_5 : Int) (a1 : Int) (r1 : ByteArray) (r2 : Int) (w : World) (hr0_2 : Kd.C k78 w A0_2 l0_2.length l0_2) (hc0_2 : l0_2.length ≤ c0_2) (hr0_3 : Kd.C Kd.string w A0_3 l0_3.length l0_3) (hc0_3 : l0_3.length ≤ c0_3) (h : zag.f a0_0 a0_1 l0_2 l0_3 a0_4 a0_5 a1 = some (r1,r2)) :
  Calls Try.prog 49 #[.agg #[.int .i64 a0_0,.int .i64 a0_1,.slice A0_2 l0_2.length c0_2,.slice A0_3 l0_3.length c0_3,.int .i64 a0_4,.int .i64 a0_5],.int .i64 a1] w fun e w' => e = .returned (.tuple #[.string r1,.int .i64 r2]) ∧ Below w.heap.size w w' := by
 have hu32 := Try.underlying32
 have HR0_2 := za.mk hr0_2
 have HC0_2 := za.mk hc0_2
 clear hr0_2 hc0_2
 have HR0_3 := za.mk hr0_3
 have HC0_3 := za.mk hc0_3
 clear hr0_3 hc0_3
 have HB := za.mk (Below.refl w.heap.size w)
 have H : ((zaj.f a0_0 a0_1 l0_2 l0_3 a0_4 a0_5 a1).bind fun t114 => (if t114 = true then ((zap.f l0_2).bind fun t115 => ((zad.f (([a0_0,a0_1,a0_4,a0_5] : List Int))).bind fun t121 => (if 0 < (t121.length : Int) then (if 1 < (t121.length : Int) then (if (zz ByteArray.empty t121 0).size + (zz ByteArray.empty t121 1).size ≤ 9223372036854775807 then ((zK.f t115).bind fun t126 => (if ((zz ByteArray.empty t121 0) ++ (zz ByteArray.empty t121 1)).size + t126.size ≤ 9223372036854775807 then ((zK.f l0_3).bind fun t127 => (if (((zz ByteArray.empty t121 0) ++ (zz ByteArray.empty t121 1)) ++ t126).size + t127.size ≤ 9223372036854775807 then (if 2 < (t121.length : Int) then (if ((((zz ByteArray.empty t121 0) ++ (zz ByteArray.empty t121 1)) ++ t126) ++ t127).size + (zz ByteArray.empty t121 2).size ≤ 9223372036854775807 then (if 3 < (t121.length : Int) then (if (((((zz ByteArray.empty t121 0) ++ (zz ByteArray.empty t121 1)) ++ t126) ++ t127) ++ (zz ByteArray.empty t121 2)).size + (zz ByteArray.empty t121 3).size ≤ 9223372036854775807 then (some ((((((zz ByteArray.empty t121 0) ++ (zz ByteArray.empty t121 1)) ++ t126) ++ t127) ++ (zz ByteArray.empty t121 2)) ++ (zz ByteArray.empty t121 3),0)) else (none)) else (none)) else (none)) else (none)) else (none))) else (none))) else (none)) else (none)) else (none)))) else (some ((⟨#[]⟩ : ByteArray),1)))) = some (r1,r2) := h
 clear h
 replace H := Option.bind_eq_some_iff.mp H
 obtain ⟨t114,A30,H⟩ := H
 replace H : (if t114 = true then ((zap.f l0_2).bind fun t115 => ((zad.f (([a0_0,a0_1,a0_4,a0_5] : List Int))).bind fun t121 => (if 0 < (t121.length : Int) then (if 1 < (t121.length : Int) then (if (zz ByteArray.empty t121 0).size + (zz ByteArray.empty t121 1).size ≤ 9223372036854775807 then ((zK.f t115).bind fun t126 => (if ((zz ByteArray.empty t121 0) ++ (zz ByteArray.empty t121 1)).size + t126.size ≤ 9223372036854775807 then ((zK.f l0_3).bind fun t127 => (if (((zz ByteArray.empty t121 0) ++ (zz ByteArray.empty t121 1)) ++ t126).size + t127.size ≤ 9223372036854775807 then (if 2 < (t121.length : Int) then (if ((((zz ByteArray.empty t121 0) ++ (zz ByteArray.empty t121 1)) ++ t126) ++ t127).size + (zz ByteArray.empty t121 2).size ≤ 9223372036854775807 then (if 3 < (t121.length : Int) then (if (((((zz ByteArray.empty t121 0) ++ (zz ByteArray.empty t121 1)) ++ t126) ++ t127) ++ (zz ByteArray.empty t121 2)).size + (zz ByteArray.empty t121 3).size ≤ 9223372036854775807 then (some ((((((zz ByteArray.empty t121 0) ++ (zz ByteArray.empty t121 1)) ++ t126) ++ t127) ++ (zz ByteArray.empty t121 2)) ++ (zz ByteArray.empty t121 3),0)) else (none)) else (none)) else (none)) else (none)) else (none))) else (none))) else (none)) else (none)) else (none)))) else (some ((⟨#[]⟩ : ByteArray),1))) = some (r1,r2) := H
 have A3 := za.mk A30
 clear A30
 by_cases c4 : t114 = true
 ·subst c4
  have H1 : ((zap.f l0_2).bind fun t115 => ((zad.f (([a0_0,a0_1,a0_4,a0_5] : List Int))).bind fun t121 => (if 0 < (t121.length : Int) then (if 1 < (t121.length : Int) then (if (zz ByteArray.empty t121 0).size + (zz ByteArray.empty t121 1).size ≤ 9223372036854775807 then ((zK.f t115).bind fun t126 => (if ((zz ByteArray.empty t121 0) ++ (zz ByteArray.empty t121 1)).size + t126.size ≤ 9223372036854775807 then ((zK.f l0_3).bind fun t127 => (if (((zz ByteArray.empty t121 0) ++ (zz ByteArray.empty t121 1)) ++ t126).size + t127.size ≤ 9223372036854775807 then (if 2 < (t121.length : Int) then (if ((((zz ByteArray.empty t121 0) ++ (zz ByteArray.empty t121 1)) ++ t126) ++ t127).size + (zz ByteArray.empty t121 2).size ≤ 9223372036854775807 then (if 3 < (t121.length : Int) then (if (((((zz ByteArray.empty t121 0) ++ (zz ByteArray.empty t121 1)) ++ t126) ++ t127) ++ (zz ByteArray.empty t121 2)).size + (zz ByteArray.empty t121 3).size ≤ 9223372036854775807 then (some ((((((zz ByteArray.empty t121 0) ++ (zz ByteArray.empty t121 1)) ++ t126) ++ t127) ++ (zz ByteArray.empty t121 2)) ++ (zz ByteArray.empty t121 3),0)) else (none)) else (none)) else (none)) else (none)) else (none))) else (none))) else (none)) else (none)) else (none)))) = some (r1,r2) := by rw [if_pos rfl] at H;exact H
  clear H
  have H := H1
  clear H1
  replace H := Option.bind_eq_some_iff.mp H
  obtain ⟨t115,A50,H⟩ := H
  replace H : ((zad.f (([a0_0,a0_1,a0_4,a0_5] : List Int))).bind fun t121 => (if 0 < (t121.length : Int) then (if 1 < (t121.length : Int) then (if (zz ByteArray.empty t121 0).size + (zz ByteArray.empty t121 1).size ≤ 9223372036854775807 then ((zK.f t115).bind fun t126 => (if ((zz ByteArray.empty t121 0) ++ (zz ByteArray.empty t121 1)).size + t126.size ≤ 9223372036854775807 then ((zK.f l0_3).bind fun t127 => (if (((zz ByteArray.empty t121 0) ++ (zz ByteArray.empty t121 1)) ++ t126).size + t127.size ≤ 9223372036854775807 then (if 2 < (t121.length : Int) then (if ((((zz ByteArray.empty t121 0) ++ (zz ByteArray.empty t121 1)) ++ t126) ++ t127).size + (zz ByteArray.empty t121 2).size ≤ 9223372036854775807 then (if 3 < (t121.length : Int) then (if (((((zz ByteArray.empty t121 0) ++ (zz ByteArray.empty t121 1)) ++ t126) ++ t127) ++ (zz ByteArray.empty t121 2)).size + (zz ByteArray.empty t121 3).size ≤ 9223372036854775807 then (some ((((((zz ByteArray.empty t121 0) ++ (zz ByteArray.empty t121 1)) ++ t126) ++ t127) ++ (zz ByteArray.empty t121 2)) ++ (zz ByteArray.empty t121 3),0)) else (none)) else (none)) else (none)) else (none)) else (none))) else (none))) else (none)) else (none)) else (none))) = some (r1,r2) := H
  have A5 := za.mk A50
  clear A50
  obtain ⟨y118,hy118⟩ : ∃ y_ : List Int,y_ = (([a0_0,a0_1,a0_4,a0_5] : List Int)) := ⟨_,rfl⟩
  replace H : ((zad.f y118).bind fun t121 => (if 0 < (t121.length : Int) then (if 1 < (t121.length : Int) then (if (zz ByteArray.empty t121 0).size + (zz ByteArray.empty t121 1).size ≤ 9223372036854775807 then ((zK.f t115).bind fun t126 => (if ((zz ByteArray.empty t121 0) ++ (zz ByteArray.empty t121 1)).size + t126.size ≤ 9223372036854775807 then ((zK.f l0_3).bind fun t127 => (if (((zz ByteArray.empty t121 0) ++ (zz ByteArray.empty t121 1)) ++ t126).size + t127.size ≤ 9223372036854775807 then (if 2 < (t121.length : Int) then (if ((((zz ByteArray.empty t121 0) ++ (zz ByteArray.empty t121 1)) ++ t126) ++ t127).size + (zz ByteArray.empty t121 2).size ≤ 9223372036854775807 then (if 3 < (t121.length : Int) then (if (((((zz ByteArray.empty t121 0) ++ (zz ByteArray.empty t121 1)) ++ t126) ++ t127) ++ (zz ByteArray.empty t121 2)).size + (zz ByteArray.empty t121 3).size ≤ 9223372036854775807 then (some ((((((zz ByteArray.empty t121 0) ++ (zz ByteArray.empty t121 1)) ++ t126) ++ t127) ++ (zz ByteArray.empty t121 2)) ++ (zz ByteArray.empty t121 3),0)) else (none)) else (none)) else (none)) else (none)) else (none))) else (none))) else (none)) else (none)) else (none))) = some (r1,r2) := by first | (rw [hy118];with_reducible exact H) | (have H2_ := (Option.bind_some _ _).symm.trans H;rw [hy118];with_reducible exact H2_) | (have H2_ := (Option.bind_some _ _).symm.trans H;with_reducible exact H2_) | with_reducible exact H | (rw [hy118];exact H) | exact H
  have Ny118 := za.mk hy118
  clear hy118
  replace H := Option.bind_eq_some_iff.mp H
  obtain ⟨t121,A60,H⟩ := H
  replace H : (if 0 < (t121.length : Int) then (if 1 < (t121.length : Int) then (if (zz ByteArray.empty t121 0).size + (zz ByteArray.empty t121 1).size ≤ 9223372036854775807 then ((zK.f t115).bind fun t126 => (if ((zz ByteArray.empty t121 0) ++ (zz ByteArray.empty t121 1)).size + t126.size ≤ 9223372036854775807 then ((zK.f l0_3).bind fun t127 => (if (((zz ByteArray.empty t121 0) ++ (zz ByteArray.empty t121 1)) ++ t126).size + t127.size ≤ 9223372036854775807 then (if 2 < (t121.length : Int) then (if ((((zz ByteArray.empty t121 0) ++ (zz ByteArray.empty t121 1)) ++ t126) ++ t127).size + (zz ByteArray.empty t121 2).size ≤ 9223372036854775807 then (if 3 < (t121.length : Int) then (if (((((zz ByteArray.empty t121 0) ++ (zz ByteArray.empty t121 1)) ++ t126) ++ t127) ++ (zz ByteArray.empty t121 2)).size + (zz ByteArray.empty t121 3).size ≤ 9223372036854775807 then (some ((((((zz ByteArray.empty t121 0) ++ (zz ByteArray.empty t121 1)) ++ t126) ++ t127) ++ (zz ByteArray.empty t121 2)) ++ (zz ByteArray.empty t121 3),0)) else (none)) else (none)) else (none)) else (none)) else (none))) else (none))) else (none)) else (none)) else (none)) = some (r1,r2) := H
  have A6 := za.mk A60
  clear A60
  by_cases c7 : 0 < (t121.length : Int)
  ·rw [if_pos c7] at H
   have c7b0 : decide (0 < (t121.length : Int)) = true := decide_eq_true c7
   have c7b1 : decide (0 < t121.length) = true := decide_eq_true (by omega)
   clear c7
   by_cases c8 : 1 < (t121.length : Int)
   ·rw [if_pos c8] at H
    have c8b0 : decide (1 < (t121.length : Int)) = true := decide_eq_true c8
    have c8b1 : decide (1 < t121.length) = true := decide_eq_true (by omega)
    clear c8
    by_cases c9 : (zz ByteArray.empty t121 0).size + (zz ByteArray.empty t121 1).size ≤ 9223372036854775807
    ·rw [if_pos c9] at H
     have c9b0 := eq_true c9
     have c9b1 : decide ((zz ByteArray.empty t121 0).size + (zz ByteArray.empty t121 1).size ≤ 9223372036854775807) = true := decide_eq_true c9
     try have c9b2 : (9223372036854775807 < (zz ByteArray.empty t121 0).size + (zz ByteArray.empty t121 1).size) = False := eq_false (Nat.not_lt.2 c9)
     replace H := Option.bind_eq_some_iff.mp H
     obtain ⟨t126,A100,H⟩ := H
     replace H : (if ((zz ByteArray.empty t121 0) ++ (zz ByteArray.empty t121 1)).size + t126.size ≤ 9223372036854775807 then ((zK.f l0_3).bind fun t127 => (if (((zz ByteArray.empty t121 0) ++ (zz ByteArray.empty t121 1)) ++ t126).size + t127.size ≤ 9223372036854775807 then (if 2 < (t121.length : Int) then (if ((((zz ByteArray.empty t121 0) ++ (zz ByteArray.empty t121 1)) ++ t126) ++ t127).size + (zz ByteArray.empty t121 2).size ≤ 9223372036854775807 then (if 3 < (t121.length : Int) then (if (((((zz ByteArray.empty t121 0) ++ (zz ByteArray.empty t121 1)) ++ t126) ++ t127) ++ (zz ByteArray.empty t121 2)).size + (zz ByteArray.empty t121 3).size ≤ 9223372036854775807 then (some ((((((zz ByteArray.empty t121 0) ++ (zz ByteArray.empty t121 1)) ++ t126) ++ t127) ++ (zz ByteArray.empty t121 2)) ++ (zz ByteArray.empty t121 3),0)) else (none)) else (none)) else (none)) else (none)) else (none))) else (none)) = some (r1,r2) := H
     have A10 := za.mk A100
     clear A100
     by_cases c11 : ((zz ByteArray.empty t121 0) ++ (zz ByteArray.empty t121 1)).size + t126.size ≤ 9223372036854775807
     ·rw [if_pos c11] at H
      have c11b0 := eq_true c11
      have c11b1 : decide (((zz ByteArray.empty t121 0) ++ (zz ByteArray.empty t121 1)).size + t126.size ≤ 9223372036854775807) = true := decide_eq_true c11
      try have c11b2 : (9223372036854775807 < ((zz ByteArray.empty t121 0) ++ (zz ByteArray.empty t121 1)).size + t126.size) = False := eq_false (Nat.not_lt.2 c11)
      try (have c11b3 := c11;simp [ByteArray.size_append] at c11b3;have c11b4 := eq_false (Nat.not_lt.2 c11b3);clear c11b3)
      replace H := Option.bind_eq_some_iff.mp H
      obtain ⟨t127,A120,H⟩ := H
      replace H : (if (((zz ByteArray.empty t121 0) ++ (zz ByteArray.empty t121 1)) ++ t126).size + t127.size ≤ 9223372036854775807 then (if 2 < (t121.length : Int) then (if ((((zz ByteArray.empty t121 0) ++ (zz ByteArray.empty t121 1)) ++ t126) ++ t127).size + (zz ByteArray.empty t121 2).size ≤ 9223372036854775807 then (if 3 < (t121.length : Int) then (if (((((zz ByteArray.empty t121 0) ++ (zz ByteArray.empty t121 1)) ++ t126) ++ t127) ++ (zz ByteArray.empty t121 2)).size + (zz ByteArray.empty t121 3).size ≤ 9223372036854775807 then (some ((((((zz ByteArray.empty t121 0) ++ (zz ByteArray.empty t121 1)) ++ t126) ++ t127) ++ (zz ByteArray.empty t121 2)) ++ (zz ByteArray.empty t121 3),0)) else (none)) else (none)) else (none)) else (none)) else (none)) = some (r1,r2) := H
      have A12 := za.mk A120
      clear A120
      by_cases c13 : (((zz ByteArray.empty t121 0) ++ (zz ByteArray.empty t121 1)) ++ t126).size + t127.size ≤ 9223372036854775807
      ·rw [if_pos c13] at H
       have c13b0 := eq_true c13
       have c13b1 : decide ((((zz ByteArray.empty t121 0) ++ (zz ByteArray.empty t121 1)) ++ t126).size + t127.size ≤ 9223372036854775807) = true := decide_eq_true c13
       try have c13b2 : (9223372036854775807 < (((zz ByteArray.empty t121 0) ++ (zz ByteArray.empty t121 1)) ++ t126).size + t127.size) = False := eq_false (Nat.not_lt.2 c13)
       try (have c13b3 := c13;simp [ByteArray.size_append] at c13b3;have c13b4 := eq_false (Nat.not_lt.2 c13b3);clear c13b3)
       by_cases c14 : 2 < (t121.length : Int)
       ·rw [if_pos c14] at H
        have c14b0 : decide (2 < (t121.length : Int)) = true := decide_eq_true c14
        have c14b1 : decide (2 < t121.length) = true := decide_eq_true (by omega)
        clear c14
        by_cases c15 : ((((zz ByteArray.empty t121 0) ++ (zz ByteArray.empty t121 1)) ++ t126) ++ t127).size + (zz ByteArray.empty t121 2).size ≤ 9223372036854775807
        ·rw [if_pos c15] at H
         have c15b0 := eq_true c15
         have c15b1 : decide (((((zz ByteArray.empty t121 0) ++ (zz ByteArray.empty t121 1)) ++ t126) ++ t127).size + (zz ByteArray.empty t121 2).size ≤ 9223372036854775807) = true := decide_eq_true c15
         try have c15b2 : (9223372036854775807 < ((((zz ByteArray.empty t121 0) ++ (zz ByteArray.empty t121 1)) ++ t126) ++ t127).size + (zz ByteArray.empty t121 2).size) = False := eq_false (Nat.not_lt.2 c15)
         try (have c15b3 := c15;simp [ByteArray.size_append] at c15b3;have c15b4 := eq_false (Nat.not_lt.2 c15b3);clear c15b3)
         by_cases c16 : 3 < (t121.length : Int)
         ·rw [if_pos c16] at H
          have c16b0 : decide (3 < (t121.length : Int)) = true := decide_eq_true c16
          have c16b1 : decide (3 < t121.length) = true := decide_eq_true (by omega)
          clear c16
          by_cases c17 : (((((zz ByteArray.empty t121 0) ++ (zz ByteArray.empty t121 1)) ++ t126) ++ t127) ++ (zz ByteArray.empty t121 2)).size + (zz ByteArray.empty t121 3).size ≤ 9223372036854775807
          ·rw [if_pos c17] at H
           have c17b0 := eq_true c17
           have c17b1 : decide ((((((zz ByteArray.empty t121 0) ++ (zz ByteArray.empty t121 1)) ++ t126) ++ t127) ++ (zz ByteArray.empty t121 2)).size + (zz ByteArray.empty t121 3).size ≤ 9223372036854775807) = true := decide_eq_true c17
           try have c17b2 : (9223372036854775807 < (((((zz ByteArray.empty t121 0) ++ (zz ByteArray.empty t121 1)) ++ t126) ++ t127) ++ (zz ByteArray.empty t121 2)).size + (zz ByteArray.empty t121 3).size) = False := eq_false (Nat.not_lt.2 c17)
           try (have c17b3 := c17;simp [ByteArray.size_append] at c17b3;have c17b4 := eq_false (Nat.not_lt.2 c17b3);clear c17b3)
           simp only [Option.some.injEq,Prod.mk.injEq] at H
           obtain ⟨rfl,rfl⟩ := H
           go_enter Try.func49,Try.ntmps49
           try go_wp2_with (first | ((with_reducible refine zp (N := 2) rfl ?_);refine zn rfl (N := 2) rfl (cs := #[.int .i64 a0_0,.int .i64 a0_1,.slice A0_2 l0_2.length c0_2,.slice A0_3 l0_3.length c0_3,.int .i64 a0_4,.int .i64 a0_5]) (t := 32) hrq ?_;intro gb113 hg w18 hbox hb;have n_ := haq (zh hBq hb) <| haq (hbox) <| haq ((by rw [hg];exact (zj hBq) : w.heap.size ≤ gb113)) <| haq ((by rw [hg];exact (zj hBq) : w.heap.size ≤ gb113)) <| trivial;clear HB;obtain ⟨HB,BK113,GW113,GE113,_⟩ := n_;clear hb hbox hg;obtain ⟨hcz19_0,hcz19_1,hcz19_2,hcz19_3,hcz19_4,hcz19_5,hfz19_0,hfz19_1,hfz19_2,hfz19_3,hfz19_4,hfz19_5⟩ := hcq6 BK113.out) | ((with_reducible refine zN (f := 64) rfl ?_);refine zaG (some 10) rfl rfl Try.func64 (by kernel_rfl) rfl #[.agg #[.int .i64 a0_0,.int .i64 a0_1,.slice A0_2 l0_2.length c0_2,.slice A0_3 l0_3.length c0_3,.int .i64 a0_4,.int .i64 a0_5],.int .i64 a1] rfl hMq ?_;(with_reducible refine (zaj.calls a0_0 a0_1 _ _ l0_2 _ _ l0_3 a0_4 a0_5 a1 true _ ?side1 ?side2 ?side3 ?side4 A3.out).mono ?_);(case side1 => exact hKq (Kd.C_below HR0_2.out HB.out));(case side2 => exact HC0_2.out);(case side3 => exact hKq (Kd.C_below HR0_3.out HB.out));(case side4 => exact HC0_3.out);rintro e w20 ⟨rfl,hb⟩;refine ⟨_,rfl,?_⟩;have n_ := haq (hbq BK113.out hb) <| haq (zh hCq hb) <| trivial;clear BK113 HB;obtain ⟨BK113,HB,_⟩ := n_;(try clear hb);(try clear hb2);(try clear hk);(try clear hi);obtain ⟨hcz21_0,hcz21_1,hcz21_2,hcz21_3,hcz21_4,hcz21_5,hfz21_0,hfz21_1,hfz21_2,hfz21_3,hfz21_4,hfz21_5⟩ := hcq6 BK113.out) | ((with_reducible refine zN (f := 65) rfl ?_);refine zaG (some 14) rfl rfl Try.func65 (by kernel_rfl) rfl #[.slice A0_2 l0_2.length c0_2,.func (.func 66) #[] #[]] rfl hMq ?_;(with_reducible refine (zap.calls _ _ l0_2 t115 _ ?side1 ?side2 A5.out).mono ?_);(case side1 => exact hKq (Kd.C_below HR0_2.out HB.out));(case side2 => exact HC0_2.out);rintro e w22 ⟨v116,rfl,ho0,hb⟩;refine ⟨_,rfl,?_⟩;have n_ := haq (Kd.R_lower ho0 (zj hCq)) <| haq (hbq BK113.out hb) <| haq (zh hCq hb) <| trivial;clear BK113 HB;obtain ⟨HO117,BK113,HB,_⟩ := n_;(try clear hb);(try clear hb2);(try clear hk);(try clear hi);(try clear ho0);obtain ⟨hcz23_0,hcz23_1,hcz23_2,hcz23_3,hcz23_4,hcz23_5,hfz23_0,hfz23_1,hfz23_2,hfz23_3,hfz23_4,hfz23_5⟩ := hcq6 BK113.out) | ((with_reducible refine zp (N := 25) rfl ?_);refine Kd.R_lit (Kd.int .i64) _ 3 ?hg (N := 25) ?hd (xs := ([a0_0,a0_1,a0_4,a0_5] : List Int)) (inner := [.int .i64 a0_0,.int .i64 a0_1,.int .i64 a0_4,.int .i64 a0_5]) (ok := fun _ => True) (okp := fun _ => True) ?hr ?hp (fun _ hk => hk) trivial (Below.refl _ _) (Nat.le_refl _) (by simp) ?_;(case hd => rfl);(case hg => rfl);(case hr => first | (go_simp;done) | (go_simp;rfl));(case hp => exact (zao.one (show Kd.M (Kd.int .i64) _ _ _ a0_0 [.int .i64 a0_0] from rfl) (zao.one (show Kd.M (Kd.int .i64) _ _ _ a0_1 [.int .i64 a0_1] from rfl) (zao.one (show Kd.M (Kd.int .i64) _ _ _ a0_4 [.int .i64 a0_4] from rfl) (zao.one (show Kd.M (Kd.int .i64) _ _ _ a0_5 [.int .i64 a0_5] from rfl) (zao.none _ _))))));intro v119 w24 ho25 hb hg_ hnew_;clear hg_ hnew_;(first | rw [← Ny118.out] at ho25 | (simp only [Int.reduceToNat] at ho25;rw [← Ny118.out] at ho25));have n_ := haq (Kd.R_below (hRq HO117.out) hb) <| haq (Kd.R_lower ho25 (zj hCq)) <| haq (hbq BK113.out hb) <| haq (zh hCq hb) <| trivial;clear HO117 BK113 HB;obtain ⟨HO117,HO120,BK113,HB,_⟩ := n_;clear hb ho25;obtain ⟨Ao26,co26,eo26⟩ := Kd.R_slice HO120.out;subst eo26) | ((with_reducible refine zN (f := 68) rfl ?_);refine zaG (some 26) rfl rfl Try.func68 (by kernel_rfl) rfl #[.slice Ao26 y118.length co26,.func (.func 69) #[] #[]] rfl hMq ?_;(with_reducible refine (zad.calls _ _ y118 t121 _ ?side1 ?side2 A6.out).mono ?_);(case side1 => repeat (first | exact (Kd.R_reads' HO120.out).2.2 | (with_reducible refine Kd.C_alloc ?_ _) | (with_reducible refine Kd.C_drewN ?_ _) | (with_reducible refine Kd.C_drew ?_)));(case side2 => exact (Kd.R_reads' HO120.out).2.1);rintro e w27 ⟨v122,rfl,ho0,hb⟩;refine ⟨_,rfl,?_⟩;have n_ := haq (Kd.R_elder' (hRq HO117.out) (Kd.R_base ho0) hb) <| haq (Kd.R_below (hRq HO120.out) hb) <| haq (Kd.R_lower (Kd.R_new' ho0 (Kd.R_lt (hRq HO117.out))) (zj hCq)) <| haq (hbq BK113.out hb) <| haq (zh hCq hb) <| trivial;clear HO117 HO120 BK113 HB;obtain ⟨HO117,HO120,HO123,BK113,HB,_⟩ := n_;(try clear hb);(try clear hb2);(try clear hk);(try clear hi);(try clear ho0)))
           have n0_ := za.mk (Kd.R_drew HO117.out)
           have n1_ := za.mk (Kd.R_drew HO120.out)
           have n2_ := za.mk (Kd.R_drew HO123.out)
           have n3_ := za.mk (zG BK113.out)
           have n4_ := za.mk (zx HB.out)
           clear HO117
           clear HO120
           clear HO123
           clear BK113
           clear HB
           have HO117 := n0_
           have HO120 := n1_
           have HO123 := n2_
           have BK113 := n3_
           have HB := n4_
           clear n0_ n1_ n2_ n3_ n4_
           obtain ⟨Ao29,co29,eo29⟩ := Kd.R_slice HO123.out
           (first | subst eo29 | (injection eo29 with f1_ f2_ f3_;have f4_ := f1_.symm;have f5_ := f3_.symm;clear f1_ f2_ f3_;subst f4_;subst f5_))
           have p124 : 0 ≤ (0 : Int) := (by omega)
           have q124 : 0 < (t121.length : Int) := hFq
           obtain ⟨ad124,e124,hx124_0⟩ := Kd.at_string (Kd.R_reads' HO123.out).2.2 0 p124 q124
           cases e124
           have qi124 : (0 < t121.length) = True := eq_true (by omega)
           (try rw [show ((0 : Int)).toNat = 0 from rfl] at hx124_0)
           (try rw [Addr.add_zero'] at hx124_0)
           replace p124 := eq_true p124
           replace q124 := eq_true q124
           have p125 : 0 ≤ (1 : Int) := (by omega)
           have q125 : 1 < (t121.length : Int) := hFq
           obtain ⟨ad125,e125,hx125_0⟩ := Kd.at_string (Kd.R_reads' HO123.out).2.2 1 p125 q125
           obtain rfl : ad124 = ad125 := (by injection e125)
           (try simp only [show (1 : Int).toNat = 1 from rfl,Nat.reduceMul,Nat.reduceEqDiff,Go.Addr.add,↓reduceIte] at hx125_0)
           have qi125 : (1 < t121.length) = True := eq_true (by omega)
           (try rw [show ((1 : Int)).toNat = 1 from rfl] at hx125_0)
           replace p125 := eq_true p125
           replace q125 := eq_true q125
           have p128 : 0 ≤ (2 : Int) := (by omega)
           have q128 : 2 < (t121.length : Int) := hFq
           obtain ⟨ad128,e128,hx128_0⟩ := Kd.at_string (Kd.R_reads' HO123.out).2.2 2 p128 q128
           obtain rfl : ad124 = ad128 := (by injection e128)
           (try simp only [show (2 : Int).toNat = 2 from rfl,Nat.reduceMul,Nat.reduceEqDiff,Go.Addr.add,↓reduceIte] at hx128_0)
           have qi128 : (2 < t121.length) = True := eq_true (by omega)
           (try rw [show ((2 : Int)).toNat = 2 from rfl] at hx128_0)
           replace p128 := eq_true p128
           replace q128 := eq_true q128
           have p129 : 0 ≤ (3 : Int) := (by omega)
           have q129 : 3 < (t121.length : Int) := hFq
           obtain ⟨ad129,e129,hx129_0⟩ := Kd.at_string (Kd.R_reads' HO123.out).2.2 3 p129 q129
           obtain rfl : ad124 = ad129 := (by injection e129)
           (try simp only [show (3 : Int).toNat = 3 from rfl,Nat.reduceMul,Nat.reduceEqDiff,Go.Addr.add,↓reduceIte] at hx129_0)
           have qi129 : (3 < t121.length) = True := eq_true (by omega)
           (try rw [show ((3 : Int)).toNat = 3 from rfl] at hx129_0)
           replace p129 := eq_true p129
           replace q129 := eq_true q129
           obtain ⟨Ao30,co30,eo30⟩ := Kd.R_slice HO117.out
           (first | subst eo30 | (injection eo30 with f1_ f2_ f3_;have f4_ := f1_.symm;have f5_ := f3_.symm;clear f1_ f2_ f3_;subst f4_;subst f5_))
           refine zbk (n := 24) (S := fun w' => w'.cell? ⟨gb113,0,none⟩ = some (.int .i64 a0_0) ∧ w'.cell? ⟨gb113,1,none⟩ = some (.int .i64 a0_1) ∧ w'.cell? ⟨gb113,2,none⟩ = some (.slice A0_2 l0_2.length c0_2) ∧ w'.cell? ⟨gb113,3,none⟩ = some (.slice A0_3 l0_3.length c0_3) ∧ w'.cell? ⟨gb113,4,none⟩ = some (.int .i64 a0_4) ∧ w'.cell? ⟨gb113,5,none⟩ = some (.int .i64 a0_5) ∧ w'.cell? ad124 = some (.string (zz ByteArray.empty t121 0)) ∧ w'.cell? ⟨ad124.block,ad124.off + 1,none⟩ = some (.string (zz ByteArray.empty t121 1)) ∧ w'.cell? ⟨ad124.block,ad124.off + 2,none⟩ = some (.string (zz ByteArray.empty t121 2)) ∧ w'.cell? ⟨ad124.block,ad124.off + 3,none⟩ = some (.string (zz ByteArray.empty t121 3))) (ds := []) (uQ 24 0) (by kernel_rfl) rfl rfl ⟨(zb BK113.out 0).trans rfl,(zb BK113.out 1).trans rfl,(zb BK113.out 2).trans rfl,(zb BK113.out 3).trans rfl,(zb BK113.out 4).trans rfl,(zb BK113.out 5).trans rfl,hx124_0,hx125_0,hx128_0,hx129_0⟩ (fun hHeld => ?_);refine zaz zag.tab5 zag.bits5 (fun HT_ HW_ => ?_)
           generalize w27.drew = w28 at HO117 HO120 HO123 BK113 HB hx124_0 hx125_0 hx128_0 hx129_0 hHeld ⊢
           refine puq (i := 0) (N := some 27) HT_.out (uQ 24 1) ?_
           refine puq (i := 1) (N := some 28) HT_.out (uQ 24 2) ?_
           refine puq (i := 3) (N := some 30) HT_.out #[true,true,false,true,false,false,false,false,false,false,false,false,false,false,false,false,false,false,false,false,false,false,false,false] ?_
           refine puq (i := 4) (N := some 31) HT_.out #[true,true,false,true,true,false,false,false,false,false,false,false,false,false,false,false,false,false,false,false,false,false,false,false] ?_
           refine puq (i := 7) (N := some 34) HT_.out #[true,true,false,true,true,false,false,true,false,false,false,false,false,false,false,false,false,false,false,false,false,false,false,false] ?_
           refine puq (i := 10) (N := some 37) HT_.out #[true,true,false,true,true,false,false,true,false,false,true,false,false,false,false,false,false,false,false,false,false,false,false,false] ?_
           refine puq (i := 14) (N := some 41) HT_.out #[true,true,false,true,true,false,false,true,false,false,true,false,false,false,true,false,false,false,false,false,false,false,false,false] ?_
           refine puq (i := 15) (N := some 42) HT_.out #[true,true,false,true,true,false,false,true,false,false,true,false,false,false,true,true,false,false,false,false,false,false,false,false] ?_
           refine puq (i := 18) (N := some 45) HT_.out #[true,true,false,true,true,false,false,true,false,false,true,false,false,false,true,true,false,false,true,false,false,false,false,false] ?_
           refine puq (i := 19) (N := some 46) HT_.out #[true,true,false,true,true,false,false,true,false,false,true,false,false,false,true,true,false,false,true,true,false,false,false,false] ?_
           refine take_ (i := 2) (N := some 29) #[true,true,true,true,true,false,false,true,false,false,true,false,false,false,true,true,false,false,true,true,false,false,false,false] rfl rfl (zI HT_.out HW_.out (by kernel_rfl)) (fun _ _ _ h => h) (Or.inl ⟨by rfl,by rintro w' ⟨s0,s1,s2,s3,s4,s5,s6,s7,s8,s9⟩;go_simp;with_reducible rfl⟩) hHeld hPq ?_
           refine take_ (i := 5) (N := some 32) #[true,true,true,true,true,true,false,true,false,false,true,false,false,false,true,true,false,false,true,true,false,false,false,false] rfl rfl (zI HT_.out HW_.out (by kernel_rfl)) (fun _ _ _ h => h) (Or.inl ⟨by rfl,by rintro w' ⟨s0,s1,s2,s3,s4,s5,s6,s7,s8,s9⟩;go_simp;with_reducible rfl⟩) hHeld hPq ?_
           refine puq (i := 6) (N := some 33) HT_.out #[true,true,true,true,true,true,true,true,false,false,true,false,false,false,true,true,false,false,true,true,false,false,false,false] ?_
           refine take_ (i := 11) (N := some 38) #[true,true,true,true,true,true,true,true,false,false,true,true,false,false,true,true,false,false,true,true,false,false,false,false] rfl rfl (zI HT_.out HW_.out (by kernel_rfl)) (fun _ _ _ h => h) (Or.inl ⟨by rfl,by rintro w' ⟨s0,s1,s2,s3,s4,s5,s6,s7,s8,s9⟩;go_simp;with_reducible rfl⟩) hHeld hPq ?_
           refine take_ (i := 16) (N := some 43) #[true,true,true,true,true,true,true,true,false,false,true,true,false,false,true,true,true,false,true,true,false,false,false,false] rfl rfl (zI HT_.out HW_.out (by kernel_rfl)) (fun _ _ _ h => h) (Or.inl ⟨by rfl,by rintro w' ⟨s0,s1,s2,s3,s4,s5,s6,s7,s8,s9⟩;go_simp;with_reducible rfl⟩) hHeld hPq ?_
           refine take_ (i := 20) (N := some 47) #[true,true,true,true,true,true,true,true,false,false,true,true,false,false,true,true,true,false,true,true,true,false,false,false] rfl rfl (zI HT_.out HW_.out (by kernel_rfl)) (fun _ _ _ h => h) (Or.inl ⟨by rfl,by rintro w' ⟨s0,s1,s2,s3,s4,s5,s6,s7,s8,s9⟩;go_simp;with_reducible rfl⟩) hHeld hPq ?_
           refine zb6 (i := 8) (N := some 35) #[true,true,true,true,true,true,true,true,true,false,true,true,false,false,true,true,true,false,true,true,true,false,false,false] rfl rfl (zaO HT_.out (by kernel_rfl)) (by decide) (fun K hK => ?_)
           refine za8 Try.func71 (by kernel_rfl) rfl #[.slice Ao30 t115.length co30] (by rfl) rfl rfl hMq ?_
           with_reducible refine (zK.calls _ _ t115 t126 _ ?side1 ?side2 A10.out).mono ?_
           (case side1 => repeat (first | exact (Kd.R_reads' HO117.out).2.2 | (with_reducible refine Kd.C_alloc ?_ _) | (with_reducible refine Kd.C_drewN ?_ _) | (with_reducible refine Kd.C_drew ?_)))
           (case side2 => exact (Kd.R_reads' HO117.out).2.1)
           rintro e w31 ⟨rfl,hb⟩
           have HS6_ := (hb.cell (World.block_lt_of_cell? _ _ (hHeld.2.2.2.2.2.2.1))).trans (hHeld.2.2.2.2.2.2.1)
           have HS7_ := (hb.cell (World.block_lt_of_cell? _ _ (hHeld.2.2.2.2.2.2.2.1))).trans (hHeld.2.2.2.2.2.2.2.1)
           have HS8_ := (hb.cell (World.block_lt_of_cell? _ _ (hHeld.2.2.2.2.2.2.2.2.1))).trans (hHeld.2.2.2.2.2.2.2.2.1)
           have HS9_ := (hb.cell (World.block_lt_of_cell? _ _ (hHeld.2.2.2.2.2.2.2.2.2))).trans (hHeld.2.2.2.2.2.2.2.2.2)
           refine ⟨_,rfl,?_⟩
           have n0_ := za.mk (Kd.R_below (hRq HO117.out) hb)
           have n1_ := za.mk (Kd.R_below (hRq HO120.out) hb)
           have n2_ := za.mk (Kd.R_below (hRq HO123.out) hb)
           have n3_ := za.mk (hbq BK113.out hb)
           have n4_ := za.mk (zh hCq hb)
           clear HO117
           clear HO120
           clear HO123
           clear BK113
           clear HB
           have HO117 := n0_
           have HO120 := n1_
           have HO123 := n2_
           have BK113 := n3_
           have HB := n4_
           clear n0_ n1_ n2_ n3_ n4_
           (try clear hb)
           (try clear hb2)
           (try clear hk)
           (try clear hi)
           refine hK.out _ _ ⟨(zb BK113.out 0).trans rfl,(zb BK113.out 1).trans rfl,(zb BK113.out 2).trans rfl,(zb BK113.out 3).trans rfl,(zb BK113.out 4).trans rfl,(zb BK113.out 5).trans rfl,HS6_,HS7_,HS8_,HS9_⟩ (fun hHeld => ?_)
           clear hK K
           refine za9 (a' := ?_) ?_ ?_
           rotate_left
           ·show Act.put _ (some 35) _ = _
            simp only [Act.put,List.setIfInBounds_toArray,List.set_cons_zero,List.set_cons_succ,z8,zaa]
            rfl
           refine puq (i := 9) (N := some 36) HT_.out #[true,true,true,true,true,true,true,true,true,true,true,true,false,false,true,true,true,false,true,true,true,false,false,false] ?_
           refine zb6 (i := 12) (N := some 39) #[true,true,true,true,true,true,true,true,true,true,true,true,true,false,true,true,true,false,true,true,true,false,false,false] rfl rfl (zaO HT_.out (by kernel_rfl)) (by decide) (fun K hK => ?_)
           refine za8 Try.func71 (by kernel_rfl) rfl #[.slice A0_3 l0_3.length c0_3] (by rfl) rfl rfl hMq ?_
           with_reducible refine (zK.calls _ _ l0_3 t127 _ ?side1 ?side2 A12.out).mono ?_
           (case side1 => exact hKq (Kd.C_below HR0_3.out HB.out))
           (case side2 => exact HC0_3.out)
           rintro e w32 ⟨rfl,hb⟩
           have HS6_ := (hb.cell (World.block_lt_of_cell? _ _ (hHeld.2.2.2.2.2.2.1))).trans (hHeld.2.2.2.2.2.2.1)
           have HS7_ := (hb.cell (World.block_lt_of_cell? _ _ (hHeld.2.2.2.2.2.2.2.1))).trans (hHeld.2.2.2.2.2.2.2.1)
           have HS8_ := (hb.cell (World.block_lt_of_cell? _ _ (hHeld.2.2.2.2.2.2.2.2.1))).trans (hHeld.2.2.2.2.2.2.2.2.1)
           have HS9_ := (hb.cell (World.block_lt_of_cell? _ _ (hHeld.2.2.2.2.2.2.2.2.2))).trans (hHeld.2.2.2.2.2.2.2.2.2)
           refine ⟨_,rfl,?_⟩
           have n0_ := za.mk (Kd.R_below (hRq HO117.out) hb)
           have n1_ := za.mk (Kd.R_below (hRq HO120.out) hb)
           have n2_ := za.mk (Kd.R_below (hRq HO123.out) hb)
           have n3_ := za.mk (hbq BK113.out hb)
           have n4_ := za.mk (zh hCq hb)
           clear HO117
           clear HO120
           clear HO123
           clear BK113
           clear HB
           have HO117 := n0_
           have HO120 := n1_
           have HO123 := n2_
           have BK113 := n3_
           have HB := n4_
           clear n0_ n1_ n2_ n3_ n4_
           (try clear hb)
           (try clear hb2)
           (try clear hk)
           (try clear hi)
           refine hK.out _ _ ⟨(zb BK113.out 0).trans rfl,(zb BK113.out 1).trans rfl,(zb BK113.out 2).trans rfl,(zb BK113.out 3).trans rfl,(zb BK113.out 4).trans rfl,(zb BK113.out 5).trans rfl,HS6_,HS7_,HS8_,HS9_⟩ (fun hHeld => ?_)
           clear hK K
           refine za9 (a' := ?_) ?_ ?_
           rotate_left
           ·show Act.put _ (some 39) _ = _
            simp only [Act.put,List.setIfInBounds_toArray,List.set_cons_zero,List.set_cons_succ,z8,zaa]
            rfl
           refine puq (i := 13) (N := some 40) HT_.out #[true,true,true,true,true,true,true,true,true,true,true,true,true,true,true,true,true,false,true,true,true,false,false,false] ?_
           refine puq (i := 17) (N := some 44) HT_.out (uQ 24 21) ?_
           refine puq (i := 21) (N := some 48) HT_.out (uQ 24 22) ?_
           refine puq (i := 22) (N := some 4) HT_.out (uQ 24 23) ?_
           refine puq (i := 23) (N := some 5) HT_.out (uQ 24 24) ?_
           refine zbl (zaF HT_.out (by kernel_rfl)) ?_
           try go_wp2
           go_ret2
           exact ⟨hHq,hCq⟩
          ·rw [if_neg c17] at H
           exact absurd H (by simp)
         ·rw [if_neg c16] at H
          exact absurd H (by simp)
        ·rw [if_neg c15] at H
         exact absurd H (by simp)
       ·rw [if_neg c14] at H
        exact absurd H (by simp)
      ·rw [if_neg c13] at H
       exact absurd H (by simp)
     ·rw [if_neg c11] at H
      exact absurd H (by simp)
    ·rw [if_neg c9] at H
     exact absurd H (by simp)
   ·rw [if_neg c8] at H
    exact absurd H (by simp)
  ·rw [if_neg c7] at H
   exact absurd H (by simp)
 ·replace c4 := Bool.eq_false_iff.mpr c4
  subst c4
  have H1 : (some ((⟨#[]⟩ : ByteArray),1)) = some (r1,r2) := by rw [if_neg (show ¬ (false = true) by decide)] at H;exact H
  clear H
  have H := H1
  clear H1
  simp only [Option.some.injEq,Prod.mk.injEq] at H
  obtain ⟨rfl,rfl⟩ := H
  go_enter Try.func49,Try.ntmps49
  go_wp2_with (first | ((with_reducible refine zp (N := 2) rfl ?_);refine zn rfl (N := 2) rfl (cs := #[.int .i64 a0_0,.int .i64 a0_1,.slice A0_2 l0_2.length c0_2,.slice A0_3 l0_3.length c0_3,.int .i64 a0_4,.int .i64 a0_5]) (t := 32) hrq ?_;intro gb113 hg w33 hbox hb;have n_ := haq (zh hBq hb) <| haq (hbox) <| haq ((by rw [hg];exact (zj hBq) : w.heap.size ≤ gb113)) <| haq ((by rw [hg];exact (zj hBq) : w.heap.size ≤ gb113)) <| trivial;clear HB;obtain ⟨HB,BK113,GW113,GE113,_⟩ := n_;clear hb hbox hg;obtain ⟨hcz34_0,hcz34_1,hcz34_2,hcz34_3,hcz34_4,hcz34_5,hfz34_0,hfz34_1,hfz34_2,hfz34_3,hfz34_4,hfz34_5⟩ := hcq6 BK113.out) | ((with_reducible refine zN (f := 64) rfl ?_);refine zaG (some 10) rfl rfl Try.func64 (by kernel_rfl) rfl #[.agg #[.int .i64 a0_0,.int .i64 a0_1,.slice A0_2 l0_2.length c0_2,.slice A0_3 l0_3.length c0_3,.int .i64 a0_4,.int .i64 a0_5],.int .i64 a1] rfl hMq ?_;(with_reducible refine (zaj.calls a0_0 a0_1 _ _ l0_2 _ _ l0_3 a0_4 a0_5 a1 false _ ?side1 ?side2 ?side3 ?side4 A3.out).mono ?_);(case side1 => exact hKq (Kd.C_below HR0_2.out HB.out));(case side2 => exact HC0_2.out);(case side3 => exact hKq (Kd.C_below HR0_3.out HB.out));(case side4 => exact HC0_3.out);rintro e w35 ⟨rfl,hb⟩;refine ⟨_,rfl,?_⟩;have n_ := haq (hbq BK113.out hb) <| haq (zh hCq hb) <| trivial;clear BK113 HB;obtain ⟨BK113,HB,_⟩ := n_;(try clear hb);(try clear hb2);(try clear hk);(try clear hi)))
  go_ret2
  exact ⟨hHq,hCq⟩
end Go.Proofs.Ytndjfdakflaggaa.Px